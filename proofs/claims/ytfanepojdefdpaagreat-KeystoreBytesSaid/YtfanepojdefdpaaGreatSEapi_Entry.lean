/- Plain texts, joined. No program is in sight here. -/
import Derived.Test.YtfanepojdefdpaaGreatL3
import Derived.Sort.AssemblyPlain
set_option linter.unusedVariables false
set_option linter.unusedSimpArgs false
namespace Go.Proofs.YtfanepojdefdpaaGreat
section
open Go Go.Sort
theorem uZ {x:Int} (hx:0<=x) (k:Nat) (hk:k<=64):Sa .u64 x (k:Int)=some (x / 2 ^ k):=by
 unfold Sa
 rw [if_neg (by omega)]
 have e:min ((k:Int)).toNat IntKind.u64.bits=k:=by
  show min ((k:Int)).toNat 64=k
  omega
 rw [e,aHq _ (Int.le_of_lt (Int.pow_pos (by decide)))]
noncomputable def rF (x:Nat):Bool:=match A9.j3 (x:Int) 0 with | some L=>decide (0<=L/\L<=8/\x < 2 ^ L.toNat/\(x=0\/2 ^ L.toNat<=2 * x)) | none=>false
theorem jN:(List.range 256).all rF=true:=by decide +kernel
theorem aA0 (x n:Int):A9.j3 x n=(A9.j3 x 0).bind fun c=>some (W (n + c)):=by
 unfold A9.j3
 cases idxT _ ((u8 x).toNat:Int) with
 | none=>rfl
 | some c=>
  have:=c.toNat_lt
  show some (W (n + (c.toNat:Int)))=some (W (n + W (0 + (c.toNat:Int))))
  rw [Fx (x:=0 + (c.toNat:Int)) (by omega),Int.zero_add]
theorem wY (x:Nat) (hx:x < 256):∃ L:Nat,L<=8/\x < 2 ^ L/\(x=0\/2 ^ L<=2 * x)/\∀ n:Nat,n < 1000->A9.j3 (x:Int) (n:Int)=some ((n + L:Nat):Int):=by
 have h:=aEb.1 jN x (aG2.2 hx)
 unfold rF at h
 cases hj:A9.j3 (x:Int) 0 with
 | none=>rw [hj] at h; cases h
 | some L=>
  rw [hj] at h
  obtain⟨h1,h2,h3,h4⟩:=aE4 h
  refine⟨L.toNat,by omega,h3,h4,fun n hn=>?_⟩
  rw [aA0,hj,aAo,Fx (by omega)]
  exact congrArg some (by omega)
theorem aBl (x:Nat) (hx:x < 65536):∃ L:Nat,L<=16/\x < 2 ^ L/\(x=0\/2 ^ L<=2 * x)/\Hv (x:Int)=some (L:Int):=by
 by_cases h:x < 256
 ·obtain⟨L,h1,h2,h3,h4⟩:=wY x h
  refine⟨L,by omega,h2,h3,?_⟩
  have h5:A9.j3 (x:Int) 0=some (L:Int):=by
   have h6:=h4 0 (by omega)
   rw [aE6] at h6
   exact h6
  unfold Hv A9 A9.j1 A9.j2
  rw [aBo (by omega),aCc,aBo (by omega),aCc,aBo (by omega),aCc]
  rw [h5,aAo]
 ·obtain⟨L,h1,h2,h3,h4⟩:=wY (x / 256) (by omega)
  refine⟨8 + L,by omega,?_,?_,?_⟩
  ·rw [Nat.pow_add]; omega
  ·rw [Nat.pow_add]; omega
  ·have h5:=h4 8 (by omega)
   unfold Hv A9 A9.j1 A9.j2
   rw [aBo (by omega),aCc,aBo (by omega),aCc,aBu (by omega),aEu]
   have e:Sa .u64 (x:Int) 8=some ((x / 256:Nat):Int):=by
    rw [show (8:Int)=((8:Nat):Int) from rfl,uZ (by omega) 8 (by omega)]
    rfl
   rw [e,aAo,show W (0 + 8)=((8:Nat):Int) from rfl,h5,aAo]
theorem pO {x:Int} (h:0<=x/\x < 18446744073709551616):IntKind.u64.wrap x=x:=by
 have e:IntKind.u64.wrap x=x % 18446744073709551616:=by simp [IntKind.wrap,IntKind.bits,IntKind.signed]
 rw [e]; omega
end
section
open Go Go.Sort
section
variable {cmp:Ac->Ac->Option Int} {lt:Ac->Ac->Bool} {P:Ac->Prop}
def Hw (cmp:Ac->Ac->Option Int) (lt:Ac->Ac->Bool) (P:Ac->Prop):Prop:=∀ x y,P x->P y->∃ n,cmp x y=some n/\decide (n < 0)=lt x y
def F9 (P:Ac->Prop) (d:Array Ac):Prop:=d.size<=1000000000/\∀ i,i < d.size->P d[i]!
theorem Ix (d:Array Ac) (i j:Nat):(swp d i j).size=d.size:=by simp [swp]
theorem F9.swp {d:Array Ac} (h:F9 P d) {i j:Nat} (hi:i < d.size) (hj:j < d.size):F9 P (Sort.swp d i j):=by
 refine⟨by rw [Ix]; exact h.1,fun k hk=>?_⟩
 rw [Ix] at hk
 unfold Sort.swp
 by_cases h1:j=k
 ·subst h1
  rw [aHj ((d.setIfInBounds i d[j]!).setIfInBounds j d[i]!) _ (by simpa using hk)]
  simp only [Array.getElem_setIfInBounds_self]
  exact h.2 i hi
 ·by_cases h2:i=k
  ·subst h2
   rw [aHj ((d.setIfInBounds i d[j]!).setIfInBounds j d[i]!) _ (by simpa using hk)]
   rw [aHb (by simpa using hk) (by omega)]
   simp only [Array.getElem_setIfInBounds_self]
   exact h.2 j hj
  ·rw [aHj _ _ (by simpa using hk)]
   rw [aHb (by simpa using hk) (by omega),aHb (by simpa using hk) (by omega)]
   have:=h.2 k hk
   rwa [aHj d k hk] at this
theorem Mf {d:Array Ac} {i:Nat} (h:i < d.size) {k:Int} (hk:k=(i:Int)):C4 d.toList k=some d[i]!:=by
 subst hk
 rw [Fs,aHh,aFq h,aHj d i h]
theorem Ms (d:Array Ac) (i:Nat) (x:Ac):Jy d.toList i x=(d.setIfInBounds i x).toList:=by
 unfold Jy
 simp
theorem bD {d:Array Ac} {i:Nat} {x:Ac} {j:Nat} (h:i < d.size) {k:Int} (hk:k=(i:Int)):∃ y,C4 (Jy d.toList j x) k=some y:=by
 subst hk
 rw [Fs]
 exact⟨_,aA1 (by unfold Jy; simpa using h)⟩
theorem aU (d:Array Ac) (i j:Nat):Jy (Jy d.toList i d[j]!) j d[i]! = (Sort.swp d i j).toList:=by
 rw [Ms,Ms]
 rfl
theorem dE (hc:Hw cmp lt P) {d:Array Ac} (h:F9 P d) {i j:Nat} (hi:i < d.size) (hj:j < d.size):∃ n,cmp d[i]! d[j]! = some n/\decide (n < 0)=lt d[i]! d[j]!:=hc _ _ (h.2 i hi) (h.2 j hj)
theorem L2 (hc:Hw cmp lt P) {a i1:Nat}:∀ (j:Nat) (d:Array Ac),j < d.size->F9 P d->
  F9 P (insInner lt a j d)/\(insInner lt a j d).size=d.size/\Dp (fun q'=>Am.l2 (a:Int) cmp (i1:Int) q'.1 q'.2) ((j:Int),d.toList)=some (.next (W ((i1:Int) + 1),(insInner lt a j d).toList))
 | 0,d,hj,hd=>by
  refine⟨hd,rfl,Ln ?_⟩
  show Am.l2 (a:Int) cmp (i1:Int) ((0:Nat):Int) d.toList=_
  unfold Am.l2
  rw [aBo (by omega)]
  rfl
 | j + 1,d,hj,hd=>by
  have hsz:=hd.1
  have hW:W (((j + 1:Nat):Int) - 1)=(j:Int):=by rw [Fx (by omega)]; omega
  unfold insInner
  by_cases ha:a < j + 1
  ·obtain⟨n,h1,h2⟩:=dE hc hd hj (show j < d.size by omega)
   have hbody:∀ r,Am.j3 (i1:Int) ((j + 1:Nat):Int) d.toList (lt d[j + 1]! d[j]!)=r->Am.l2 (a:Int) cmp (i1:Int) ((j + 1:Nat):Int) d.toList=r:=fun r hr=>by
    unfold Am.l2
    rw [aBu (by omega),aEu,Mf hj rfl,aAo,Mf (i:=j) (by omega) hW,aAo,h1,aAo,h2]
    exact hr
   cases hl:lt d[j + 1]! d[j]! with
   | true=>
    obtain⟨q1,q2,q3⟩:=L2 hc (i1:=i1) (a:=a) j (Sort.swp d (j + 1) j) (by rw [Ix]; omega) (hd.swp hj (by omega))
    rw [if_pos (by simp [ha])]
    refine⟨q1,by rw [q2,Ix],?_⟩
    have hb':Am.l2 (a:Int) cmp (i1:Int) ((j + 1:Nat):Int) d.toList=some (.next ((j:Int),(Sort.swp d (j + 1) j).toList)):=by
     refine hbody _ ?_
     rw [hl]
     unfold Am.j3
     obtain⟨y,hy⟩:=bD (d:=d) (x:=d[j]!) (j:=(((j + 1:Nat):Int)).toNat) (i:=j) (by omega) hW
     rw [aEu,Mf (i:=j) (by omega) hW,aAo,Mf hj rfl,aAo,hy,aAo,hW]
     have e1:(((j + 1:Nat):Int)).toNat=j + 1:=by omega
     have e2:((j:Int)).toNat=j:=by omega
     rw [e1,e2,aU]
    exact (Hy (body:=fun q'=>Am.l2 (a:Int) cmp (i1:Int) q'.1 q'.2) (s:=(((j + 1:Nat):Int),d.toList)) hb').trans q3
   | false=>
    rw [if_neg (by simp)]
    refine⟨hd,rfl,Ln (hbody _ ?_)⟩
    rw [hl]
    rfl
  ·rw [if_neg (by simp [ha])]
   refine⟨hd,rfl,Ln ?_⟩
   show Am.l2 (a:Int) cmp (i1:Int) ((j + 1:Nat):Int) d.toList=_
   unfold Am.l2
   rw [aBo (by omega)]
   rfl
theorem L1 (hc:Hw cmp lt P) {a b:Nat}:∀ (n i:Nat) (d:Array Ac),b - i=n->b<=d.size->F9 P d->
  Dp (fun q'=>Am.l1 (a:Int) (b:Int) cmp q'.1 q'.2) ((i:Int),d.toList)=some (insOuter lt a b i d).toList
 | 0,i,d,hn,hb,hd=>by
  unfold insOuter
  rw [if_neg (by omega)]
  refine Ln (x:=some d.toList) ?_
  show Am.l1 (a:Int) (b:Int) cmp (i:Int) d.toList=_
  unfold Am.l1
  rw [aBo (by omega)]
  rfl
 | n + 1,i,d,hn,hb,hd=>by
  have hsz:=hd.1
  unfold insOuter
  rw [if_pos (by omega)]
  obtain⟨q1,q2,q3⟩:=L2 hc (a:=a) (i1:=i) i d (by omega) hd
  rw [Hy (s':=(((i + 1:Nat):Int),(insInner lt a i d).toList)) ?_]
  ·exact L1 hc n (i + 1) _ (by omega) (by rw [q2]; exact hb) q1
  ·show Am.l1 (a:Int) (b:Int) cmp (i:Int) d.toList=_
   unfold Am.l1
   rw [aBu (by omega),aEu,q3,F3 (by omega)]
theorem Rl (hc:Hw cmp lt P) {a b:Nat} {d:Array Ac} (hab:a<=b) (hb:b<=d.size) (hd:F9 P d):Am d.toList (a:Int) (b:Int) cmp=some (insertionSort lt d a b).toList:=by
 have hsz:=hd.1
 unfold Am insertionSort
 rw [F3 (by omega)]
 exact L1 hc _ (a + 1) d rfl hb hd
end
end
section
open Go Go.Sort
section
variable {cmp:Ac->Ac->Option Int} {lt:Ac->Ac->Bool} {P:Ac->Prop}
def Lq:Nat:=12
theorem V5 (hS:SWO lt) (hc:Hw cmp lt P) (l:List Ac) (hl:l.length<=Lq) (hP:∀ x∈l,P x) :
  Ok (E5 l cmp) (fun r=>r.Perm l/\r.Pairwise (fun x y=>lt y x=false)):=by
 unfold Lq at hl
 obtain⟨L,_,_,_,h4⟩:=aBl l.length (by omega)
 have hsz:l.toArray.size=l.length:=by simp
 have hA:F9 P l.toArray:=⟨by omega,fun i hi=>by
  rw [aHj l.toArray i hi]
  exact hP _ (by simp)⟩
 obtain⟨k1,k2⟩:=insertionSort_holds hS l.toArray 0 l.toArray.size (aFb _) (aFf _)
 have hi:=Rl hc (a:=0) (b:=l.toArray.size) (aFb _) (aFf _) hA
 generalize insertionSort lt l.toArray 0 l.toArray.size=d' at k1 k2 hi
 have hz:=k1.1
 have hp:A8 l 0 (l.length:Int) (L:Int) cmp=some d'.toList:=by
  unfold A8
  refine Ln ?_
  unfold A8.l1
  rw [hsz] at hi
  have hi':Am l 0 (l.length:Int) cmp=some d'.toList:=hi
  rw [Fx (by omega),aBu (by omega),aEu,hi']
  rfl
 unfold E5
 rw [pO (by omega),h4,aAo,hp,aAo]
 refine Ok.ret ⟨?_,?_⟩
 ·have:=k1.2.2
  have e1:d'.extract 0 l.toArray.size=d':=by
   rw [<- hz]; exact Array.extract_size
  have e2:l.toArray.extract 0 l.toArray.size=l.toArray:=Array.extract_size
  rw [e1,e2] at this
  exact this
 ·rw [aG4]
  intro i j hi hj hij
  have hi':i < d'.size:=by simpa using hi
  have hj':j < d'.size:=by simpa using hj
  have:=k2 i j (aFb _) hij (by omega)
  rw [aHj d' i hi',aHj d' j hj'] at this
  simpa using this
end
end
end Go.Proofs.YtfanepojdefdpaaGreat
