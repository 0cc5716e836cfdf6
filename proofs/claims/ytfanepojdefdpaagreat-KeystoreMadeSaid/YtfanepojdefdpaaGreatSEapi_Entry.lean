/- Plain texts, joined. No program is in sight here. -/
import Derived.Test.YtfanepojdefdpaaGreatL3
import Derived.Sort.AssemblyPlain
set_option linter.unusedVariables false
set_option linter.unusedSimpArgs false
namespace Go.Proofs.YtfanepojdefdpaaGreat
section
open Go Go.Sort
theorem jW {x:Int} (hx:0<=x) (k:Nat) (hk:k<=64):M3 .u64 x (k:Int)=some (x / 2 ^ k):=by
 unfold M3
 rw [if_neg (by omega)]
 have e:min ((k:Int)).toNat IntKind.u64.bits=k:=by
  show min ((k:Int)).toNat 64=k
  omega
 rw [e,zN _ (Int.le_of_lt (Int.pow_pos (by decide)))]
noncomputable def fM (x:Nat):Bool:=match A7.j3 (x:Int) 0 with | some L=>decide (0<=L/\L<=8/\x < 2 ^ L.toNat/\(x=0\/2 ^ L.toNat<=2 * x)) | none=>false
theorem Zi:(List.range 256).all fM=true:=by decide +kernel
theorem nQ (x n:Int):A7.j3 x n=(A7.j3 x 0).bind fun c=>some (W (n + c)):=by
 unfold A7.j3
 cases idxT _ ((u8 x).toNat:Int) with
 | none=>rfl
 | some c=>
  have:=c.toNat_lt
  show some (W (n + (c.toNat:Int)))=some (W (n + W (0 + (c.toNat:Int))))
  rw [Hy (x:=0 + (c.toNat:Int)) (by omega),Int.zero_add]
theorem mV (x:Nat) (hx:x < 256):∃ L:Nat,L<=8/\x < 2 ^ L/\(x=0\/2 ^ L<=2 * x)/\∀ n:Nat,n < 1000->A7.j3 (x:Int) (n:Int)=some ((n + L:Nat):Int):=by
 have h:=vY.1 Zi x (yQ.2 hx)
 unfold fM at h
 cases hj:A7.j3 (x:Int) 0 with
 | none=>rw [hj] at h; cases h
 | some L=>
  rw [hj] at h
  obtain⟨h1,h2,h3,h4⟩:=xB h
  refine⟨L.toNat,by omega,h3,h4,fun n hn=>?_⟩
  rw [nQ,hj,vI,Hy (by omega)]
  exact congrArg some (by omega)
theorem pW (x:Nat) (hx:x < 65536):∃ L:Nat,L<=16/\x < 2 ^ L/\(x=0\/2 ^ L<=2 * x)/\F6 (x:Int)=some (L:Int):=by
 by_cases h:x < 256
 ·obtain⟨L,h1,h2,h3,h4⟩:=mV x h
  refine⟨L,by omega,h2,h3,?_⟩
  have h5:A7.j3 (x:Int) 0=some (L:Int):=by
   have h6:=h4 0 (by omega)
   rw [wU] at h6
   exact h6
  unfold F6 A7 A7.j1 A7.j2
  rw [vK (by omega),vQ,vK (by omega),vQ,vK (by omega),vQ]
  rw [h5,vI]
 ·obtain⟨L,h1,h2,h3,h4⟩:=mV (x / 256) (by omega)
  refine⟨8 + L,by omega,?_,?_,?_⟩
  ·rw [Nat.pow_add]; omega
  ·rw [Nat.pow_add]; omega
  ·have h5:=h4 8 (by omega)
   unfold F6 A7 A7.j1 A7.j2
   rw [vK (by omega),vQ,vK (by omega),vQ,vL (by omega),wD]
   have e:M3 .u64 (x:Int) 8=some ((x / 256:Nat):Int):=by
    rw [show (8:Int)=((8:Nat):Int) from rfl,jW (by omega) 8 (by omega)]
    rfl
   rw [e,vI,show W (0 + 8)=((8:Nat):Int) from rfl,h5,vI]
theorem hX {x:Int} (h:0<=x/\x < 18446744073709551616):IntKind.u64.wrap x=x:=by
 have e:IntKind.u64.wrap x=x % 18446744073709551616:=by simp [IntKind.wrap,IntKind.bits,IntKind.signed]
 rw [e]; omega
end
section
open Go Go.Sort
section
variable {cmp:Ac->Ac->Option Int} {lt:Ac->Ac->Bool} {P:Ac->Prop}
def F7 (cmp:Ac->Ac->Option Int) (lt:Ac->Ac->Bool) (P:Ac->Prop):Prop:=∀ x y,P x->P y->∃ n,cmp x y=some n/\decide (n < 0)=lt x y
def E4 (P:Ac->Prop) (d:Array Ac):Prop:=d.size<=1000000000/\∀ i,i < d.size->P d[i]!
theorem Gx (d:Array Ac) (i j:Nat):(swp d i j).size=d.size:=by simp [swp]
theorem E4.swp {d:Array Ac} (h:E4 P d) {i j:Nat} (hi:i < d.size) (hj:j < d.size):E4 P (Sort.swp d i j):=by
 refine⟨by rw [Gx]; exact h.1,fun k hk=>?_⟩
 rw [Gx] at hk
 unfold Sort.swp
 by_cases h1:j=k
 ·subst h1
  rw [zJ ((d.setIfInBounds i d[j]!).setIfInBounds j d[i]!) _ (by simpa using hk)]
  simp only [Array.getElem_setIfInBounds_self]
  exact h.2 i hi
 ·by_cases h2:i=k
  ·subst h2
   rw [zJ ((d.setIfInBounds i d[j]!).setIfInBounds j d[i]!) _ (by simpa using hk)]
   rw [zA (by simpa using hk) (by omega)]
   simp only [Array.getElem_setIfInBounds_self]
   exact h.2 j hj
  ·rw [zJ _ _ (by simpa using hk)]
   rw [zA (by simpa using hk) (by omega),zA (by simpa using hk) (by omega)]
   have:=h.2 k hk
   rwa [zJ d k hk] at this
theorem Jx {d:Array Ac} {i:Nat} (h:i < d.size) {k:Int} (hk:k=(i:Int)):C2 d.toList k=some d[i]!:=by
 subst hk
 rw [Ec,zI,wQ h,zJ d i h]
theorem Ks (d:Array Ac) (i:Nat) (x:Ac):Hf d.toList i x=(d.setIfInBounds i x).toList:=by
 unfold Hf
 simp
theorem Wi {d:Array Ac} {i:Nat} {x:Ac} {j:Nat} (h:i < d.size) {k:Int} (hk:k=(i:Int)):∃ y,C2 (Hf d.toList j x) k=some y:=by
 subst hk
 rw [Ec]
 exact⟨_,vJ (by unfold Hf; simpa using h)⟩
theorem Wo (d:Array Ac) (i j:Nat):Hf (Hf d.toList i d[j]!) j d[i]! = (Sort.swp d i j).toList:=by
 rw [Ks,Ks]
 rfl
theorem Xk (hc:F7 cmp lt P) {d:Array Ac} (h:E4 P d) {i j:Nat} (hi:i < d.size) (hj:j < d.size):∃ n,cmp d[i]! d[j]! = some n/\decide (n < 0)=lt d[i]! d[j]!:=hc _ _ (h.2 i hi) (h.2 j hj)
theorem Ju (hc:F7 cmp lt P) {a i1:Nat}:∀ (j:Nat) (d:Array Ac),j < d.size->E4 P d->
  E4 P (insInner lt a j d)/\(insInner lt a j d).size=d.size/\C5 (fun q'=>Aj.l2 (a:Int) cmp (i1:Int) q'.1 q'.2) ((j:Int),d.toList)=some (.next (W ((i1:Int) + 1),(insInner lt a j d).toList))
 | 0,d,hj,hd=>by
  refine⟨hd,rfl,K6 ?_⟩
  show Aj.l2 (a:Int) cmp (i1:Int) ((0:Nat):Int) d.toList=_
  unfold Aj.l2
  rw [vK (by omega)]
  rfl
 | j + 1,d,hj,hd=>by
  have hsz:=hd.1
  have hW:W (((j + 1:Nat):Int) - 1)=(j:Int):=by rw [Hy (by omega)]; omega
  unfold insInner
  by_cases ha:a < j + 1
  ·obtain⟨n,h1,h2⟩:=Xk hc hd hj (show j < d.size by omega)
   have hbody:∀ r,Aj.j3 (i1:Int) ((j + 1:Nat):Int) d.toList (lt d[j + 1]! d[j]!)=r->Aj.l2 (a:Int) cmp (i1:Int) ((j + 1:Nat):Int) d.toList=r:=fun r hr=>by
    unfold Aj.l2
    rw [vL (by omega),wD,Jx hj rfl,vI,Jx (i:=j) (by omega) hW,vI,h1,vI,h2]
    exact hr
   cases hl:lt d[j + 1]! d[j]! with
   | true=>
    obtain⟨q1,q2,q3⟩:=Ju hc (i1:=i1) (a:=a) j (Sort.swp d (j + 1) j) (by rw [Gx]; omega) (hd.swp hj (by omega))
    rw [if_pos (by simp [ha])]
    refine⟨q1,by rw [q2,Gx],?_⟩
    have hb':Aj.l2 (a:Int) cmp (i1:Int) ((j + 1:Nat):Int) d.toList=some (.next ((j:Int),(Sort.swp d (j + 1) j).toList)):=by
     refine hbody _ ?_
     rw [hl]
     unfold Aj.j3
     obtain⟨y,hy⟩:=Wi (d:=d) (x:=d[j]!) (j:=(((j + 1:Nat):Int)).toNat) (i:=j) (by omega) hW
     rw [wD,Jx (i:=j) (by omega) hW,vI,Jx hj rfl,vI,hy,vI,hW]
     have e1:(((j + 1:Nat):Int)).toNat=j + 1:=by omega
     have e2:((j:Int)).toNat=j:=by omega
     rw [e1,e2,Wo]
    exact (Gk (body:=fun q'=>Aj.l2 (a:Int) cmp (i1:Int) q'.1 q'.2) (s:=(((j + 1:Nat):Int),d.toList)) hb').trans q3
   | false=>
    rw [if_neg (by simp)]
    refine⟨hd,rfl,K6 (hbody _ ?_)⟩
    rw [hl]
    rfl
  ·rw [if_neg (by simp [ha])]
   refine⟨hd,rfl,K6 ?_⟩
   show Aj.l2 (a:Int) cmp (i1:Int) ((j + 1:Nat):Int) d.toList=_
   unfold Aj.l2
   rw [vK (by omega)]
   rfl
theorem Jr (hc:F7 cmp lt P) {a b:Nat}:∀ (n i:Nat) (d:Array Ac),b - i=n->b<=d.size->E4 P d->
  C5 (fun q'=>Aj.l1 (a:Int) (b:Int) cmp q'.1 q'.2) ((i:Int),d.toList)=some (insOuter lt a b i d).toList
 | 0,i,d,hn,hb,hd=>by
  unfold insOuter
  rw [if_neg (by omega)]
  refine K6 (x:=some d.toList) ?_
  show Aj.l1 (a:Int) (b:Int) cmp (i:Int) d.toList=_
  unfold Aj.l1
  rw [vK (by omega)]
  rfl
 | n + 1,i,d,hn,hb,hd=>by
  have hsz:=hd.1
  unfold insOuter
  rw [if_pos (by omega)]
  obtain⟨q1,q2,q3⟩:=Ju hc (a:=a) (i1:=i) i d (by omega) hd
  rw [Gk (s':=(((i + 1:Nat):Int),(insInner lt a i d).toList)) ?_]
  ·exact Jr hc n (i + 1) _ (by omega) (by rw [q2]; exact hb) q1
  ·show Aj.l1 (a:Int) (b:Int) cmp (i:Int) d.toList=_
   unfold Aj.l1
   rw [vL (by omega),wD,q3,Du (by omega)]
theorem N7 (hc:F7 cmp lt P) {a b:Nat} {d:Array Ac} (hab:a<=b) (hb:b<=d.size) (hd:E4 P d):Aj d.toList (a:Int) (b:Int) cmp=some (insertionSort lt d a b).toList:=by
 have hsz:=hd.1
 unfold Aj insertionSort
 rw [Du (by omega)]
 exact Jr hc _ (a + 1) d rfl hb hd
end
end
section
open Go Go.Sort
section
variable {cmp:Ac->Ac->Option Int} {lt:Ac->Ac->Bool} {P:Ac->Prop}
def H4:Nat:=12
theorem So (hS:SWO lt) (hc:F7 cmp lt P) (l:List Ac) (hl:l.length<=H4) (hP:∀ x∈l,P x) :
  Ok (D1 l cmp) (fun r=>r.Perm l/\r.Pairwise (fun x y=>lt y x=false)):=by
 unfold H4 at hl
 obtain⟨L,_,_,_,h4⟩:=pW l.length (by omega)
 have hsz:l.toArray.size=l.length:=by simp
 have hA:E4 P l.toArray:=⟨by omega,fun i hi=>by
  rw [zJ l.toArray i hi]
  exact hP _ (by simp)⟩
 obtain⟨k1,k2⟩:=insertionSort_holds hS l.toArray 0 l.toArray.size (wV _) (wR _)
 have hi:=N7 hc (a:=0) (b:=l.toArray.size) (wV _) (wR _) hA
 generalize insertionSort lt l.toArray 0 l.toArray.size=d' at k1 k2 hi
 have hz:=k1.1
 have hp:A6 l 0 (l.length:Int) (L:Int) cmp=some d'.toList:=by
  unfold A6
  refine K6 ?_
  unfold A6.l1
  rw [hsz] at hi
  have hi':Aj l 0 (l.length:Int) cmp=some d'.toList:=hi
  rw [Hy (by omega),vL (by omega),wD,hi']
  rfl
 unfold D1
 rw [hX (by omega),h4,vI,hp,vI]
 refine Ok.ret ⟨?_,?_⟩
 ·have:=k1.2.2
  have e1:d'.extract 0 l.toArray.size=d':=by
   rw [<- hz]; exact Array.extract_size
  have e2:l.toArray.extract 0 l.toArray.size=l.toArray:=Array.extract_size
  rw [e1,e2] at this
  exact this
 ·rw [zR]
  intro i j hi hj hij
  have hi':i < d'.size:=by simpa using hi
  have hj':j < d'.size:=by simpa using hj
  have:=k2 i j (wV _) hij (by omega)
  rw [zJ d' i hi',zJ d' j hj'] at this
  simpa using this
end
end
end Go.Proofs.YtfanepojdefdpaaGreat
