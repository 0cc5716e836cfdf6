/- Plain texts, joined. No program is in sight here. -/
import Derived.Test.YtbpchmikjiinpaaGreatL3
import Derived.Test.YtbpchmikjiinpaaGreatC1
import Derived.Sort.AssemblyPlain
set_option linter.unusedVariables false
set_option linter.unusedSimpArgs false
namespace Go.Proofs.YtbpchmikjiinpaaGreat
section
open Go Go.Sort
theorem oB {α γ:Type} [Inhabited α] {body:Int->Option (Lp Int γ)} {J:Nat->Bool->Option (Lp Int γ)} {K:Nat->Option γ} {p:α->Bool} {D:Array α} {i0 j:Nat} (hj:j < 1000000000)
  (hb:∀ i:Nat,i0<=i->i<=j + 1->body (i:Int)=J i (decide (i<=j) && p D[i]!)) (ht:∀ i:Nat,J i true=some (.next (W ((i:Int) + 1)))) (hf:∀ i:Nat,i0<=i->i<=j + 1->J i false=up (K i)) :
  ∀ n i,j + 1 - i=n->i0<=i->i<=j + 1->B2 body (i:Int)=K (scanUp p D j i):=by
 intro n
 induction n with
 | zero=>
  intro i hn h0 hi
  have hc:(decide (i<=j) && p D[i]!)=false:=by rw [aBv (by omega),aMx]
  rw [scanUp,if_neg (by rw [hc]; simp)]
  exact Eo (by rw [hb i h0 hi,hc,hf i h0 hi])
 | succ n ih=>
  intro i hn h0 hi
  rw [scanUp]
  cases hc:(decide (i<=j) && p D[i]!) with
  | false=>
   rw [if_neg (by simp)]
   exact Eo (by rw [hb i h0 hi,hc,hf i h0 hi])
  | true=>
   rw [if_pos rfl]
   have e1:body (i:Int)=some (.next ((i + 1:Nat):Int)):=by rw [hb i h0 hi,hc,ht,Fm (by omega)]
   rw [Fi e1]
   exact ih (i + 1) (by omega) (by omega) (by omega)
theorem hO {α γ:Type} [Inhabited α] {body:Int->Option (Lp Int γ)} {J:Nat->Bool->Option (Lp Int γ)} {K:Nat->Option γ} {p:α->Bool} {D:Array α} {i j0:Nat} (hi:1<=i) (hj0:j0 < 1000000000)
  (hb:∀ j:Nat,i<=j + 1->j<=j0->body (j:Int)=J j (decide (i<=j) && p D[j]!)) (ht:∀ j:Nat,J j true=some (.next (W ((j:Int) - 1)))) (hf:∀ j:Nat,i<=j + 1->j<=j0->J j false=up (K j)) :
  ∀ j:Nat,i<=j + 1->j<=j0->B2 body (j:Int)=K (scanDown p D i j)
 | 0,h1,h2=>by
  have hc:(decide (i<=0) && p D[0]!)=false:=by rw [aBv (by omega),aMx]
  rw [scanDown]
  exact Eo (by rw [hb 0 h1 h2,hc,hf 0 h1 h2])
 | j + 1,h1,h2=>by
  rw [scanDown]
  cases hc:(decide (i<=j + 1) && p D[j + 1]!) with
  | false=>
   rw [if_neg (by simp)]
   exact Eo (by rw [hb (j + 1) h1 h2,hc,hf (j + 1) h1 h2])
  | true=>
   rw [if_pos rfl]
   have h3:i<=j + 1:=by
    rw [aFx] at hc
    exact aCm hc.1
   have e1:body ((j + 1:Nat):Int)=some (.next (j:Int)):=by
    have e2:W (((j + 1:Nat):Int) - 1)=(j:Int):=by rw [Dz (by omega)]; omega
    rw [hb (j + 1) h1 h2,hc,ht,e2]
   rw [Fi e1]
   exact hO hi hj0 hb ht hf j (by omega) (by omega)
theorem aHn {α γ:Type} [Inhabited α] {body:Int->Option (Lp Int γ)} {J:Nat->Bool->Option (Lp Int γ)} {K:Nat->Option γ} {lt:α->α->Bool} {D:Array α} {i0 b:Nat} (hb0:b < 2000000000)
  (hb:∀ i:Nat,i0<=i->i<=b->body (i:Int)=J i (decide (i < b) && !lt D[i]! D[i - 1]!)) (ht:∀ i:Nat,J i true=some (.next (W ((i:Int) + 1)))) (hf:∀ i:Nat,i0<=i->i<=b->J i false=up (K i)) :
  ∀ n i,b - i=n->i0<=i->i<=b->B2 body (i:Int)=K (scanSorted lt D b i):=by
 intro n
 induction n with
 | zero=>
  intro i hn h0 hi
  have hc:(decide (i < b) && !lt D[i]! D[i - 1]!)=false:=by rw [aBv (by omega),aMx]
  rw [scanSorted,if_neg (by rw [hc]; simp)]
  exact Eo (by rw [hb i h0 hi,hc,hf i h0 hi])
 | succ n ih=>
  intro i hn h0 hi
  rw [scanSorted]
  cases hc:(decide (i < b) && !lt D[i]! D[i - 1]!) with
  | false=>
   rw [if_neg (by simp)]
   exact Eo (by rw [hb i h0 hi,hc,hf i h0 hi])
  | true=>
   rw [if_pos rfl]
   have e1:body (i:Int)=some (.next ((i + 1:Nat):Int)):=by rw [hb i h0 hi,hc,ht,Fm (by omega)]
   rw [Fi e1]
   exact ih (i + 1) (by omega) (by omega) (by omega)
theorem dK {α:Type} [Inhabited α] (lt:α->α->Bool) (D:Array α) (b:Nat):∀ n i,b - i=n->i<=b->i<=scanSorted lt D b i/\scanSorted lt D b i<=b:=by
 intro n
 induction n with
 | zero=>
  intro i hn hi
  rw [scanSorted,if_neg (by rw [aBv (by omega),aMx]; simp)]
  exact⟨aHx _,hi⟩
 | succ n ih=>
  intro i hn hi
  rw [scanSorted]
  split
  ·have:=ih (i + 1) (by omega) (by omega)
   omega
  ·exact⟨aHx _,hi⟩
theorem Wp {n:Nat} (h:n < 4000000000):W ((n:Int) + 1)=((n + 1:Nat):Int):=Fm (by omega)
theorem Wm {n:Nat} (h:n < 4000000000) (h0:0 < n):W ((n:Int) - 1)=((n - 1:Nat):Int):=by rw [Dz (by omega)]; omega
theorem Wd {m n:Nat} (h:m < 4000000000) (h0:n<=m):W ((m:Int) - (n:Int))=((m - n:Nat):Int):=by rw [Dz (by omega)]; omega
theorem aCh {n:Nat} (h:n < 4000000000):Og (n:Int) 4=some ((n / 4:Nat):Int):=by
 unfold Og
 rw [if_neg (by omega),Dz]
 ·rfl
 ·have:(n:Int).tdiv 4=((n / 4:Nat):Int):=rfl
  rw [this]
  omega
theorem aKh {n:Nat} (h:n < 4000000000):Og (n:Int) 8=some ((n / 8:Nat):Int):=by
 unfold Og
 rw [if_neg (by omega),Dz]
 ·rfl
 ·have:(n:Int).tdiv 8=((n / 8:Nat):Int):=rfl
  rw [this]
  omega
theorem Wq1 {a q:Nat} (h:a < 4000000000) (k:q < 4000000000):W ((a:Int) + W ((q:Int) * 1))=((a + q:Nat):Int):=by
 rw [Dz (x:=(q:Int) * 1) (by omega),Dz (by omega)]; omega
theorem Wq2 {a q:Nat} (h:a < 4000000000) (k:q < 4000000000):W ((a:Int) + W ((q:Int) * 2))=((a + q * 2:Nat):Int):=by
 rw [Dz (x:=(q:Int) * 2) (by omega),Dz (by omega)]; omega
theorem Wq3 {a q:Nat} (h:a < 4000000000) (k:q < 4000000000):W ((a:Int) + W ((q:Int) * 3))=((a + q * 3:Nat):Int):=by
 rw [Dz (x:=(q:Int) * 3) (by omega),Dz (by omega)]; omega
theorem aCl {x:Int} (hx:0<=x) (k:Nat) (hk:k<=64):Vd .u64 x (k:Int)=some (x / 2 ^ k):=by
 unfold Vd
 rw [if_neg (by omega)]
 have e:min ((k:Int)).toNat IntKind.u64.bits=k:=by
  show min ((k:Int)).toNat 64=k
  omega
 rw [e,aSt _ (Int.le_of_lt (Int.pow_pos (by decide)))]
noncomputable def xZ (x:Nat):Bool:=match Bv.j3 (x:Int) 0 with | some L=>decide (0<=L/\L<=8/\x < 2 ^ L.toNat/\(x=0\/2 ^ L.toNat<=2 * x)) | none=>false
theorem nS:(List.range 256).all xZ=true:=by decide +kernel
theorem aGp (x n:Int):Bv.j3 x n=(Bv.j3 x 0).bind fun c=>some (W (n + c)):=by
 unfold Bv.j3
 cases iE _ ((u8 x).toNat:Int) with
 | none=>rfl
 | some c=>
  have:=c.toNat_lt
  show some (W (n + (c.toNat:Int)))=some (W (n + W (0 + (c.toNat:Int))))
  rw [Dz (x:=0 + (c.toNat:Int)) (by omega),Int.zero_add]
theorem aC5 (x:Nat) (hx:x < 256):∃ L:Nat,L<=8/\x < 2 ^ L/\(x=0\/2 ^ L<=2 * x)/\∀ n:Nat,n < 1000->Bv.j3 (x:Int) (n:Int)=some ((n + L:Nat):Int):=by
 have h:=aG8.1 nS x (aSv.2 hx)
 unfold xZ at h
 cases hj:Bv.j3 (x:Int) 0 with
 | none=>rw [hj] at h; cases h
 | some L=>
  rw [hj] at h
  obtain⟨h1,h2,h3,h4⟩:=aCm h
  refine⟨L.toNat,by omega,h3,h4,fun n hn=>?_⟩
  rw [aGp,hj,aAc,Dz (by omega)]
  exact congrArg some (by omega)
theorem xN (x:Nat) (hx:x < 65536):∃ L:Nat,L<=16/\x < 2 ^ L/\(x=0\/2 ^ L<=2 * x)/\H3 (x:Int)=some (L:Int):=by
 by_cases h:x < 256
 ·obtain⟨L,h1,h2,h3,h4⟩:=aC5 x h
  refine⟨L,by omega,h2,h3,?_⟩
  have h5:Bv.j3 (x:Int) 0=some (L:Int):=by
   have h6:=h4 0 (by omega)
   rw [aLq] at h6
   exact h6
  unfold H3 Bv Bv.j1 Bv.j2
  rw [aBv (by omega),aCv,aBv (by omega),aCv,aBv (by omega),aCv]
  rw [h5,aAc]
 ·obtain⟨L,h1,h2,h3,h4⟩:=aC5 (x / 256) (by omega)
  refine⟨8 + L,by omega,?_,?_,?_⟩
  ·rw [Nat.pow_add]; omega
  ·rw [Nat.pow_add]; omega
  ·have h5:=h4 8 (by omega)
   unfold H3 Bv Bv.j1 Bv.j2
   rw [aBv (by omega),aCv,aBv (by omega),aCv,aBe (by omega),aDb]
   have e:Vd .u64 (x:Int) 8=some ((x / 256:Nat):Int):=by
    rw [show (8:Int)=((8:Nat):Int) from rfl,aCl (by omega) 8 (by omega)]
    rfl
   rw [e,aAc,show W (0 + 8)=((8:Nat):Int) from rfl,h5,aAc]
theorem T4 {x:Int} (h:0<=x/\x < 18446744073709551616):IntKind.u64.wrap x=x:=by
 have e:IntKind.u64.wrap x=x % 18446744073709551616:=by simp [IntKind.wrap,IntKind.bits,IntKind.signed]
 rw [e]; omega
theorem aCq (x:Nat) (h0:0 < x) (hx:x < 65536):∃ y:Nat,x < y/\y<=2 * x/\Gj (x:Int)=some (y:Int):=by
 obtain⟨L,h1,h2,h3,h4⟩:=xN x hx
 refine⟨2 ^ L,h2,by omega,?_⟩
 unfold Gj
 rw [T4 (by omega),h4,aAc]
 have e:dP .u64 1 (L:Int)=some ((2 ^ L:Nat):Int):=by
  unfold dP
  rw [if_neg (by omega)]
  have e1:min ((L:Int)).toNat IntKind.u64.bits=L:=by
   show min ((L:Int)).toNat 64=L
   omega
  have e2:(1:Int) * 2 ^ L=((2 ^ L:Nat):Int):=by simp
  rw [e1,e2,T4]
  have:2 ^ L<=2 ^ 16:=Nat.pow_le_pow_right (by omega) h1
  omega
 rw [e]
 rfl
theorem aD2 (r:Int):∃ z:Int×Int,G2 r=some z:=by
 unfold G2
 have e1:∀ x:Int,∃ q,dP .u64 x 13=some q:=fun x=>⟨_,if_neg (by decide)⟩
 have e2:∀ x:Int,∃ q,Vd .u64 x 7=some q:=fun x=>⟨_,if_neg (by decide)⟩
 have e3:∀ x:Int,∃ q,dP .u64 x 17=some q:=fun x=>⟨_,if_neg (by decide)⟩
 obtain⟨q,h⟩:=e1 r
 rw [h,aAc]
 obtain⟨q2,h2⟩:=e2 (S0 .u64 r q)
 rw [h2,aAc]
 obtain⟨q3,h3⟩:=e3 (S0 .u64 (S0 .u64 r q) q2)
 rw [h3,aAc]
 exact⟨_,rfl⟩
theorem aE6 (r:Int) (y:Nat) (hy:y < 1000000):∃ z:Nat,z<=y/\W (rK .u64 r (IntKind.u64.wrap (y:Int)))=(z:Int):=by
 refine⟨(BitVec.ofInt 64 r &&& BitVec.ofInt 64 (y:Int)).toNat,?_,?_⟩
 ·rw [BitVec.toNat_and]
  refine aK7 Nat.and_le_right ?_
  rw [BitVec.toNat_ofInt]
  omega
 ·have h:(BitVec.ofInt 64 r &&& BitVec.ofInt 64 (y:Int)).toNat<=y:=by
   rw [BitVec.toNat_and]
   refine aK7 Nat.and_le_right ?_
   rw [BitVec.toNat_ofInt]
   omega
  rw [T4 (by omega)]
  show W (IntKind.u64.wrap ((BitVec.ofInt 64 r &&& BitVec.ofInt 64 (y:Int)).toNat:Int))=_
  rw [T4 (by omega),Dz (by omega)]
end
section
section
open Go Go.Sort
section
variable {cmp:Aa->Aa->Option Int} {lt:Aa->Aa->Bool} {P:Aa->Prop}
def Bl (cmp:Aa->Aa->Option Int) (lt:Aa->Aa->Bool) (P:Aa->Prop):Prop:=∀ x y,P x->P y->∃ n,cmp x y=some n/\decide (n < 0)=lt x y
def Ay (P:Aa->Prop) (d:Array Aa):Prop:=d.size<=1000000000/\∀ i,i < d.size->P d[i]!
theorem B0 (d:Array Aa) (i j:Nat):(swp d i j).size=d.size:=by simp [swp]
theorem Ay.swp {d:Array Aa} (h:Ay P d) {i j:Nat} (hi:i < d.size) (hj:j < d.size):Ay P (Sort.swp d i j):=by
 refine⟨by rw [B0]; exact h.1,fun k hk=>?_⟩
 rw [B0] at hk
 unfold Sort.swp
 by_cases h1:j=k
 ·subst h1
  rw [aSq ((d.setIfInBounds i d[j]!).setIfInBounds j d[i]!) _ (by simpa using hk)]
  simp only [Array.getElem_setIfInBounds_self]
  exact h.2 i hi
 ·by_cases h2:i=k
  ·subst h2
   rw [aSq ((d.setIfInBounds i d[j]!).setIfInBounds j d[i]!) _ (by simpa using hk)]
   rw [aSf (by simpa using hk) (by omega)]
   simp only [Array.getElem_setIfInBounds_self]
   exact h.2 j hj
  ·rw [aSq _ _ (by simpa using hk)]
   rw [aSf (by simpa using hk) (by omega),aSf (by simpa using hk) (by omega)]
   have:=h.2 k hk
   rwa [aSq d k hk] at this
theorem Cu {d:Array Aa} {i:Nat} (h:i < d.size) {k:Int} (hk:k=(i:Int)):Bu d.toList k=some d[i]!:=by
 subst hk
 rw [Dr,aN9,aP8 h,aSq d i h]
theorem N6 (d:Array Aa) (i:Nat) (x:Aa):C3 d.toList i x=(d.setIfInBounds i x).toList:=by
 unfold C3
 simp
theorem Iw {d:Array Aa} {i:Nat} {x:Aa} {j:Nat} (h:i < d.size) {k:Int} (hk:k=(i:Int)):∃ y,Bu (C3 d.toList j x) k=some y:=by
 subst hk
 rw [Dr]
 exact⟨_,aBx (by unfold C3; simpa using h)⟩
theorem I0 (d:Array Aa) (i j:Nat):C3 (C3 d.toList i d[j]!) j d[i]! = (Sort.swp d i j).toList:=by
 rw [N6,N6]
 rfl
theorem Hl (hc:Bl cmp lt P) {d:Array Aa} (h:Ay P d) {i j:Nat} (hi:i < d.size) (hj:j < d.size):∃ n,cmp d[i]! d[j]! = some n/\decide (n < 0)=lt d[i]! d[j]!:=hc _ _ (h.2 i hi) (h.2 j hj)
theorem No (hc:Bl cmp lt P) {a i1:Nat}:∀ (j:Nat) (d:Array Aa),j < d.size->Ay P d->
  Ay P (insInner lt a j d)/\(insInner lt a j d).size=d.size/\B2 (fun q'=>Ao.l2 (a:Int) cmp (i1:Int) q'.1 q'.2) ((j:Int),d.toList)=some (.next (W ((i1:Int) + 1),(insInner lt a j d).toList))
 | 0,d,hj,hd=>by
  refine⟨hd,rfl,Eo ?_⟩
  show Ao.l2 (a:Int) cmp (i1:Int) ((0:Nat):Int) d.toList=_
  unfold Ao.l2
  rw [aBv (by omega)]
  rfl
 | j + 1,d,hj,hd=>by
  have hsz:=hd.1
  have hW:W (((j + 1:Nat):Int) - 1)=(j:Int):=by rw [Dz (by omega)]; omega
  unfold insInner
  by_cases ha:a < j + 1
  ·obtain⟨n,h1,h2⟩:=Hl hc hd hj (show j < d.size by omega)
   have hbody:∀ r,Ao.j3 (i1:Int) ((j + 1:Nat):Int) d.toList (lt d[j + 1]! d[j]!)=r->Ao.l2 (a:Int) cmp (i1:Int) ((j + 1:Nat):Int) d.toList=r:=fun r hr=>by
    unfold Ao.l2
    rw [aBe (by omega),aDb,Cu hj rfl,aAc,Cu (i:=j) (by omega) hW,aAc,h1,aAc,h2]
    exact hr
   cases hl:lt d[j + 1]! d[j]! with
   | true=>
    obtain⟨q1,q2,q3⟩:=No hc (i1:=i1) (a:=a) j (Sort.swp d (j + 1) j) (by rw [B0]; omega) (hd.swp hj (by omega))
    rw [if_pos (by simp [ha])]
    refine⟨q1,by rw [q2,B0],?_⟩
    have hb':Ao.l2 (a:Int) cmp (i1:Int) ((j + 1:Nat):Int) d.toList=some (.next ((j:Int),(Sort.swp d (j + 1) j).toList)):=by
     refine hbody _ ?_
     rw [hl]
     unfold Ao.j3
     obtain⟨y,hy⟩:=Iw (d:=d) (x:=d[j]!) (j:=(((j + 1:Nat):Int)).toNat) (i:=j) (by omega) hW
     rw [aDb,Cu (i:=j) (by omega) hW,aAc,Cu hj rfl,aAc,hy,aAc,hW]
     have e1:(((j + 1:Nat):Int)).toNat=j + 1:=by omega
     have e2:((j:Int)).toNat=j:=by omega
     rw [e1,e2,I0]
    exact (Fi (body:=fun q'=>Ao.l2 (a:Int) cmp (i1:Int) q'.1 q'.2) (s:=(((j + 1:Nat):Int),d.toList)) hb').trans q3
   | false=>
    rw [if_neg (by simp)]
    refine⟨hd,rfl,Eo (hbody _ ?_)⟩
    rw [hl]
    rfl
  ·rw [if_neg (by simp [ha])]
   refine⟨hd,rfl,Eo ?_⟩
   show Ao.l2 (a:Int) cmp (i1:Int) ((j + 1:Nat):Int) d.toList=_
   unfold Ao.l2
   rw [aBv (by omega)]
   rfl
theorem Np (hc:Bl cmp lt P) {a b:Nat}:∀ (n i:Nat) (d:Array Aa),b - i=n->b<=d.size->Ay P d->
  B2 (fun q'=>Ao.l1 (a:Int) (b:Int) cmp q'.1 q'.2) ((i:Int),d.toList)=some (insOuter lt a b i d).toList
 | 0,i,d,hn,hb,hd=>by
  unfold insOuter
  rw [if_neg (by omega)]
  refine Eo (x:=some d.toList) ?_
  show Ao.l1 (a:Int) (b:Int) cmp (i:Int) d.toList=_
  unfold Ao.l1
  rw [aBv (by omega)]
  rfl
 | n + 1,i,d,hn,hb,hd=>by
  have hsz:=hd.1
  unfold insOuter
  rw [if_pos (by omega)]
  obtain⟨q1,q2,q3⟩:=No hc (a:=a) (i1:=i) i d (by omega) hd
  rw [Fi (s':=(((i + 1:Nat):Int),(insInner lt a i d).toList)) ?_]
  ·exact Np hc n (i + 1) _ (by omega) (by rw [q2]; exact hb) q1
  ·show Ao.l1 (a:Int) (b:Int) cmp (i:Int) d.toList=_
   unfold Ao.l1
   rw [aBe (by omega),aDb,q3,Fm (by omega)]
theorem Tm (hc:Bl cmp lt P) {a b:Nat} {d:Array Aa} (hab:a<=b) (hb:b<=d.size) (hd:Ay P d):Ao d.toList (a:Int) (b:Int) cmp=some (insertionSort lt d a b).toList:=by
 have hsz:=hd.1
 unfold Ao insertionSort
 rw [Fm (by omega)]
 exact Np hc _ (a + 1) d rfl hb hd
theorem Vm (hc:Bl cmp lt P) {first root c:Nat} {d:Array Aa} (h1:first + root < d.size) (h2:first + c < d.size) (hd:Ay P d) :
  An.j3 (first:Int) cmp (root:Int) d.toList (c:Int)=some (bif lt d[first + root]! d[first + c]! then .next ((c:Int),(Sort.swp d (first + root) (first + c)).toList) else .done d.toList):=by
 have hsz:=hd.1
 have w1:W ((first:Int) + (root:Int))=((first + root:Nat):Int):=by rw [Dz (by omega)]; omega
 have w2:W ((first:Int) + (c:Int))=((first + c:Nat):Int):=by rw [Dz (by omega)]; omega
 obtain⟨n,n1,n2⟩:=Hl hc hd h1 h2
 unfold An.j3
 rw [w1,w2,Cu h1 rfl,aAc,Cu h2 rfl,aAc,n1,aAc,n2]
 cases lt d[first + root]! d[first + c]! with
 | false=>rfl
 | true=>
  obtain⟨y,hy⟩:=Iw (d:=d) (x:=d[first + c]!) (j:=(((first + root:Nat):Int)).toNat) h2 rfl
  rw [show (!true)=false from rfl,aCv,hy,aAc,aDb]
  have e1:(((first + root:Nat):Int)).toNat=first + root:=by omega
  have e2:(((first + c:Nat):Int)).toNat=first + c:=by omega
  rw [e1,e2,I0]
theorem Sb (hc:Bl cmp lt P) {hi first:Nat}:∀ (n root:Nat) (d:Array Aa),hi - root<=n->root<=1000000000->first + hi<=d.size->Ay P d->
  Ay P (siftDown lt hi first root d)/\(siftDown lt hi first root d).size=d.size/\B2 (fun q'=>An.l1 (hi:Int) (first:Int) cmp q'.1 q'.2) ((root:Int),d.toList)=some (siftDown lt hi first root d).toList:=by
 intro n
 induction n with
 | zero=>
  intro root d hn hr hh hd
  have hsz:=hd.1
  unfold siftDown
  rw [dif_pos (by omega)]
  refine⟨hd,rfl,Eo (x:=some d.toList) ?_⟩
  show An.l1 (hi:Int) (first:Int) cmp (root:Int) d.toList=_
  unfold An.l1
  rw [Dz (x:=2 * (root:Int)) (by omega),Dz (by omega),aBe (by omega)]
  rfl
 | succ n ih=>
  intro root d hn hr hh hd
  have hsz:=hd.1
  have w0:W (2 * (root:Int))=((2 * root:Nat):Int):=by rw [Dz (by omega)]; omega
  have w1:W (((2 * root:Nat):Int) + 1)=((2 * root + 1:Nat):Int):=by rw [Dz (by omega)]; omega
  have w2:W (((2 * root + 1:Nat):Int) + 1)=((2 * root + 2:Nat):Int):=by rw [Dz (by omega)]; omega
  by_cases hend:2 * root + 1>=hi
  ·unfold siftDown
   rw [dif_pos hend]
   refine⟨hd,rfl,Eo (x:=some d.toList) ?_⟩
   show An.l1 (hi:Int) (first:Int) cmp (root:Int) d.toList=_
   unfold An.l1
   rw [w0,w1,aBe (by omega)]
   rfl
  ·have step:∀ c:Nat,c < hi->root < c->∀ (b:Bool) (r:Array Aa),(lt d[first + root]! d[first + c]! = b)->r=(bif b then siftDown lt hi first c (Sort.swp d (first + root) (first + c)) else d)->
     (An.l1 (hi:Int) (first:Int) cmp (root:Int) d.toList=An.j3 (first:Int) cmp (root:Int) d.toList (c:Int))->
     Ay P r/\r.size=d.size/\B2 (fun q'=>An.l1 (hi:Int) (first:Int) cmp q'.1 q'.2) ((root:Int),d.toList)=some r.toList:=fun c hc1 hc2 b r hb hrr hl=>by
    have hj:=Vm hc (first:=first) (root:=root) (c:=c) (d:=d) (by omega) (by omega) hd
    rw [hb] at hj
    cases b with
    | false=>
     rw [aCv] at hrr
     rw [hrr]
     refine⟨hd,rfl,U3 ?_⟩
     exact (by rw [hl,hj]; rfl:An.l1 (hi:Int) (first:Int) cmp (root:Int) d.toList=some (.done d.toList))
    | true=>
     rw [aDb] at hrr
     rw [hrr]
     obtain⟨q1,q2,q3⟩:=ih c (Sort.swp d (first + root) (first + c)) (by omega) (by omega) (by rw [B0]; exact hh) (hd.swp (by omega) (by omega))
     refine⟨q1,by rw [q2,B0],?_⟩
     have hb':An.l1 (hi:Int) (first:Int) cmp (root:Int) d.toList=some (.next ((c:Int),(Sort.swp d (first + root) (first + c)).toList)):=by rw [hl,hj]; rfl
     exact (Fi (body:=fun q'=>An.l1 (hi:Int) (first:Int) cmp q'.1 q'.2) (s:=((root:Int),d.toList)) hb').trans q3
   unfold siftDown
   rw [dif_neg hend]
   have hl:∀ b:Bool,(decide (2 * root + 1 + 1 < hi) && lt d[first + (2 * root + 1)]! d[first + (2 * root + 1) + 1]!)=b->An.l1 (hi:Int) (first:Int) cmp (root:Int) d.toList=An.j3 (first:Int) cmp (root:Int) d.toList (bif b then ((2 * root + 2:Nat):Int) else ((2 * root + 1:Nat):Int)):=fun b hb=>by
    unfold An.l1
    rw [w0,w1,w2,aBv (by omega),aCv]
    by_cases h2:2 * root + 2 < hi
    ·have a2:first + (2 * root + 1) + 1 < d.size:=by clear w0 w1 w2; omega
     have a1:first + (2 * root + 1) < d.size:=by clear w0 w1 w2; omega
     have a3:decide (2 * root + 1 + 1 < hi)=true:=aBe h2
     have a4:decide (((2 * root + 2:Nat):Int) < (hi:Int))=true:=aBe (by clear w0 w1 w2; omega)
     have v1:W ((first:Int) + ((2 * root + 1:Nat):Int))=((first + (2 * root + 1):Nat):Int):=by rw [Dz (by omega)]; omega
     have v2:W (((first + (2 * root + 1):Nat):Int) + 1)=((first + (2 * root + 1) + 1:Nat):Int):=by rw [Dz (by omega)]; omega
     obtain⟨m,m1,m2⟩:=Hl hc hd (i:=first + (2 * root + 1)) (j:=first + (2 * root + 1) + 1) a1 a2
     rw [a4,aDb,v1,v2,Cu (i:=first + (2 * root + 1)) a1 rfl,aAc,Cu (i:=first + (2 * root + 1) + 1) a2 rfl,aAc,m1,aAc,m2]
     rw [a3,aP9] at hb
     rw [hb]
     unfold An.j2
     rw [w0,w1,w2]
     cases b with
     | true=>rw [aDb,aDb]
     | false=>rw [aCv,aCv]
    ·rw [aBv (by omega),aCv]
     rw [aBv (by omega),aMx] at hb
     subst hb
     unfold An.j2
     rw [w0,w1,aCv,aCv]
   cases hb:(decide (2 * root + 1 + 1 < hi) && lt d[first + (2 * root + 1)]! d[first + (2 * root + 1) + 1]!) with
   | true=>
    rw [if_pos rfl]
    have h2:2 * root + 2 < hi:=by
     rw [aFx] at hb
     have:=aCm hb.1
     omega
    refine step (2 * root + 2) h2 (by omega) _ _ rfl ?_ (hl true hb)
    cases lt d[first + root]! d[first + (2 * root + 2)]! with
    | false=>rfl
    | true=>rw [show (!true)=false from rfl,if_neg (by simp),dif_pos h2]; rfl
   | false=>
    rw [if_neg (by simp)]
    refine step (2 * root + 1) (by omega) (by omega) _ _ rfl ?_ (hl false hb)
    cases lt d[first + root]! d[first + (2 * root + 1)]! with
    | false=>rfl
    | true=>rfl
theorem Nc (hc:Bl cmp lt P) {a b:Nat}:∀ (k:Nat) (d:Array Aa),a + (b - a)<=d.size->a<=b->k<=1000000000->Ay P d->
  Ay P (heapBuild lt (b - a) a k d)/\(heapBuild lt (b - a) a k d).size=d.size/\B2 (fun q'=>Az.l1 (a:Int) (b:Int) cmp q'.1 q'.2) ((k:Int) - 1,d.toList)=B2 (fun q'=>Az.l1 (a:Int) (b:Int) cmp q'.1 q'.2) (-1,(heapBuild lt (b - a) a k d).toList)
 | 0,d,h1,hab,hk,hd=>⟨hd,rfl,rfl⟩
 | k + 1,d,h1,hab,hk,hd=>by
  have hsz:=hd.1
  obtain⟨q1,q2,q3⟩:=Sb hc (hi:=b - a) (first:=a) _ k d (aHx _) (by omega) h1 hd
  obtain⟨r1,r2,r3⟩:=Nc hc (a:=a) (b:=b) k (siftDown lt (b - a) a k d) (by rw [q2]; exact h1) hab (by omega) q1
  refine⟨r1,by show (heapBuild lt (b - a) a k _).size=_; rw [r2,q2],?_⟩
  rw [Fi (s':=((k:Int) - 1,(siftDown lt (b - a) a k d).toList)) ?_]
  ·exact r3
  ·show Az.l1 (a:Int) (b:Int) cmp (((k + 1:Nat):Int) - 1) d.toList=_
   have e0:((k + 1:Nat):Int) - 1=(k:Int):=by omega
   have e1:W ((b:Int) - (a:Int))=((b - a:Nat):Int):=by rw [Dz (by omega)]; omega
   unfold Az.l1
   rw [e0,aBe (by omega),aDb,e1]
   have e2:An d.toList (k:Int) ((b - a:Nat):Int) (a:Int) cmp=some (siftDown lt (b - a) a k d).toList:=q3
   rw [e2,aAc,Dz (by omega)]
theorem Oa (hc:Bl cmp lt P) {a:Nat}:∀ (k:Nat) (d:Array Aa),a + k<=d.size->Ay P d->
  B2 (fun q'=>Az.l2 (a:Int) cmp q'.1 q'.2) ((k:Int) - 1,d.toList)=some (heapPop lt a k d).toList
 | 0,d,h1,hd=>Eo (x:=some d.toList) (by
   show Az.l2 (a:Int) cmp (((0:Nat):Int) - 1) d.toList=_
   unfold Az.l2
   rw [aBv (by omega)]
   rfl)
 | k + 1,d,h1,hd=>by
  have hsz:=hd.1
  obtain⟨q1,q2,q3⟩:=Sb hc (hi:=k) (first:=a) k 0 (Sort.swp d a (a + k)) (by omega) (by omega) (by rw [B0]; omega) (hd.swp (by omega) (by omega))
  rw [Fi (s':=((k:Int) - 1,(siftDown lt k a 0 (Sort.swp d a (a + k))).toList)) ?_]
  ·exact Oa hc k _ (by rw [q2,B0]; omega) q1
  ·show Az.l2 (a:Int) cmp (((k + 1:Nat):Int) - 1) d.toList=_
   have e0:((k + 1:Nat):Int) - 1=(k:Int):=by omega
   have e1:W ((a:Int) + (k:Int))=((a + k:Nat):Int):=by rw [Dz (by omega)]; omega
   obtain⟨y,hy⟩:=Iw (d:=d) (x:=d[a + k]!) (j:=((a:Int)).toNat) (i:=a + k) (by omega) rfl
   unfold Az.l2
   rw [e0,aBe (by omega),aDb,e1,Cu (i:=a + k) (by omega) rfl,aAc,Cu (i:=a) (by omega) rfl,aAc,hy,aAc]
   have e2:((a:Int)).toNat=a:=by omega
   have e3:(((a + k:Nat):Int)).toNat=a + k:=by omega
   rw [e2,e3,I0]
   have e4:An (Sort.swp d a (a + k)).toList 0 (k:Int) (a:Int) cmp=some (siftDown lt k a 0 (Sort.swp d a (a + k))).toList:=q3
   rw [e4,aAc,Dz (by omega)]
theorem Yu (hc:Bl cmp lt P) {a b:Nat} {d:Array Aa} (hab:a < b) (hb:b<=d.size) (hd:Ay P d):Az d.toList (a:Int) (b:Int) cmp=some (heapSort lt d a b).toList:=by
 have hsz:=hd.1
 have e1:W ((b:Int) - (a:Int))=((b - a:Nat):Int):=by rw [Dz (by omega)]; omega
 have e2:W (((b - a:Nat):Int) - 1)=((b - a - 1:Nat):Int):=by rw [Dz (by omega)]; omega
 obtain⟨r1,r2,r3⟩:=Nc hc (a:=a) (b:=b) ((b - a - 1) / 2 + 1) d (by omega) (by omega) (by omega) hd
 unfold Az heapSort
 rw [e1,e2]
 have eq:Og ((b - a - 1:Nat):Int) 2=some (((b - a - 1) / 2:Nat):Int):=by
  unfold Og
  rw [if_neg (by omega),Dz]
  ·congr 1
  ·have:((b - a - 1:Nat):Int).tdiv 2=(((b - a - 1) / 2:Nat):Int):=rfl
   rw [this]
   omega
 rw [eq,aAc]
 have e0:(((b - a - 1) / 2:Nat):Int)=(((b - a - 1) / 2 + 1:Nat):Int) - 1:=by omega
 rw [e0,r3]
 refine Eo (x:=some (heapPop lt a (b - a) (heapBuild lt (b - a) a ((b - a - 1) / 2 + 1) d)).toList) ?_
 show Az.l1 (a:Int) (b:Int) cmp (-1) _=_
 unfold Az.l1
 rw [aBv (by omega),aCv,e1]
 have e3:W (((b - a:Nat):Int) - 1)=((b - a:Nat):Int) - 1:=Dz (by omega)
 rw [e3,Oa hc (b - a) _ (by rw [r2]; omega) r1]
end
end
section
open Go Go.Sort
section
variable {cmp:Aa->Aa->Option Int} {lt:Aa->Aa->Bool} {P:Aa->Prop}
theorem Gb {d:Array Aa} {i j:Nat} (hi:i < d.size) (hj:j < d.size) {ki kj:Int} (eki:ki=(i:Int)) (ekj:kj=(j:Int)) {γ:Type} (F:List Aa->Option γ) :
  ((Bu d.toList kj).bind fun e=>(Bu d.toList ki).bind fun e2=>(Bu (C3 d.toList ki.toNat e) kj).bind fun _=>F (C3 (C3 d.toList ki.toNat e) kj.toNat e2))=F (Sort.swp d i j).toList:=by
 subst eki ekj
 obtain⟨y,hy⟩:=Iw (d:=d) (x:=d[j]!) (j:=((i:Int)).toNat) (i:=j) hj rfl
 rw [Cu hj rfl,aAc,Cu hi rfl,aAc,hy,aAc,aK9,aK9,I0]
theorem H5 (hc:Bl cmp lt P) {d:Array Aa} (h:Ay P d) {i j:Nat} (hi:i < d.size) (hj:j < d.size) {ki kj:Int} (eki:ki=(i:Int)) (ekj:kj=(j:Int)) {γ:Type} (F:Bool->Option γ) :
  ((Bu d.toList ki).bind fun e=>(Bu d.toList kj).bind fun e2=>(cmp e e2).bind fun y=>F (decide (y < 0)))=F (lt d[i]! d[j]!):=by
 subst eki ekj
 obtain⟨n,h1,h2⟩:=Hl hc h hi hj
 rw [Cu hi rfl,aAc,Cu hj rfl,aAc,h1,aAc,h2]
theorem Vk (hc:Bl cmp lt P) {L0:List Aa} {e e2:Aa} {D:Array Aa} {a b pivot:Nat} (hD:C3 (C3 L0 ((a:Int)).toNat e) ((pivot:Int)).toNat e2=D.toList) (hA:Ay P D) (ha:a < b) (hb:b<=D.size) :
  B2 (fun q'=>Af.l1 L0 (a:Int) (b:Int) (pivot:Int) cmp e e2 q') (W ((a:Int) + 1))=B2 (fun q'=>Af.l3 L0 (a:Int) (pivot:Int) cmp e e2 ((scanUp (fun x=>lt x D[a]!) D (b - 1) (a + 1):Nat):Int) q') (((b - 1:Nat):Int)):=by
 have hsz:=hA.1
 rw [Wp (by omega)]
 refine oB (p:=fun x=>lt x D[a]!) (D:=D) (i0:=a + 1) (j:=b - 1) (J:=fun i x=>Af.j2 L0 (a:Int) (b:Int) (pivot:Int) cmp e e2 (i:Int) x) (K:=fun i=>B2 (fun q'=>Af.l3 L0 (a:Int) (pivot:Int) cmp e e2 (i:Int) q') (((b - 1:Nat):Int))) (by omega) (fun i h1 h2=>?_) (fun i=>rfl) (fun i _ _=>?_) _ (a + 1) rfl (aHx _) (by omega)
 ·unfold Af.l1
  rw [hD,Wm (by omega) (by omega)]
  by_cases h:i<=b - 1
  ·rw [aBe (by omega),aDb,aBe h,aP9]
   exact H5 hc hA (i:=i) (j:=a) (by omega) (by omega) rfl rfl (F:=fun x=>Af.j2 L0 (a:Int) (b:Int) (pivot:Int) cmp e e2 (i:Int) x)
  ·rw [aBv (by omega),aCv,aBv h,aMx]
 ·unfold Af.j2
  rw [Wm (by omega) (by omega)]
  rfl
theorem Vl (hc:Bl cmp lt P) {L0:List Aa} {e e2:Aa} {D:Array Aa} {a b i pivot:Nat} (hD:C3 (C3 L0 ((a:Int)).toNat e) ((pivot:Int)).toNat e2=D.toList) (hA:Ay P D) (ha:a < i) (hi:i<=b) (hb:b<=D.size) :
  B2 (fun q'=>Af.l3 L0 (a:Int) (pivot:Int) cmp e e2 (i:Int) q') (((b - 1:Nat):Int))=(fun j=>if j < i then some ((j:Int),true,(Sort.swp D j a).toList) else
   B2 (fun q'=>Af.l5 (a:Int) cmp q'.1 q'.2.1 q'.2.2) (((i + 1:Nat):Int),((j - 1:Nat):Int),(Sort.swp D i j).toList)) (scanDown (fun x=>!lt x D[a]!) D i (b - 1)):=by
 have hsz:=hA.1
 refine hO (p:=fun x=>!lt x D[a]!) (D:=D) (i:=i) (j0:=b - 1) (J:=fun j x=>Af.j4 L0 (a:Int) (pivot:Int) cmp e e2 (i:Int) (j:Int) x) (K:=fun j:Nat=>if j < i then some ((j:Int),true,(Sort.swp D j a).toList) else
   B2 (fun q'=>Af.l5 (a:Int) cmp q'.1 q'.2.1 q'.2.2) (((i + 1:Nat):Int),((j - 1:Nat):Int),(Sort.swp D i j).toList)) (by omega) (by omega) (fun j h1 h2=>?_) (fun i=>rfl) (fun j h1 h2=>?_) (b - 1) (by omega) (aHx _)
 ·unfold Af.l3
  rw [hD]
  by_cases h:i<=j
  ·rw [aBe (by omega),aDb,aBe h,aP9]
   exact H5 hc hA (i:=j) (j:=a) (by omega) (by omega) rfl rfl (F:=fun x=>Af.j4 L0 (a:Int) (pivot:Int) cmp e e2 (i:Int) (j:Int) (!x))
  ·rw [aBv (by omega),aCv,aBv h,aMx]
 ·unfold Af.j4
  rw [hD,aCv]
  congr 1
  by_cases h:j < i
  ·rw [aBe (by omega),aDb,if_pos h]
   exact Gb (i:=j) (j:=a) (by omega) (by omega) rfl rfl (fun l=>some ((j:Int),true,l))
  ·rw [aBv (by omega),aCv,if_neg h,Wp (by omega),Wm (by omega) (by omega)]
   exact Gb (i:=i) (j:=j) (by omega) (by omega) rfl rfl (fun l=>B2 (fun q'=>Af.l5 (a:Int) cmp q'.1 q'.2.1 q'.2.2) (((i + 1:Nat):Int),((j - 1:Nat):Int),l))
theorem Of (hc:Bl cmp lt P) {D:Array Aa} {a i j:Nat} (hA:Ay P D) (ha:a < i) (hi:i<=j + 1) (hj:j < D.size) :
  Af.l5 (a:Int) cmp (i:Int) (j:Int) D.toList=(fun i' j':Nat=>if j' < i' then up (some ((j':Int),false,(Sort.swp D j' a).toList)) else some (.next (((i' + 1:Nat):Int),((j' - 1:Nat):Int),(Sort.swp D i' j').toList))) (scanUp (fun x=>lt x D[a]!) D j i) (scanDown (fun x=>!lt x D[a]!) D (scanUp (fun x=>lt x D[a]!) D j i) j):=by
 have hsz:=hA.1
 have hu:=scanUp_spec (fun x=>lt x D[a]!) D j _ i rfl
 unfold Af.l5
 refine (oB (p:=fun x=>lt x D[a]!) (D:=D) (i0:=i) (j:=j) (J:=fun i x=>Af.j7 (a:Int) cmp (j:Int) D.toList (i:Int) x) (K:=fun i=>B2 (fun q'=>Af.l8 (a:Int) cmp D.toList (i:Int) q') (j:Int)) (by omega) (fun i' h1 h2=>?_) (fun i=>rfl) (fun i' h1 h2=>rfl) _ i rfl (aHx _) (by omega)).trans ?_
 ·unfold Af.l6
  by_cases h:i'<=j
  ·rw [aBe (by omega),aDb,aBe h,aP9]
   exact H5 hc hA (i:=i') (j:=a) (by omega) (by omega) rfl rfl (F:=fun x=>Af.j7 (a:Int) cmp (j:Int) D.toList (i':Int) x)
  ·rw [aBv (by omega),aCv,aBv h,aMx]
 ·generalize scanUp (fun x=>lt x D[a]!) D j i=i2 at hu ⊢
  have h1:=hu.1
  have h2:=hu.2.1 hi
  refine hO (p:=fun x=>!lt x D[a]!) (D:=D) (i:=i2) (j0:=j) (J:=fun j x=>Af.j9 (a:Int) D.toList (i2:Int) (j:Int) x) (K:=fun j':Nat=>if j' < i2 then up (some ((j':Int),false,(Sort.swp D j' a).toList)) else some (.next (((i2 + 1:Nat):Int),((j' - 1:Nat):Int),(Sort.swp D i2 j').toList))) (by omega) (by omega) (fun j' h3 h4=>?_) (fun j'=>rfl) (fun j' h3 h4=>?_) j (by omega) (aHx _)
  ·unfold Af.l8
   by_cases h:i2<=j'
   ·rw [aBe (by omega),aDb,aBe h,aP9]
    exact H5 hc hA (i:=j') (j:=a) (by omega) (by omega) rfl rfl (F:=fun x=>Af.j9 (a:Int) D.toList (i2:Int) (j':Int) (!x))
   ·rw [aBv (by omega),aCv,aBv h,aMx]
  ·unfold Af.j9
   rw [aCv]
   congr 1
   by_cases h:j' < i2
   ·rw [aBe (by omega),aDb,if_pos h]
    congr 1
    exact Gb (i:=j') (j:=a) (by omega) (by omega) rfl rfl (fun l=>some ((j':Int),false,l))
   ·rw [aBv (by omega),aCv,if_neg h,Wp (by omega),Wm (by omega) (by omega)]
    exact Gb (i:=i2) (j:=j') (by omega) (by omega) rfl rfl (fun l=>some (Lp.next (((i2 + 1:Nat):Int),((j' - 1:Nat):Int),l)))
theorem Tr (hc:Bl cmp lt P) {a:Nat}:∀ (n i j:Nat) (D:Array Aa),j + 1 - i<=n->a < i->i<=j + 1->j < D.size->Ay P D->
  Ay P (partLoop lt a i j D).2/\(partLoop lt a i j D).2.size=D.size/\(partLoop lt a i j D).1 < D.size/\
  B2 (fun q'=>Af.l5 (a:Int) cmp q'.1 q'.2.1 q'.2.2) ((i:Int),(j:Int),D.toList)=some (((partLoop lt a i j D).1:Int),false,(Sort.swp (partLoop lt a i j D).2 (partLoop lt a i j D).1 a).toList):=by
 intro n
 induction n with
 | zero=>
  intro i j D hn ha hi hj hA
  have hr:=Of hc hA ha hi hj
  have hu:=scanUp_spec (fun x=>lt x D[a]!) D j _ i rfl
  rw [partLoop_eq]
  generalize scanUp (fun x=>lt x D[a]!) D j i=i2 at hu hr ⊢
  have hd:=scanDown_spec (fun x=>!lt x D[a]!) D i2 j
  generalize scanDown (fun x=>!lt x D[a]!) D i2 j=j2 at hd hr ⊢
  have h1:=hu.1
  have h2:=hd.1
  rw [if_pos (show i2 > j2 by omega)]
  refine⟨hA,rfl,show j2 < D.size by omega,Eo (hr.trans ?_)⟩
  exact if_pos (show j2 < i2 by omega)
 | succ n ih=>
  intro i j D hn ha hi hj hA
  have hr:=Of hc hA ha hi hj
  have hu:=scanUp_spec (fun x=>lt x D[a]!) D j _ i rfl
  rw [partLoop_eq]
  generalize scanUp (fun x=>lt x D[a]!) D j i=i2 at hu hr ⊢
  have hd:=scanDown_spec (fun x=>!lt x D[a]!) D i2 j
  generalize scanDown (fun x=>!lt x D[a]!) D i2 j=j2 at hd hr ⊢
  have h1:=hu.1
  have h2:=hd.1
  by_cases h:i2 > j2
  ·rw [if_pos h]
   refine⟨hA,rfl,show j2 < D.size by omega,Eo (hr.trans ?_)⟩
   exact if_pos (show j2 < i2 by omega)
  ·rw [if_neg h]
   have hne:i2≠j2:=fun e=>by
    have u4:=hu.2.2.2 (by omega)
    have d4:=hd.2.2.2 (by omega) (by omega)
    rw [e] at u4
    rw [u4] at d4
    cases d4
   obtain⟨q1,q2,q3,q4⟩:=ih (i2 + 1) (j2 - 1) (Sort.swp D i2 j2) (by omega) (by omega) (by omega) (by rw [B0]; omega) (hA.swp (by omega) (by omega))
   rw [B0] at q2 q3
   refine⟨q1,q2,q3,(Fi (hr.trans (if_neg (show ¬ j2 < i2 by omega)))).trans q4⟩
theorem Xx (hc:Bl cmp lt P) {a b pivot:Nat} {d:Array Aa} (hab:a < b) (hp1:a<=pivot) (hp2:pivot < b) (hb:b<=d.size) (hd:Ay P d) :
  Af d.toList (a:Int) (b:Int) (pivot:Int) cmp=some (((partition lt d a b pivot).1:Int),(partition lt d a b pivot).2.1,(partition lt d a b pivot).2.2.toList):=by
 have hsz:=hd.1
 have hA:Ay P (Sort.swp d a pivot):=hd.swp (by omega) (by omega)
 have hs:=B0 d a pivot
 have hD:C3 (C3 d.toList ((a:Int)).toNat d[pivot]!) ((pivot:Int)).toNat d[a]! = (Sort.swp d a pivot).toList:=by
  rw [aK9,aK9,I0]
 obtain⟨y,hy⟩:=Iw (d:=d) (x:=d[pivot]!) (j:=((a:Int)).toNat) (i:=pivot) (by omega) rfl
 unfold Af partition
 rw [Cu (i:=pivot) (by omega) rfl,aAc,Cu (i:=a) (by omega) rfl,aAc,hy,aAc,Vk hc hD hA hab (by omega)]
 simp only []
 generalize Sort.swp d a pivot=D at hA hs hD ⊢
 have hu:=scanUp_spec (fun x=>lt x D[a]!) D (b - 1) _ (a + 1) rfl
 generalize scanUp (fun x=>lt x D[a]!) D (b - 1) (a + 1)=i2 at hu ⊢
 have h1:=hu.1
 have h2:=hu.2.1 (by omega)
 rw [Vl hc hD hA (b:=b) (i:=i2) (by omega) (by omega) (by omega)]
 have hdn:=scanDown_spec (fun x=>!lt x D[a]!) D i2 (b - 1)
 generalize scanDown (fun x=>!lt x D[a]!) D i2 (b - 1)=j2 at hdn ⊢
 have h3:=hdn.1
 by_cases h:i2 > j2
 ·rw [if_pos h]
  exact if_pos (show j2 < i2 by omega)
 ·rw [if_neg h]
  have hne:i2≠j2:=fun e=>by
   have u4:=hu.2.2.2 (by omega)
   have d4:=hdn.2.2.2 (by omega) (by omega)
   rw [e] at u4
   rw [u4] at d4
   cases d4
  refine (if_neg (show ¬ j2 < i2 by omega)).trans ?_
  exact (Tr hc _ (i2 + 1) (j2 - 1) (Sort.swp D i2 j2) (aHx _) (by omega) (by omega) (by rw [B0]; omega) (hA.swp (by omega) (by omega))).2.2.2
end
end
section
open Go Go.Sort
section
variable {cmp:Aa->Aa->Option Int} {lt:Aa->Aa->Bool} {P:Aa->Prop}
theorem Ot (hc:Bl cmp lt P) {D:Array Aa} {a i j:Nat} (hA:Ay P D) (ha:a < i) (hi:i<=j + 1) (hj:j < D.size) :
  Al.l1 (a:Int) cmp (i:Int) (j:Int) D.toList=(fun i' j':Nat=>if j' < i' then up (some ((i':Int),D.toList)) else some (.next (((i' + 1:Nat):Int),((j' - 1:Nat):Int),(Sort.swp D i' j').toList))) (scanUp (fun x=>!lt D[a]! x) D j i) (scanDown (fun x=>lt D[a]! x) D (scanUp (fun x=>!lt D[a]! x) D j i) j):=by
 have hsz:=hA.1
 have hu:=scanUp_spec (fun x=>!lt D[a]! x) D j _ i rfl
 unfold Al.l1
 refine (oB (p:=fun x=>!lt D[a]! x) (D:=D) (i0:=i) (j:=j) (J:=fun i x=>Al.j3 (a:Int) cmp (j:Int) D.toList (i:Int) x) (K:=fun i=>B2 (fun q'=>Al.l4 (a:Int) cmp D.toList (i:Int) q') (j:Int)) (by omega) (fun i' h1 h2=>?_) (fun i=>rfl) (fun i' h1 h2=>rfl) _ i rfl (aHx _) (by omega)).trans ?_
 ·unfold Al.l2
  by_cases h:i'<=j
  ·rw [aBe (by omega),aDb,aBe h,aP9]
   exact H5 hc hA (i:=a) (j:=i') (by omega) (by omega) rfl rfl (F:=fun x=>Al.j3 (a:Int) cmp (j:Int) D.toList (i':Int) (!x))
  ·rw [aBv (by omega),aCv,aBv h,aMx]
 ·generalize scanUp (fun x=>!lt D[a]! x) D j i=i2 at hu ⊢
  have h1:=hu.1
  have h2:=hu.2.1 hi
  refine hO (p:=fun x=>lt D[a]! x) (D:=D) (i:=i2) (j0:=j) (J:=fun j x=>Al.j5 D.toList (i2:Int) (j:Int) x) (K:=fun j':Nat=>if j' < i2 then up (some ((i2:Int),D.toList)) else some (.next (((i2 + 1:Nat):Int),((j' - 1:Nat):Int),(Sort.swp D i2 j').toList))) (by omega) (by omega) (fun j' h3 h4=>?_) (fun j'=>rfl) (fun j' h3 h4=>?_) j (by omega) (aHx _)
  ·unfold Al.l4
   by_cases h:i2<=j'
   ·rw [aBe (by omega),aDb,aBe h,aP9]
    exact H5 hc hA (i:=a) (j:=j') (by omega) (by omega) rfl rfl (F:=fun x=>Al.j5 D.toList (i2:Int) (j':Int) x)
   ·rw [aBv (by omega),aCv,aBv h,aMx]
  ·unfold Al.j5
   rw [aCv]
   congr 1
   by_cases h:j' < i2
   ·rw [aBe (by omega),aDb,if_pos h]
   ·rw [aBv (by omega),aCv,if_neg h,Wp (by omega),Wm (by omega) (by omega)]
    exact Gb (i:=i2) (j:=j') (by omega) (by omega) rfl rfl (fun l=>some (Lp.next (((i2 + 1:Nat):Int),((j' - 1:Nat):Int),l)))
theorem Ub (hc:Bl cmp lt P) {a:Nat}:∀ (n i j:Nat) (D:Array Aa),j + 1 - i<=n->a < i->i<=j + 1->j < D.size->Ay P D->
  B2 (fun q'=>Al.l1 (a:Int) cmp q'.1 q'.2.1 q'.2.2) ((i:Int),(j:Int),D.toList)=some (((partEqLoop lt a i j D).1:Int),(partEqLoop lt a i j D).2.toList):=by
 intro n
 induction n with
 | zero=>
  intro i j D hn ha hi hj hA
  have hr:=Ot hc hA ha hi hj
  have hu:=scanUp_spec (fun x=>!lt D[a]! x) D j _ i rfl
  rw [partEqLoop_eq]
  generalize scanUp (fun x=>!lt D[a]! x) D j i=i2 at hu hr ⊢
  have hd:=scanDown_spec (fun x=>lt D[a]! x) D i2 j
  generalize scanDown (fun x=>lt D[a]! x) D i2 j=j2 at hd hr ⊢
  have h1:=hu.1
  have h2:=hd.1
  rw [if_pos (show i2 > j2 by omega)]
  refine Eo (hr.trans ?_)
  exact if_pos (show j2 < i2 by omega)
 | succ n ih=>
  intro i j D hn ha hi hj hA
  have hr:=Ot hc hA ha hi hj
  have hu:=scanUp_spec (fun x=>!lt D[a]! x) D j _ i rfl
  rw [partEqLoop_eq]
  generalize scanUp (fun x=>!lt D[a]! x) D j i=i2 at hu hr ⊢
  have hd:=scanDown_spec (fun x=>lt D[a]! x) D i2 j
  generalize scanDown (fun x=>lt D[a]! x) D i2 j=j2 at hd hr ⊢
  have h1:=hu.1
  have h2:=hd.1
  by_cases h:i2 > j2
  ·rw [if_pos h]
   refine Eo (hr.trans ?_)
   exact if_pos (show j2 < i2 by omega)
  ·rw [if_neg h]
   have hne:i2≠j2:=fun e=>by
    have u4:=hu.2.2.2 (by omega)
    have d4:=hd.2.2.2 (by omega) (by omega)
    rw [e] at u4
    rw [d4] at u4
    cases u4
   exact (Fi (hr.trans (if_neg (show ¬ j2 < i2 by omega)))).trans (ih (i2 + 1) (j2 - 1) (Sort.swp D i2 j2) (by omega) (by omega) (by omega) (by rw [B0]; omega) (hA.swp (by omega) (by omega)))
theorem Z7 (hc:Bl cmp lt P) {a b pivot:Nat} {d:Array Aa} (hab:a < b) (hp1:a<=pivot) (hp2:pivot < b) (hb:b<=d.size) (hd:Ay P d) :
  Al d.toList (a:Int) (b:Int) (pivot:Int) cmp=some (((partitionEqual lt d a b pivot).1:Int),(partitionEqual lt d a b pivot).2.toList):=by
 have hsz:=hd.1
 unfold Al partitionEqual
 rw [Wp (by omega),Wm (by omega) (by omega)]
 refine (Gb (i:=a) (j:=pivot) (by omega) (by omega) rfl rfl (fun l=>B2 (fun q'=>Al.l1 (a:Int) cmp q'.1 q'.2.1 q'.2.2) (((a + 1:Nat):Int),((b - 1:Nat):Int),l))).trans ?_
 exact Ub hc _ (a + 1) (b - 1) (Sort.swp d a pivot) (aHx _) (by omega) (by omega) (by rw [B0]; omega) (hd.swp (by omega) (by omega))
theorem Z3 (hc:Bl cmp lt P) {b i2:Nat} {j1:Int}:∀ (n j:Nat) (d:Array Aa),b - j=n->1<=j->b<=d.size->Ay P d->
  Ay P (shiftUp lt b j d)/\(shiftUp lt b j d).size=d.size/\B2 (fun q'=>Ac.l6 (b:Int) cmp j1 (i2:Int) q'.1 q'.2) ((j:Int),d.toList)=some (.next ((i2:Int),W (j1 + 1),(shiftUp lt b j d).toList)):=by
 intro n
 induction n with
 | zero=>
  intro j d hn h1 hb hd
  rw [shiftUp,if_neg (by omega)]
  refine⟨hd,rfl,Eo ?_⟩
  show Ac.l6 (b:Int) cmp j1 (i2:Int) (j:Int) d.toList=_
  unfold Ac.l6
  rw [aBv (by omega),aCv]
  rfl
 | succ n ih=>
  intro j d hn h1 hb hd
  have hsz:=hd.1
  rw [shiftUp,if_pos (by omega)]
  obtain⟨m,m1,m2⟩:=Hl hc hd (i:=j) (j:=j - 1) (by omega) (by omega)
  have hbody:Ac.l6 (b:Int) cmp j1 (i2:Int) (j:Int) d.toList=bif lt d[j]! d[j - 1]! then some (.next (((j + 1:Nat):Int),(Sort.swp d j (j - 1)).toList)) else up (some (.next ((i2:Int),W (j1 + 1),d.toList))):=by
   obtain⟨y,hy⟩:=Iw (d:=d) (x:=d[j - 1]!) (j:=((j:Int)).toNat) (i:=j - 1) (by omega) rfl
   unfold Ac.l6
   rw [aBe (by omega),aDb,Wm (by omega) (by omega),Cu (i:=j) (by omega) rfl,aAc,Cu (i:=j - 1) (by omega) rfl,aAc,m1,aAc,m2,hy,aAc,Wp (by omega),aK9,aK9,I0]
   cases lt d[j]! d[j - 1]! <;> rfl
  cases hl:lt d[j]! d[j - 1]! with
  | false=>
   rw [hl] at hbody
   rw [if_pos (by rfl)]
   exact⟨hd,rfl,Eo hbody⟩
  | true=>
   rw [hl] at hbody
   rw [if_neg (by simp)]
   obtain⟨q1,q2,q3⟩:=ih (j + 1) (Sort.swp d j (j - 1)) (by omega) (by omega) (by rw [B0]; exact hb) (hd.swp (by omega) (by omega))
   exact⟨q1,by rw [q2,B0],(Fi hbody).trans q3⟩
theorem Zz (hc:Bl cmp lt P) {b i2:Nat} {j1:Int} {d:Array Aa} (h1:1<=i2) (h2:i2 < b) (hb:b<=d.size) (hd:Ay P d) :
  Ay P (if b - i2>=2 then shiftUp lt b (i2 + 1) d else d)/\(if b - i2>=2 then shiftUp lt b (i2 + 1) d else d).size=d.size/\Ac.j5 (b:Int) cmp j1 (i2:Int) d.toList=some (.next ((i2:Int),W (j1 + 1),(if b - i2>=2 then shiftUp lt b (i2 + 1) d else d).toList)):=by
 have hsz:=hd.1
 unfold Ac.j5
 rw [Wd (by omega) (by omega)]
 by_cases h:b - i2>=2
 ·rw [aBe (by omega),aDb,if_pos h,Wp (by omega)]
  exact Z3 hc _ (i2 + 1) d rfl (by omega) hb hd
 ·rw [aBv (by omega),aCv,if_neg h]
  exact⟨hd,rfl,rfl⟩
theorem Th (hc:Bl cmp lt P) {b i2:Nat} {j1:Int}:∀ (j:Nat) (d:Array Aa),j < d.size->Ay P d->
  Ay P (shiftDown lt j d)/\(shiftDown lt j d).size=d.size/\B2 (fun q'=>Ac.l4 (b:Int) cmp j1 (i2:Int) q'.1 q'.2) ((j:Int),d.toList)=Ac.j5 (b:Int) cmp j1 (i2:Int) (shiftDown lt j d).toList
 | 0,d,hj,hd=>by
  refine⟨hd,rfl,Eo ?_⟩
  show Ac.l4 (b:Int) cmp j1 (i2:Int) ((0:Nat):Int) d.toList=_
  unfold Ac.l4
  rw [aBv (by omega),aCv]
  rfl
 | j + 1,d,hj,hd=>by
  have hsz:=hd.1
  unfold shiftDown
  obtain⟨m,m1,m2⟩:=Hl hc hd (i:=j + 1) (j:=j) (by omega) (by omega)
  have hbody:Ac.l4 (b:Int) cmp j1 (i2:Int) ((j + 1:Nat):Int) d.toList=bif lt d[j + 1]! d[j]! then some (.next ((j:Int),(Sort.swp d (j + 1) j).toList)) else up (Ac.j5 (b:Int) cmp j1 (i2:Int) d.toList):=by
   obtain⟨y,hy⟩:=Iw (d:=d) (x:=d[j]!) (j:=(((j + 1:Nat):Int)).toNat) (i:=j) (by omega) rfl
   unfold Ac.l4
   have e:W (((j + 1:Nat):Int) - 1)=(j:Int):=Wm (n:=j + 1) (by omega) (by omega)
   rw [aBe (by omega),aDb,e,Cu (i:=j + 1) (by omega) rfl,aAc,Cu (i:=j) (by omega) rfl,aAc,m1,aAc,m2,hy,aAc,aK9,aK9,I0]
   cases lt d[j + 1]! d[j]! <;> rfl
  cases hl:lt d[j + 1]! d[j]! with
  | false=>
   rw [hl] at hbody
   rw [if_pos (by rfl)]
   exact⟨hd,rfl,Eo hbody⟩
  | true=>
   rw [hl] at hbody
   rw [if_neg (by simp)]
   obtain⟨q1,q2,q3⟩:=Th hc j (Sort.swp d (j + 1) j) (by rw [B0]; omega) (hd.swp (by omega) (by omega))
   exact⟨q1,by rw [q2,B0],(Fi hbody).trans q3⟩
theorem Ry (hc:Bl cmp lt P) {a b:Nat}:∀ (s i:Nat) (d:Array Aa),s<=5->a < i->i<=b->b<=d.size->Ay P d->
  B2 (fun q'=>Ac.l1 (a:Int) (b:Int) cmp q'.1 q'.2.1 q'.2.2) ((i:Int),((5 - s:Nat):Int),d.toList)=some ((partialIns lt a b s i d).2,(partialIns lt a b s i d).1.toList)
 | 0,i,d,hs,ha,hi,hb,hd=>by
  refine Eo ?_
  show Ac.l1 (a:Int) (b:Int) cmp (i:Int) ((5 - 0:Nat):Int) d.toList=_
  unfold Ac.l1
  rw [aBv (by omega),aCv]
  rfl
 | s + 1,i,d,hs,ha,hi,hb,hd=>by
  have hsz:=hd.1
  have hle:=dK lt d b _ i rfl hi
  have hbody:Ac.l1 (a:Int) (b:Int) cmp (i:Int) ((5 - (s + 1):Nat):Int) d.toList =
    (fun i':Nat=>if i'=b then up (some (true,d.toList)) else if b - a < 50 then up (some (false,d.toList)) else
     bif decide (i' - a>=2) then B2 (fun q'=>Ac.l4 (b:Int) cmp ((5 - (s + 1):Nat):Int) (i':Int) q'.1 q'.2) (((i' - 1:Nat):Int),(Sort.swp d i' (i' - 1)).toList)
     else Ac.j5 (b:Int) cmp ((5 - (s + 1):Nat):Int) (i':Int) (Sort.swp d i' (i' - 1)).toList) (scanSorted lt d b i):=by
   unfold Ac.l1
   rw [aBe (by omega),aDb]
   refine aHn (lt:=lt) (D:=d) (i0:=i) (b:=b) (J:=fun i x=>Ac.j3 (a:Int) (b:Int) cmp ((5 - (s + 1):Nat):Int) d.toList (i:Int) x) (K:=fun i':Nat=>if i'=b then up (some (true,d.toList)) else if b - a < 50 then up (some (false,d.toList)) else
     bif decide (i' - a>=2) then B2 (fun q'=>Ac.l4 (b:Int) cmp ((5 - (s + 1):Nat):Int) (i':Int) q'.1 q'.2) (((i' - 1:Nat):Int),(Sort.swp d i' (i' - 1)).toList)
     else Ac.j5 (b:Int) cmp ((5 - (s + 1):Nat):Int) (i':Int) (Sort.swp d i' (i' - 1)).toList) (by omega) (fun i' h1 h2=>?_) (fun i'=>rfl) (fun i' h1 h2=>?_) _ i rfl (aHx _) hi
   ·unfold Ac.l2
    by_cases h:i' < b
    ·rw [aBe (by omega),aDb,aBe h,aP9,Wm (by omega) (by omega)]
     exact H5 hc hd (i:=i') (j:=i' - 1) (by omega) (by omega) rfl rfl (F:=fun x=>Ac.j3 (a:Int) (b:Int) cmp ((5 - (s + 1):Nat):Int) d.toList (i':Int) (!x))
    ·rw [aBv (by omega),aCv,aBv h,aMx]
   ·unfold Ac.j3
    rw [aCv]
    congr 1
    by_cases e:i'=b
    ·rw [aBe (by omega),aDb,if_pos e]
    ·rw [aBv (by omega),aCv,if_neg e,Wd (by omega) (by omega)]
     by_cases h50:b - a < 50
     ·rw [aBe (by omega),aDb,if_pos h50]
     ·rw [aBv (by omega),aCv,if_neg h50,Wm (by omega) (by omega),Wd (by omega) (by omega)]
      have e2:decide ((2:Int)<=((i' - a:Nat):Int))=decide (i' - a>=2):=decide_eq_decide.2 (by omega)
      rw [e2]
      exact Gb (i:=i') (j:=i' - 1) (by omega) (by omega) rfl rfl (fun l=>cond (decide (i' - a>=2)) (B2 (fun q'=>Ac.l4 (b:Int) cmp ((5 - (s + 1):Nat):Int) (i':Int) q'.1 q'.2) (((i' - 1:Nat):Int),l)) (Ac.j5 (b:Int) cmp ((5 - (s + 1):Nat):Int) (i':Int) l))
  rw [partialIns_succ]
  generalize scanSorted lt d b i=i2 at hbody hle ⊢
  by_cases e:i2=b
  ·rw [if_pos e]
   exact Eo (hbody.trans (if_pos e))
  ·rw [if_neg e]
   by_cases h50:b - a < 50
   ·rw [if_pos h50]
    exact Eo (hbody.trans ((if_neg e).trans (if_pos h50)))
   ·rw [if_neg h50]
    have hb2:=hbody.trans ((if_neg e).trans (if_neg h50))
    unfold fixDown fixUp
    have hd1:Ay P (Sort.swp d i2 (i2 - 1)):=hd.swp (by omega) (by omega)
    have hz1:=B0 d i2 (i2 - 1)
    generalize Sort.swp d i2 (i2 - 1)=d1 at hb2 hd1 hz1 ⊢
    have e5:W (((5 - (s + 1):Nat):Int) + 1)=((5 - s:Nat):Int):=by
     rw [Wp (by omega)]
     omega
    have main:∀ d2:Array Aa,d2.size=d1.size->Ay P d2->Ac.l1 (a:Int) (b:Int) cmp (i:Int) ((5 - (s + 1):Nat):Int) d.toList=Ac.j5 (b:Int) cmp ((5 - (s + 1):Nat):Int) (i2:Int) d2.toList->
      B2 (fun q'=>Ac.l1 (a:Int) (b:Int) cmp q'.1 q'.2.1 q'.2.2) ((i:Int),((5 - (s + 1):Nat):Int),d.toList)=some ((partialIns lt a b s i2 (if b - i2>=2 then shiftUp lt b (i2 + 1) d2 else d2)).2,(partialIns lt a b s i2 (if b - i2>=2 then shiftUp lt b (i2 + 1) d2 else d2)).1.toList):=fun d2 hz2 hd2 hl=>by
     obtain⟨q1,q2,q3⟩:=Zz hc (b:=b) (i2:=i2) (j1:=((5 - (s + 1):Nat):Int)) (d:=d2) (by omega) (by omega) (by omega) hd2
     rw [e5] at q3
     exact (Fi (hl.trans q3)).trans (Ry hc s i2 _ (by omega) (by omega) (by omega) (by omega) q1)
    by_cases h2:i2 - a>=2
    ·rw [if_pos h2]
     rw [aBe h2,aDb] at hb2
     obtain⟨q1,q2,q3⟩:=Th hc (b:=b) (i2:=i2) (j1:=((5 - (s + 1):Nat):Int)) (i2 - 1) d1 (by omega) hd1
     exact main _ q2 q1 (hb2.trans q3)
    ·rw [if_neg h2]
     rw [aBv h2,aCv] at hb2
     exact main _ rfl hd1 hb2
theorem Vh (hc:Bl cmp lt P) {a b:Nat} {d:Array Aa} (hab:a < b) (hb:b<=d.size) (hd:Ay P d) :
  Ac d.toList (a:Int) (b:Int) cmp=some ((partialInsertionSort lt d a b).2,(partialInsertionSort lt d a b).1.toList):=by
 have hsz:=hd.1
 unfold Ac partialInsertionSort
 rw [Wp (by omega)]
 exact Ry hc 5 (a + 1) d (by omega) (by omega) (by omega) hb hd
end
end
section
open Go Go.Sort
section
variable {cmp:Aa->Aa->Option Int} {lt:Aa->Aa->Bool} {P:Aa->Prop}
theorem Ay.perm {d d':Array Aa} {a b:Nat} (h:Ay P d) (hb:b<=d.size) (hp:PermIn a b d d'):Ay P d':=by
 refine⟨by rw [hp.1]; exact h.1,fun i hi=>?_⟩
 rw [hp.1] at hi
 by_cases hr:a<=i/\i < b
 ·exact permIn_all d d' a b P hb hp (fun k _ hk=>h.2 k (by omega)) i hr.1 hr.2
 ·rw [hp.2.1 i (by omega)]
  exact h.2 i hi
theorem Z0:∀ (n i j:Nat) (d:Array Aa),j - i<=n->j < d.size->d.size<=1000000000->
  B2 (fun q'=>Bg.l1 q'.1 q'.2.1 q'.2.2) ((i:Int),(j:Int),d.toList)=some (reverseLoop i j d).toList:=by
 intro n
 induction n with
 | zero=>
  intro i j d hn hj hs
  rw [reverseLoop,if_neg (by omega)]
  refine Eo ?_
  show Bg.l1 (i:Int) (j:Int) d.toList=_
  unfold Bg.l1
  rw [aBv (by omega),aCv]
 | succ n ih=>
  intro i j d hn hj hs
  rw [reverseLoop]
  by_cases h:i < j
  ·rw [if_pos h]
   have hb:Bg.l1 (i:Int) (j:Int) d.toList=some (.next (((i + 1:Nat):Int),((j - 1:Nat):Int),(Sort.swp d i j).toList)):=by
    unfold Bg.l1
    rw [aBe (by omega),aDb,Wp (by omega),Wm (by omega) (by omega)]
    exact Gb (i:=i) (j:=j) (by omega) (by omega) rfl rfl (fun l=>some (Lp.next (((i + 1:Nat):Int),((j - 1:Nat):Int),l)))
   exact (Fi hb).trans (ih (i + 1) (j - 1) _ (by omega) (by rw [B0]; omega) (by rw [B0]; exact hs))
  ·rw [if_neg h]
   refine Eo ?_
   show Bg.l1 (i:Int) (j:Int) d.toList=_
   unfold Bg.l1
   rw [aBv (by omega),aCv]
theorem Ve {a b:Nat} {d:Array Aa} (hab:a < b) (hb:b<=d.size) (hs:d.size<=1000000000):Bg d.toList (a:Int) (b:Int) cmp=some (reverseRange d a b).toList:=by
 unfold Bg reverseRange
 rw [Wm (by omega) (by omega)]
 exact Z0 _ a (b - 1) d (aHx _) (by omega) hs
theorem P7 {a idx o:Nat} {d:Array Aa} {z:Int×Int} (hi:idx < d.size) (ho:a + o < d.size) (hs:d.size<=1000000000) :
  Aw.j2 (a:Int) (idx:Int) d.toList z (o:Int)=some (.next (((idx + 1:Nat):Int),(Sort.swp d idx (a + o)).toList,z.2)):=by
 unfold Aw.j2
 have e:W ((a:Int) + (o:Int))=((a + o:Nat):Int):=by rw [Dz (by omega)]; omega
 rw [e,Wp (by omega)]
 exact Gb (i:=idx) (j:=a + o) hi ho rfl rfl (fun l=>some (Lp.next (((idx + 1:Nat):Int),l,z.2)))
theorem V5 {a b y:Nat} (hab:a < b) (h8:8<=b - a) (hy1:b - a < y) (hy2:y<=2 * (b - a)):∀ (k idx:Nat) (d:Array Aa) (r:Int),idx + k=a + (b - a) / 4 * 2 + 2->a<=idx->b<=d.size->d.size < 65536->
  ∃ d',B2 (fun q'=>Aw.l1 (a:Int) (b:Int) (y:Int) q'.1 q'.2.1 q'.2.2) ((idx:Int),d.toList,r)=some d'.toList/\PermIn a b d d':=by
 intro k
 induction k with
 | zero=>
  intro idx d r hk hi hb hs
  refine⟨d,Eo ?_,permIn_refl d a b⟩
  show Aw.l1 (a:Int) (b:Int) (y:Int) (idx:Int) d.toList r=_
  unfold Aw.l1
  rw [Wd (by omega) (by omega),aCh (by omega),aAc,Wq2 (by omega) (by omega),Wp (by omega),aBv (by omega),aCv]
 | succ k ih=>
  intro idx d r hk hi hb hs
  obtain⟨z,hz⟩:=aD2 r
  obtain⟨m,m1,m2⟩:=aE6 z.1 (y - 1) (by omega)
  have e3:((y:Int) - 1)=((y - 1:Nat):Int):=by omega
  have hbody:∃ o:Nat,o < b - a/\Aw.l1 (a:Int) (b:Int) (y:Int) (idx:Int) d.toList r=some (.next (((idx + 1:Nat):Int),(Sort.swp d idx (a + o)).toList,z.2)):=by
   unfold Aw.l1
   rw [Wd (m:=b) (n:=a) (by omega) (by omega),aCh (by omega),aAc,Wq2 (by omega) (by omega),Wp (by omega),aBe (by omega),aDb,hz,aAc,e3,m2]
   clear m2
   by_cases h:b - a<=m
   ·refine⟨m - (b - a),by omega,?_⟩
    rw [aBe (by omega),aDb,Wd (by omega) h]
    exact P7 (by omega) (by omega) (by omega)
   ·refine⟨m,by omega,?_⟩
    rw [aBv (by omega),aCv]
    exact P7 (by omega) (by omega) (by omega)
  obtain⟨o,ho,hbd⟩:=hbody
  obtain⟨d',h1,h2⟩:=ih (idx + 1) (Sort.swp d idx (a + o)) z.2 (by omega) (by omega) (by rw [B0]; exact hb) (by rw [B0]; exact hs)
  exact⟨d',(Fi hbd).trans h1,permIn_trans _ _ _ a b (swp_permIn d a b idx (a + o) (by omega) (by omega) (by omega) (by omega) hb) h2⟩
theorem Xe {a b:Nat} {d:Array Aa} (hab:a < b) (hb:b<=d.size) (hs:d.size < 65536):∃ d',Aw d.toList (a:Int) (b:Int) cmp=some d'.toList/\PermIn a b d d':=by
 unfold Aw
 rw [Wd (by omega) (by omega)]
 by_cases h8:8<=b - a
 ·obtain⟨y,y1,y2,y3⟩:=aCq (b - a) (by omega) (by omega)
  rw [aBe (by omega),aDb,y3,aAc,aCh (by omega),aAc,Wq2 (by omega) (by omega),Wm (by omega) (by omega)]
  exact V5 hab h8 y1 y2 3 (a + (b - a) / 4 * 2 - 1) d _ (by omega) (by omega) hb hs
 ·rw [aBv (by omega),aCv]
  exact⟨d,rfl,permIn_refl d a b⟩
theorem Nt (hc:Bl cmp lt P) {d:Array Aa} (hd:Ay P d) {x y:Nat} (hx:x < d.size) (hy:y < d.size) (s:Int) :
  ∃ (x' y':Nat) (s':Int),C8 d.toList (x:Int) (y:Int) s cmp=some ((x':Int),(y':Int),s')/\(x'=x/\y'=y\/x'=y/\y'=x):=by
 obtain⟨m,m1,m2⟩:=Hl hc hd (i:=y) (j:=x) hy hx
 unfold C8
 rw [Cu (i:=y) hy rfl,aAc,Cu (i:=x) hx rfl,aAc,m1,aAc]
 cases decide (m < 0) with
 | true=>exact⟨y,x,_,rfl,Or.inr ⟨rfl,rfl⟩⟩
 | false=>exact⟨x,y,_,rfl,Or.inl ⟨rfl,rfl⟩⟩
theorem Te (hc:Bl cmp lt P) {d:Array Aa} (hd:Ay P d) {x y z:Nat} (hx:x < d.size) (hy:y < d.size) (hz:z < d.size) (s:Int) :
  ∃ (x':Nat) (s':Int),Do d.toList (x:Int) (y:Int) (z:Int) s cmp=some ((x':Int),s')/\(x'=x\/x'=y\/x'=z):=by
 obtain⟨p1,p2,s1,h1,k1⟩:=Nt hc hd hx hy s
 unfold Do
 rw [h1,aAc]
 obtain⟨q1,q2,s2,h2,k2⟩:=Nt hc hd (x:=p2) (y:=z) (by omega) hz s1
 simp only []
 rw [h2,aAc]
 obtain⟨r1,r2,s3,h3,k3⟩:=Nt hc hd (x:=p1) (y:=q1) (by omega) (by omega) s2
 simp only []
 rw [h3,aAc]
 exact⟨r2,s3,rfl,by omega⟩
theorem Ny (hc:Bl cmp lt P) {d:Array Aa} (hd:Ay P d) {x:Nat} (h0:0 < x) (hx:x + 1 < d.size) (s:Int) :
  ∃ (x':Nat) (s':Int),Cn d.toList (x:Int) s cmp=some ((x':Int),s')/\(x'=x - 1\/x'=x\/x'=x + 1):=by
 have hsz:=hd.1
 obtain⟨p,s1,h1,k1⟩:=Te hc hd (x:=x - 1) (y:=x) (z:=x + 1) (by omega) (by omega) hx s
 unfold Cn
 rw [Wm (by omega) h0,Wp (by omega),h1,aAc]
 exact⟨p,s1,rfl,k1⟩
theorem Yy (p:Nat) (s:Int):∃ h:Int,A5.j2 (p:Int) s=some ((p:Int),h):=by
 unfold A5.j2
 cases decide (s=0) with
 | true=>exact⟨_,rfl⟩
 | false=>
  cases decide (s=12) with
  | true=>exact⟨_,rfl⟩
  | false=>exact⟨_,rfl⟩
theorem Vv (hc:Bl cmp lt P) {d:Array Aa} (hd:Ay P d) {a b:Nat} (h8:8<=b - a) (hb:b<=d.size) :
  ∃ (p:Nat) (h:Int),A5 d.toList (a:Int) (b:Int) cmp=some ((p:Int),h)/\a<=p/\p < b:=by
 have hsz:=hd.1
 have j1:∀ (i j k:Nat) (s:Int),a<=i->i < b->a<=j->j < b->a<=k->k < b->∃ (p:Nat) (h:Int),A5.j1 d.toList cmp (i:Int) (j:Int) (k:Int) s=some ((p:Int),h)/\a<=p/\p < b:=fun i j k s h1 h2 h3 h4 h5 h6=>by
  obtain⟨p,s1,k1,k2⟩:=Te hc hd (x:=i) (y:=j) (z:=k) (by omega) (by omega) (by omega) s
  unfold A5.j1
  rw [k1,aAc]
  obtain⟨h,hh⟩:=Yy p s1
  exact⟨p,h,hh,by omega,by omega⟩
 unfold A5
 rw [Wd (by omega) (by omega),aCh (by omega),aAc,aAc,aAc,aBe (by omega),aDb]
 generalize hq:(b - a) / 4=q
 rw [Wq1 (by omega) (by omega),Wq2 (by omega) (by omega),Wq3 (by omega) (by omega)]
 by_cases h50:50<=b - a
 ·rw [aBe (by omega),aDb]
  obtain⟨x1,s1,g1,k1⟩:=Ny hc hd (x:=a + q) (by omega) (by omega) 0
  rw [g1,aAc]
  obtain⟨x2,s2,g2,k2⟩:=Ny hc hd (x:=a + q * 2) (by omega) (by omega) s1
  simp only []
  rw [g2,aAc]
  obtain⟨x3,s3,g3,k3⟩:=Ny hc hd (x:=a + q * 3) (by omega) (by omega) s2
  simp only []
  rw [g3,aAc]
  exact j1 x1 x2 x3 s3 (by omega) (by omega) (by omega) (by omega) (by omega) (by omega)
 ·rw [aBv (by omega),aCv]
  exact j1 (a + q) (a + q * 2) (a + q * 3) 0 (by omega) (by omega) (by omega) (by omega) (by omega) (by omega)
end
end
section
open Go Go.Sort
section
variable {cmp:Aa->Aa->Option Int} {lt:Aa->Aa->Bool} {P:Aa->Prop}
def Sa (lt:Aa->Aa->Bool) (P:Aa->Prop) (Fin:Array Aa->Prop) (s:Int×Int×Int×Bool×Bool×List Aa):Prop:=
 ∃ (d:Array Aa) (a b:Nat),s.1=(a:Int)/\s.2.1=(b:Int)/\s.2.2.2.2.2=d.toList/\a<=b/\b<=d.size/\d.size < 65536/\Ay P d/\Below lt a b d/\∀ R,PermIn a b d R->SortedIn lt a b R->Fin R
def H4 (lt:Aa->Aa->Bool) (P:Aa->Prop) (rec:List Aa->Int->Int->Int->Option (List Aa)) (n:Nat):Prop:=
 ∀ (d:Array Aa) (a b:Nat) (lim:Int),a<=b->b<=d.size->d.size < 65536->Ay P d->Below lt a b d->b - a < n->Ok (rec d.toList (a:Int) (b:Int) lim) (fun r=>∃ d',r=d'.toList/\PermIn a b d d'/\SortedIn lt a b d')
abbrev Ke (lt:Aa->Aa->Bool) (P:Aa->Prop) (Fin:Array Aa->Prop) (n:Nat):Lp (Int×Int×Int×Bool×Bool×List Aa) (List Aa)->Prop:=
 jV (fun s=>Sa lt P Fin s/\(s.2.1 - s.1).toNat < n) (fun r=>∃ d',r=d'.toList/\Fin d')
variable {Fin:Array Aa->Prop} {rec:List Aa->Int->Int->Int->Option (List Aa)}
theorem Pk (hS:SWO lt) (hc:Bl cmp lt P) {a b pivot:Nat} {d:Array Aa} {wb wp:Bool} {lim:Int} {x:Bool} (hr:H4 lt P rec (b - a)) (hab:a < b) (hp1:a<=pivot) (hp2:pivot < b) (hb:b<=d.size) (hs:d.size < 65536) (hd:Ay P d) (hB:Below lt a b d) (hF:∀ R,PermIn a b d R->SortedIn lt a b R->Fin R) (hx:x=true->0 < a/\lt d[a - 1]! d[pivot]! = false) :
  Ok (Ai.j6 rec cmp (a:Int) (b:Int) wb wp lim (pivot:Int) d.toList x) (Ke lt P Fin (b - a)):=by
 unfold Ai.j6
 refine Ok.cond (fun hxt=>?_) (fun _=>?_)
 ·obtain⟨h0,h1⟩:=hx hxt
  rw [Z7 hc hab hp1 hp2 hb hd,aAc]
  obtain⟨g1,g2,g3,g4,g5⟩:=round_eq (d4:=(partitionEqual lt d a b pivot).2) (mid:=(partitionEqual lt d a b pivot).1) hS (partitionEqual_holds lt) h0 hp1 hp2 hb hB h1 rfl
  have hge:∀ i,a<=i->i < b->lt d[i]! d[pivot]! = false:=fun i hi hi'=>by
   rcases hB with h0 | hB
   ·omega
   ·exact hS.ntrans _ _ _ (hB i hi hi') h1
  have hpm:=(partitionEqual_holds lt hS d a b pivot hp1 hp2 hb hge).2.2.1
  generalize (partitionEqual lt d a b pivot).2=d4 at g3 g4 g5 hpm ⊢
  generalize (partitionEqual lt d a b pivot).1=mid at g1 g2 g4 g5 ⊢
  refine Ok.ret ⟨⟨d4,mid,b,rfl,rfl,rfl,g2,by omega,by omega,hd.perm hb hpm,g4,fun R h2 h3=>?_⟩,?_⟩
  ·obtain⟨k1,k2⟩:=g5 R h2 h3
   exact hF R k1 k2
  ·show (((b:Int)) - (mid:Int)).toNat < b - a
   omega
 ·rw [Xx hc hab hp1 hp2 hb hd,aAc]
  obtain⟨g1,g2,g3,g4,g5,g6,g7⟩:=round_part (d4:=(partition lt d a b pivot).2.2) (mid:=(partition lt d a b pivot).1) (ap:=(partition lt d a b pivot).2.1) hS (partition_holds lt) hp1 hp2 hb hB rfl
  have hpm:=(partition_holds lt hS d a b pivot hp1 hp2 hb).2.2.1
  generalize (partition lt d a b pivot).2.2=d4 at g3 g4 g5 g6 g7 hpm ⊢
  generalize (partition lt d a b pivot).2.1=ap
  generalize (partition lt d a b pivot).1=mid at g1 g2 g4 g5 g6 g7 ⊢
  have hd4:=hd.perm hb hpm
  simp only []
  rw [Wd (m:=b) (n:=a) (by omega) (by omega),aKh (by omega),aAc,Wd (m:=mid) (n:=a) (by omega) (by omega),Wd (m:=b) (n:=mid) (by omega) (by omega),Wp (by omega)]
  refine Ok.cond (fun hm=>?_) (fun hm=>?_)
  ·have hm':=aCm hm
   refine Ok.bind (hr d4 a mid lim g1 (by omega) (by omega) hd4 g4 (by omega)) (fun r hr'=>?_)
   obtain⟨L,rfl,l1,l2⟩:=hr'
   obtain⟨k1,k2⟩:=g6 L l1 l2
   have hz:=l1.1
   refine Ok.ret ⟨⟨L,mid + 1,b,rfl,rfl,rfl,by omega,by omega,by omega,hd4.perm (by omega) l1,k1,fun R h2 h3=>?_⟩,?_⟩
   ·obtain⟨m1,m2⟩:=k2 R h2 h3
    exact hF R m1 m2
   ·show (((b:Int)) - ((mid + 1:Nat):Int)).toNat < b - a
    omega
  ·have hm':=aCn hm
   refine Ok.bind (hr d4 (mid + 1) b lim (by omega) (by omega) (by omega) hd4 g5 (by omega)) (fun r hr'=>?_)
   obtain⟨L,rfl,l1,l2⟩:=hr'
   obtain⟨k1,k2⟩:=g7 L l1 l2
   have hz:=l1.1
   refine Ok.ret ⟨⟨L,a,mid,rfl,rfl,rfl,by omega,by omega,by omega,hd4.perm (by omega) l1,k1,fun R h2 h3=>?_⟩,?_⟩
   ·obtain⟨m1,m2⟩:=k2 R h2 h3
    exact hF R m1 m2
   ·show (((mid:Int)) - (a:Int)).toNat < b - a
    omega
theorem P2 (hS:SWO lt) (hc:Bl cmp lt P) {a b pivot:Nat} {d:Array Aa} {wb wp:Bool} {lim:Int} (hr:H4 lt P rec (b - a)) (hab:a < b) (hp1:a<=pivot) (hp2:pivot < b) (hb:b<=d.size) (hs:d.size < 65536) (hd:Ay P d) (hB:Below lt a b d) (hF:∀ R,PermIn a b d R->SortedIn lt a b R->Fin R) :
  Ok (Ai.j5 rec cmp (a:Int) (b:Int) wb wp lim (pivot:Int) d.toList) (Ke lt P Fin (b - a)):=by
 unfold Ai.j5
 refine Ok.cond (fun ha=>?_) (fun _=>Pk hS hc hr hab hp1 hp2 hb hs hd hB hF (fun h=>by cases h))
 have ha':=aCm ha
 rw [Wm (by omega) (by omega)]
 obtain⟨n,n1,n2⟩:=Hl hc hd (i:=a - 1) (j:=pivot) (by omega) (by omega)
 rw [Cu (i:=a - 1) (by omega) rfl,aAc,Cu (i:=pivot) (by omega) rfl,aAc,n1,aAc,n2]
 refine Pk hS hc hr hab hp1 hp2 hb hs hd hB hF (fun h=>⟨by omega,?_⟩)
 cases hl:lt d[a - 1]! d[pivot]! with
 | false=>rfl
 | true=>rw [hl] at h; cases h
theorem Mo (hS:SWO lt) (hc:Bl cmp lt P) {a b pivot:Nat} {d:Array Aa} {wb wp:Bool} {lim:Int} {x:Bool} (hr:H4 lt P rec (b - a)) (hab:a < b) (hp1:a<=pivot) (hp2:pivot < b) (hb:b<=d.size) (hs:d.size < 65536) (hd:Ay P d) (hB:Below lt a b d) (hF:∀ R,PermIn a b d R->SortedIn lt a b R->Fin R) :
  Ok (Ai.j4 rec cmp (a:Int) (b:Int) wb wp lim (pivot:Int) d.toList x) (Ke lt P Fin (b - a)):=by
 unfold Ai.j4
 refine Ok.cond (fun _=>?_) (fun _=>P2 hS hc hr hab hp1 hp2 hb hs hd hB hF)
 rw [Vh hc hab hb hd,aAc]
 obtain⟨k1,k2⟩:=partialInsertionSort_holds hS d a b hab hb hB
 generalize partialInsertionSort lt d a b=pi at k1 k2 ⊢
 have hz:pi.1.size=d.size:=k1.1
 have hb':b<=pi.1.size:=by omega
 have hs':pi.1.size < 65536:=by omega
 refine Ok.cond (fun h=>?_) (fun _=>P2 (d:=pi.1) hS hc hr hab hp1 hp2 hb' hs' (hd.perm hb k1) (hB.perm hb k1) (fun R h2 h3=>hF R (permIn_trans _ _ _ a b k1 h2) h3))
 exact Ok.up (Ok.ret ⟨_,rfl,hF _ k1 (k2 h)⟩)
theorem P6 (hS:SWO lt) (hc:Bl cmp lt P) {a b pivot:Nat} {d:Array Aa} {wb wp:Bool} {lim hint:Int} (hr:H4 lt P rec (b - a)) (hab:a < b) (hp1:a<=pivot) (hp2:pivot < b) (hb:b<=d.size) (hs:d.size < 65536) (hd:Ay P d) (hB:Below lt a b d) (hF:∀ R,PermIn a b d R->SortedIn lt a b R->Fin R) :
  Ok (Ai.j3 rec cmp (a:Int) (b:Int) wb wp lim (pivot:Int) hint d.toList) (Ke lt P Fin (b - a)):=by
 unfold Ai.j3
 exact Ok.cond (fun _=>Ok.cond (fun _=>Mo hS hc hr hab hp1 hp2 hb hs hd hB hF) (fun _=>Mo hS hc hr hab hp1 hp2 hb hs hd hB hF)) (fun _=>Mo hS hc hr hab hp1 hp2 hb hs hd hB hF)
theorem Ps (hS:SWO lt) (hc:Bl cmp lt P) {a b:Nat} {d:Array Aa} {wb wp:Bool} {lim:Int} (hr:H4 lt P rec (b - a)) (h12:12 < b - a) (hb:b<=d.size) (hs:d.size < 65536) (hd:Ay P d) (hB:Below lt a b d) (hF:∀ R,PermIn a b d R->SortedIn lt a b R->Fin R) :
  Ok (Ai.j2 rec cmp (a:Int) (b:Int) wb wp lim d.toList) (Ke lt P Fin (b - a)):=by
 obtain⟨p,h,h1,h2,h3⟩:=Vv hc hd (a:=a) (b:=b) (by omega) hb
 unfold Ai.j2
 rw [h1,aAc]
 refine Ok.cond (fun _=>?_) (fun _=>P6 hS hc hr (by omega) h2 h3 hb hs hd hB hF)
 rw [Ve (by omega) hb (by omega),aAc]
 have k1:=reverseRange_holds d a b (by omega) hb
 generalize reverseRange d a b=d2 at k1 ⊢
 have hz:=k1.1
 have e:W (W ((b:Int) - 1) - W ((p:Int) - (a:Int)))=((b - 1 - (p - a):Nat):Int):=by
  rw [Wm (by omega) (by omega),Wd (by omega) (by omega),Wd (by omega) (by omega)]
 simp only []
 rw [e]
 clear e
 exact P6 hS hc hr (by omega) (by omega) (by omega) (by omega) (by omega) (hd.perm hb k1) (hB.perm hb k1) (fun R h2 h3=>hF R (permIn_trans _ _ _ a b k1 h2) h3)
theorem Wb (hS:SWO lt) (hc:Bl cmp lt P) {a b:Nat} {d:Array Aa} {wb wp:Bool} {lim:Int} (hr:H4 lt P rec (b - a)) (hab:a<=b) (hb:b<=d.size) (hs:d.size < 65536) (hd:Ay P d) (hB:Below lt a b d) (hF:∀ R,PermIn a b d R->SortedIn lt a b R->Fin R) :
  Ok (Ai.l1 rec cmp (a:Int) (b:Int) lim wb wp d.toList) (Ke lt P Fin (b - a)):=by
 unfold Ai.l1
 rw [Wd (by omega) hab]
 refine Ok.cond (fun _=>?_) (fun h12=>?_)
 ·rw [Tm hc hab hb hd,aAc]
  obtain⟨k1,k2⟩:=insertionSort_holds hS d a b hab hb
  exact Ok.up (Ok.ret ⟨_,rfl,hF _ k1 k2⟩)
 ·have h12':=aCn h12
  refine Ok.cond (fun _=>?_) (fun _=>?_)
  ·rw [Yu hc (by omega) hb hd,aAc]
   obtain⟨k1,k2⟩:=heapSort_holds hS d a b hab hb
   exact Ok.up (Ok.ret ⟨_,rfl,hF _ k1 k2⟩)
  ·refine Ok.cond (fun _=>?_) (fun _=>Ps hS hc hr (by omega) hb hs hd hB hF)
   obtain⟨d1,k0,k1⟩:=Xe (cmp:=cmp) (a:=a) (b:=b) (d:=d) (by omega) hb hs
   have hz:=k1.1
   rw [k0,aAc]
   exact Ps hS hc hr (by omega) (by omega) (by omega) (hd.perm hb k1) (hB.perm hb k1) (fun R h2 h3=>hF R (permIn_trans _ _ _ a b k1 h2) h3)
theorem Z1 (hS:SWO lt) (hc:Bl cmp lt P) {a b:Nat} {d:Array Aa} {lim:Int} (hab:a<=b) (hb:b<=d.size) (hs:d.size < 65536) (hd:Ay P d) (hB:Below lt a b d) :
  Ok (Ai d.toList (a:Int) (b:Int) lim cmp) (fun r=>∃ d',r=d'.toList/\PermIn a b d d'/\SortedIn lt a b d'):=by
 unfold Ai
 refine (yY (Lm (cmp:=cmp)) (fun x=>(x.2.2.1 - x.2.1).toNat)
  (fun x=>∃ (d:Array Aa) (a b:Nat),x.1=d.toList/\x.2.1=(a:Int)/\x.2.2.1=(b:Int)/\a<=b/\b<=d.size/\d.size < 65536/\Ay P d/\Below lt a b d)
  (fun x r=>∀ (d:Array Aa) (a b:Nat),x.1=d.toList->x.2.1=(a:Int)->x.2.2.1=(b:Int)->∃ d',r=d'.toList/\PermIn a b d d'/\SortedIn lt a b d') ?_ _ ⟨d,a,b,rfl,rfl,rfl,hab,hb,hs,hd,hB⟩).mono (fun r hr=>hr d a b rfl rfl rfl)
 rintro rec ⟨l,a',b',lim'⟩ ⟨d,a,b,h1,h2,h3,hab,hb,hs,hd,hB⟩ ih
 have h1:l=d.toList:=h1
 have h2:a'=(a:Int):=h2
 have h3:b'=(b:Int):=h3
 subst h1 h2 h3
 have hr:H4 lt P (fun data a b limit=>rec (data,a,b,limit)) (b - a):=fun d2 a2 b2 lim2 k1 k2 k3 k4 k5 k6=>
  (ih (d2.toList,(a2:Int),(b2:Int),lim2) ⟨d2,a2,b2,rfl,rfl,rfl,k1,k2,k3,k4,k5⟩ (by show (((b2:Int)) - (a2:Int)).toNat < (((b:Int)) - (a:Int)).toNat; omega)).mono (fun r hr=>hr d2 a2 b2 rfl rfl rfl)
 have main:Ok (Ai.F (fun data a b limit=>rec (data,a,b,limit)) d.toList (a:Int) (b:Int) lim' cmp) (fun r=>∃ d',r=d'.toList/\(PermIn a b d d'/\SortedIn lt a b d')):=by
  unfold Ai.F
  refine Ok.loop (fun s=>Sa lt P (fun R=>PermIn a b d R/\SortedIn lt a b R) s/\(s.2.1 - s.1).toNat<=b - a) (fun s=>(s.2.1 - s.1).toNat) ?_ ⟨⟨d,a,b,rfl,rfl,rfl,hab,hb,hs,hd,hB,fun R h1 h2=>⟨h1,h2⟩⟩,?_⟩
  ·rintro⟨sa,sb,sl,wb,wp,dl⟩ ⟨⟨d3,a3,b3,e1,e2,e3,k1,k2,k3,k4,k5,k6⟩,hm⟩
   have e1:sa=(a3:Int):=e1
   have e2:sb=(b3:Int):=e2
   have e3:dl=d3.toList:=e3
   subst e1 e2 e3
   have hm:(((b3:Int)) - (a3:Int)).toNat<=b - a:=hm
   refine (Wb hS hc (fun d2 a2 b2 lim2 q1 q2 q3 q4 q5 q6=>hr d2 a2 b2 lim2 q1 q2 q3 q4 q5 (by omega)) k1 k2 k3 k4 k5 k6).mono (fun o ho=>?_)
   have em:(((b3:Int)) - (a3:Int)).toNat=b3 - a3:=by omega
   cases o with
   | done r=>exact ho
   | next s=>
    obtain⟨ho1,ho2⟩:=ho
    refine⟨⟨ho1,by omega⟩,?_⟩
    show (s.2.1 - s.1).toNat < (((b3:Int)) - (a3:Int)).toNat
    omega
  ·show (((b:Int)) - (a:Int)).toNat<=b - a
   omega
 refine main.mono (fun r hr d2 a2 b2 e1 e2 e3=>?_)
 have e1:d.toList=d2.toList:=e1
 have e2:(a:Int)=(a2:Int):=e2
 have e3:(b:Int)=(b2:Int):=e3
 obtain rfl:d=d2:=aSy.1 e1
 obtain rfl:a=a2:=by omega
 obtain rfl:b=b2:=by omega
 exact hr
theorem Xn (hS:SWO lt) (hc:Bl cmp lt P) (l:List Aa) (hl:l.length < 65536) (hP:∀ x∈l,P x) :
  Ok (Ek l cmp) (fun r=>r.Perm l/\r.Pairwise (fun x y=>lt y x=false)):=by
 obtain⟨L,_,_,_,h4⟩:=xN l.length hl
 unfold Ek
 rw [T4 (by omega),h4,aAc]
 have hsz:l.toArray.size=l.length:=by simp
 have hA:Ay P l.toArray:=⟨by omega,fun i hi=>by
  rw [aSq l.toArray i hi]
  exact hP _ (by simp)⟩
 have h:=Z1 hS hc (a:=0) (b:=l.toArray.size) (d:=l.toArray) (lim:=(L:Int)) (aI3 _) (aHx _) (by omega) hA (Or.inl rfl)
 rw [hsz] at h
 have e:((0:Nat):Int)=0:=rfl
 rw [e] at h
 refine Ok.bind h (fun r hr=>?_)
 obtain⟨d',rfl,k1,k2⟩:=hr
 have hz:=k1.1
 refine Ok.ret ⟨?_,?_⟩
 ·have:=k1.2.2
  have e1:d'.extract 0 l.length=d':=by
   rw [<- hsz,<- hz]; exact Array.extract_size
  have e2:l.toArray.extract 0 l.length=l.toArray:=by
   rw [<- hsz]; exact Array.extract_size
  rw [e1,e2] at this
  exact this
 ·rw [aSw]
  intro i j hi hj hij
  have hi':i < d'.size:=by simpa using hi
  have hj':j < d'.size:=by simpa using hj
  have:=k2 i j (aI3 _) hij (by omega)
  rw [aSq d' i hi',aSq d' j hj'] at this
  simpa using this
def Kr:Nat:=65535
theorem Wu (hS:SWO lt) (hc:Bl cmp lt P) (l:List Aa) (hl:l.length<=Kr) (hP:∀ x∈l,P x) :
  Ok (Ek l cmp) (fun r=>r.Perm l/\r.Pairwise (fun x y=>lt y x=false)):=Xn hS hc l (by unfold Kr at hl; omega) hP
end
end
end
end Go.Proofs.YtbpchmikjiinpaaGreat
