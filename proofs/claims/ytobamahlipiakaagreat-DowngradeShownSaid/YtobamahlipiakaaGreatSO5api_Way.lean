/- Plain texts, joined. No program is in sight here. -/
import Derived.Test.YtobamahlipiakaaGreatL3
import Derived.Sort.AssemblyPlain
set_option linter.unusedVariables false
set_option linter.unusedSimpArgs false
namespace Go.Proofs.YtobamahlipiakaaGreat
section
open Go Go.Sort
theorem vS {α γ:Type} [Inhabited α] {body:Int->Option (Lp Int γ)} {J:Nat->Bool->Option (Lp Int γ)} {K:Nat->Option γ} {p:α->Bool} {D:Array α} {i0 j:Nat} (hj:j < 1000000000)
  (hb:∀ i:Nat,i0<=i->i<=j + 1->body (i:Int)=J i (decide (i<=j) && p D[i]!)) (ht:∀ i:Nat,J i true=some (.next (W ((i:Int) + 1)))) (hf:∀ i:Nat,i0<=i->i<=j + 1->J i false=up (K i)) :
  ∀ n i,j + 1 - i=n->i0<=i->i<=j + 1->Bz body (i:Int)=K (scanUp p D j i):=by
 intro n
 induction n with
 | zero=>
  intro i hn h0 hi
  have hc:(decide (i<=j) && p D[i]!)=false:=by rw [aAw (by omega),aR5]
  rw [scanUp,if_neg (by rw [hc]; simp)]
  exact D4 (by rw [hb i h0 hi,hc,hf i h0 hi])
 | succ n ih=>
  intro i hn h0 hi
  rw [scanUp]
  cases hc:(decide (i<=j) && p D[i]!) with
  | false=>
   rw [if_neg (by simp)]
   exact D4 (by rw [hb i h0 hi,hc,hf i h0 hi])
  | true=>
   rw [if_pos rfl]
   have e1:body (i:Int)=some (.next ((i + 1:Nat):Int)):=by rw [hb i h0 hi,hc,ht,Fo (by omega)]
   rw [E0 e1]
   exact ih (i + 1) (by omega) (by omega) (by omega)
theorem nH {α γ:Type} [Inhabited α] {body:Int->Option (Lp Int γ)} {J:Nat->Bool->Option (Lp Int γ)} {K:Nat->Option γ} {p:α->Bool} {D:Array α} {i j0:Nat} (hi:1<=i) (hj0:j0 < 1000000000)
  (hb:∀ j:Nat,i<=j + 1->j<=j0->body (j:Int)=J j (decide (i<=j) && p D[j]!)) (ht:∀ j:Nat,J j true=some (.next (W ((j:Int) - 1)))) (hf:∀ j:Nat,i<=j + 1->j<=j0->J j false=up (K j)) :
  ∀ j:Nat,i<=j + 1->j<=j0->Bz body (j:Int)=K (scanDown p D i j)
 | 0,h1,h2=>by
  have hc:(decide (i<=0) && p D[0]!)=false:=by rw [aAw (by omega),aR5]
  rw [scanDown]
  exact D4 (by rw [hb 0 h1 h2,hc,hf 0 h1 h2])
 | j + 1,h1,h2=>by
  rw [scanDown]
  cases hc:(decide (i<=j + 1) && p D[j + 1]!) with
  | false=>
   rw [if_neg (by simp)]
   exact D4 (by rw [hb (j + 1) h1 h2,hc,hf (j + 1) h1 h2])
  | true=>
   rw [if_pos rfl]
   have h3:i<=j + 1:=by
    rw [aF1] at hc
    exact aEk hc.1
   have e1:body ((j + 1:Nat):Int)=some (.next (j:Int)):=by
    have e2:W (((j + 1:Nat):Int) - 1)=(j:Int):=by rw [Ej (by omega)]; omega
    rw [hb (j + 1) h1 h2,hc,ht,e2]
   rw [E0 e1]
   exact nH hi hj0 hb ht hf j (by omega) (by omega)
theorem aNl {α γ:Type} [Inhabited α] {body:Int->Option (Lp Int γ)} {J:Nat->Bool->Option (Lp Int γ)} {K:Nat->Option γ} {lt:α->α->Bool} {D:Array α} {i0 b:Nat} (hb0:b < 2000000000)
  (hb:∀ i:Nat,i0<=i->i<=b->body (i:Int)=J i (decide (i < b) && !lt D[i]! D[i - 1]!)) (ht:∀ i:Nat,J i true=some (.next (W ((i:Int) + 1)))) (hf:∀ i:Nat,i0<=i->i<=b->J i false=up (K i)) :
  ∀ n i,b - i=n->i0<=i->i<=b->Bz body (i:Int)=K (scanSorted lt D b i):=by
 intro n
 induction n with
 | zero=>
  intro i hn h0 hi
  have hc:(decide (i < b) && !lt D[i]! D[i - 1]!)=false:=by rw [aAw (by omega),aR5]
  rw [scanSorted,if_neg (by rw [hc]; simp)]
  exact D4 (by rw [hb i h0 hi,hc,hf i h0 hi])
 | succ n ih=>
  intro i hn h0 hi
  rw [scanSorted]
  cases hc:(decide (i < b) && !lt D[i]! D[i - 1]!) with
  | false=>
   rw [if_neg (by simp)]
   exact D4 (by rw [hb i h0 hi,hc,hf i h0 hi])
  | true=>
   rw [if_pos rfl]
   have e1:body (i:Int)=some (.next ((i + 1:Nat):Int)):=by rw [hb i h0 hi,hc,ht,Fo (by omega)]
   rw [E0 e1]
   exact ih (i + 1) (by omega) (by omega) (by omega)
theorem kB {α:Type} [Inhabited α] (lt:α->α->Bool) (D:Array α) (b:Nat):∀ n i,b - i=n->i<=b->i<=scanSorted lt D b i/\scanSorted lt D b i<=b:=by
 intro n
 induction n with
 | zero=>
  intro i hn hi
  rw [scanSorted,if_neg (by rw [aAw (by omega),aR5]; simp)]
  exact⟨aJf _,hi⟩
 | succ n ih=>
  intro i hn hi
  rw [scanSorted]
  split
  ·have:=ih (i + 1) (by omega) (by omega)
   omega
  ·exact⟨aJf _,hi⟩
theorem Wp {n:Nat} (h:n < 4000000000):W ((n:Int) + 1)=((n + 1:Nat):Int):=Fo (by omega)
theorem Wm {n:Nat} (h:n < 4000000000) (h0:0 < n):W ((n:Int) - 1)=((n - 1:Nat):Int):=by rw [Ej (by omega)]; omega
theorem Wd {m n:Nat} (h:m < 4000000000) (h0:n<=m):W ((m:Int) - (n:Int))=((m - n:Nat):Int):=by rw [Ej (by omega)]; omega
theorem aG1 {n:Nat} (h:n < 4000000000):Pm (n:Int) 4=some ((n / 4:Nat):Int):=by
 unfold Pm
 rw [if_neg (by omega),Ej]
 ·rfl
 ·have:(n:Int).tdiv 4=((n / 4:Nat):Int):=rfl
  rw [this]
  omega
theorem aO7 {n:Nat} (h:n < 4000000000):Pm (n:Int) 8=some ((n / 8:Nat):Int):=by
 unfold Pm
 rw [if_neg (by omega),Ej]
 ·rfl
 ·have:(n:Int).tdiv 8=((n / 8:Nat):Int):=rfl
  rw [this]
  omega
theorem Wq1 {a q:Nat} (h:a < 4000000000) (k:q < 4000000000):W ((a:Int) + W ((q:Int) * 1))=((a + q:Nat):Int):=by
 rw [Ej (x:=(q:Int) * 1) (by omega),Ej (by omega)]; omega
theorem Wq2 {a q:Nat} (h:a < 4000000000) (k:q < 4000000000):W ((a:Int) + W ((q:Int) * 2))=((a + q * 2:Nat):Int):=by
 rw [Ej (x:=(q:Int) * 2) (by omega),Ej (by omega)]; omega
theorem Wq3 {a q:Nat} (h:a < 4000000000) (k:q < 4000000000):W ((a:Int) + W ((q:Int) * 3))=((a + q * 3:Nat):Int):=by
 rw [Ej (x:=(q:Int) * 3) (by omega),Ej (by omega)]; omega
theorem aIp {x:Int} (hx:0<=x) (k:Nat) (hk:k<=64):Rn .u64 x (k:Int)=some (x / 2 ^ k):=by
 unfold Rn
 rw [if_neg (by omega)]
 have e:min ((k:Int)).toNat IntKind.u64.bits=k:=by
  show min ((k:Int)).toNat 64=k
  omega
 rw [e,bAx _ (Int.le_of_lt (Int.pow_pos (by decide)))]
noncomputable def aE3 (x:Nat):Bool:=match Bw.j3 (x:Int) 0 with | some L=>decide (0<=L/\L<=8/\x < 2 ^ L.toNat/\(x=0\/2 ^ L.toNat<=2 * x)) | none=>false
theorem vR:(List.range 256).all aE3=true:=by decide +kernel
theorem aNz (x n:Int):Bw.j3 x n=(Bw.j3 x 0).bind fun c=>some (W (n + c)):=by
 unfold Bw.j3
 cases oI _ ((u8 x).toNat:Int) with
 | none=>rfl
 | some c=>
  have:=c.toNat_lt
  show some (W (n + (c.toNat:Int)))=some (W (n + W (0 + (c.toNat:Int))))
  rw [Ej (x:=0 + (c.toNat:Int)) (by omega),Int.zero_add]
theorem aJ2 (x:Nat) (hx:x < 256):∃ L:Nat,L<=8/\x < 2 ^ L/\(x=0\/2 ^ L<=2 * x)/\∀ n:Nat,n < 1000->Bw.j3 (x:Int) (n:Int)=some ((n + L:Nat):Int):=by
 have h:=aH8.1 vR x (aSn.2 hx)
 unfold aE3 at h
 cases hj:Bw.j3 (x:Int) 0 with
 | none=>rw [hj] at h; cases h
 | some L=>
  rw [hj] at h
  obtain⟨h1,h2,h3,h4⟩:=aEk h
  refine⟨L.toNat,by omega,h3,h4,fun n hn=>?_⟩
  rw [aNz,hj,aAg,Ej (by omega)]
  exact congrArg some (by omega)
theorem aD1 (x:Nat) (hx:x < 65536):∃ L:Nat,L<=16/\x < 2 ^ L/\(x=0\/2 ^ L<=2 * x)/\Ig (x:Int)=some (L:Int):=by
 by_cases h:x < 256
 ·obtain⟨L,h1,h2,h3,h4⟩:=aJ2 x h
  refine⟨L,by omega,h2,h3,?_⟩
  have h5:Bw.j3 (x:Int) 0=some (L:Int):=by
   have h6:=h4 0 (by omega)
   rw [aR3] at h6
   exact h6
  unfold Ig Bw Bw.j1 Bw.j2
  rw [aAw (by omega),aDb,aAw (by omega),aDb,aAw (by omega),aDb]
  rw [h5,aAg]
 ·obtain⟨L,h1,h2,h3,h4⟩:=aJ2 (x / 256) (by omega)
  refine⟨8 + L,by omega,?_,?_,?_⟩
  ·rw [Nat.pow_add]; omega
  ·rw [Nat.pow_add]; omega
  ·have h5:=h4 8 (by omega)
   unfold Ig Bw Bw.j1 Bw.j2
   rw [aAw (by omega),aDb,aAw (by omega),aDb,aA4 (by omega),aEa]
   have e:Rn .u64 (x:Int) 8=some ((x / 256:Nat):Int):=by
    rw [show (8:Int)=((8:Nat):Int) from rfl,aIp (by omega) 8 (by omega)]
    rfl
   rw [e,aAg,show W (0 + 8)=((8:Nat):Int) from rfl,h5,aAg]
theorem Sv {x:Int} (h:0<=x/\x < 18446744073709551616):IntKind.u64.wrap x=x:=by
 have e:IntKind.u64.wrap x=x % 18446744073709551616:=by simp [IntKind.wrap,IntKind.bits,IntKind.signed]
 rw [e]; omega
theorem aHi (x:Nat) (h0:0 < x) (hx:x < 65536):∃ y:Nat,x < y/\y<=2 * x/\Hf (x:Int)=some (y:Int):=by
 obtain⟨L,h1,h2,h3,h4⟩:=aD1 x hx
 refine⟨2 ^ L,h2,by omega,?_⟩
 unfold Hf
 rw [Sv (by omega),h4,aAg]
 have e:jL .u64 1 (L:Int)=some ((2 ^ L:Nat):Int):=by
  unfold jL
  rw [if_neg (by omega)]
  have e1:min ((L:Int)).toNat IntKind.u64.bits=L:=by
   show min ((L:Int)).toNat 64=L
   omega
  have e2:(1:Int) * 2 ^ L=((2 ^ L:Nat):Int):=by simp
  rw [e1,e2,Sv]
  have:2 ^ L<=2 ^ 16:=Nat.pow_le_pow_right (by omega) h1
  omega
 rw [e]
 rfl
theorem aNd (r:Int):∃ z:Int×Int,Hm r=some z:=by
 unfold Hm
 have e1:∀ x:Int,∃ q,jL .u64 x 13=some q:=fun x=>⟨_,if_neg (by decide)⟩
 have e2:∀ x:Int,∃ q,Rn .u64 x 7=some q:=fun x=>⟨_,if_neg (by decide)⟩
 have e3:∀ x:Int,∃ q,jL .u64 x 17=some q:=fun x=>⟨_,if_neg (by decide)⟩
 obtain⟨q,h⟩:=e1 r
 rw [h,aAg]
 obtain⟨q2,h2⟩:=e2 (Sr .u64 r q)
 rw [h2,aAg]
 obtain⟨q3,h3⟩:=e3 (Sr .u64 (Sr .u64 r q) q2)
 rw [h3,aAg]
 exact⟨_,rfl⟩
theorem aKy (r:Int) (y:Nat) (hy:y < 1000000):∃ z:Nat,z<=y/\W (eX .u64 r (IntKind.u64.wrap (y:Int)))=(z:Int):=by
 refine⟨(BitVec.ofInt 64 r &&& BitVec.ofInt 64 (y:Int)).toNat,?_,?_⟩
 ·rw [BitVec.toNat_and]
  refine aOt Nat.and_le_right ?_
  rw [BitVec.toNat_ofInt]
  omega
 ·have h:(BitVec.ofInt 64 r &&& BitVec.ofInt 64 (y:Int)).toNat<=y:=by
   rw [BitVec.toNat_and]
   refine aOt Nat.and_le_right ?_
   rw [BitVec.toNat_ofInt]
   omega
  rw [Sv (by omega)]
  show W (IntKind.u64.wrap ((BitVec.ofInt 64 r &&& BitVec.ofInt 64 (y:Int)).toNat:Int))=_
  rw [Sv (by omega),Ej (by omega)]
end
section
open Go Go.Sort
section
variable {cmp:Aa->Aa->Option Int} {lt:Aa->Aa->Bool} {P:Aa->Prop}
def Cf (cmp:Aa->Aa->Option Int) (lt:Aa->Aa->Bool) (P:Aa->Prop):Prop:=∀ x y,P x->P y->∃ n,cmp x y=some n/\decide (n < 0)=lt x y
def Bo (P:Aa->Prop) (d:Array Aa):Prop:=d.size<=1000000000/\∀ i,i < d.size->P d[i]!
theorem C0 (d:Array Aa) (i j:Nat):(swp d i j).size=d.size:=by simp [swp]
theorem Bo.swp {d:Array Aa} (h:Bo P d) {i j:Nat} (hi:i < d.size) (hj:j < d.size):Bo P (Sort.swp d i j):=by
 refine⟨by rw [C0]; exact h.1,fun k hk=>?_⟩
 rw [C0] at hk
 unfold Sort.swp
 by_cases h1:j=k
 ·subst h1
  rw [bAu ((d.setIfInBounds i d[j]!).setIfInBounds j d[i]!) _ (by simpa using hk)]
  simp only [Array.getElem_setIfInBounds_self]
  exact h.2 i hi
 ·by_cases h2:i=k
  ·subst h2
   rw [bAu ((d.setIfInBounds i d[j]!).setIfInBounds j d[i]!) _ (by simpa using hk)]
   rw [bAh (by simpa using hk) (by omega)]
   simp only [Array.getElem_setIfInBounds_self]
   exact h.2 j hj
  ·rw [bAu _ _ (by simpa using hk)]
   rw [bAh (by simpa using hk) (by omega),bAh (by simpa using hk) (by omega)]
   have:=h.2 k hk
   rwa [bAu d k hk] at this
theorem Fb {d:Array Aa} {i:Nat} (h:i < d.size) {k:Int} (hk:k=(i:Int)):Bm d.toList k=some d[i]!:=by
 subst hk
 rw [Ef,aW6,aYa h,bAu d i h]
theorem S6 (d:Array Aa) (i:Nat) (x:Aa):Ex d.toList i x=(d.setIfInBounds i x).toList:=by
 unfold Ex
 simp
theorem Nq {d:Array Aa} {i:Nat} {x:Aa} {j:Nat} (h:i < d.size) {k:Int} (hk:k=(i:Int)):∃ y,Bm (Ex d.toList j x) k=some y:=by
 subst hk
 rw [Ef]
 exact⟨_,aCv (by unfold Ex; simpa using h)⟩
theorem No (d:Array Aa) (i j:Nat):Ex (Ex d.toList i d[j]!) j d[i]! = (Sort.swp d i j).toList:=by
 rw [S6,S6]
 rfl
theorem Mq (hc:Cf cmp lt P) {d:Array Aa} (h:Bo P d) {i j:Nat} (hi:i < d.size) (hj:j < d.size):∃ n,cmp d[i]! d[j]! = some n/\decide (n < 0)=lt d[i]! d[j]!:=hc _ _ (h.2 i hi) (h.2 j hj)
theorem R0 (hc:Cf cmp lt P) {a i1:Nat}:∀ (j:Nat) (d:Array Aa),j < d.size->Bo P d->
  Bo P (insInner lt a j d)/\(insInner lt a j d).size=d.size/\Bz (fun q'=>Ar.l2 (a:Int) cmp (i1:Int) q'.1 q'.2) ((j:Int),d.toList)=some (.next (W ((i1:Int) + 1),(insInner lt a j d).toList))
 | 0,d,hj,hd=>by
  refine⟨hd,rfl,D4 ?_⟩
  show Ar.l2 (a:Int) cmp (i1:Int) ((0:Nat):Int) d.toList=_
  unfold Ar.l2
  rw [aAw (by omega)]
  rfl
 | j + 1,d,hj,hd=>by
  have hsz:=hd.1
  have hW:W (((j + 1:Nat):Int) - 1)=(j:Int):=by rw [Ej (by omega)]; omega
  unfold insInner
  by_cases ha:a < j + 1
  ·obtain⟨n,h1,h2⟩:=Mq hc hd hj (show j < d.size by omega)
   have hbody:∀ r,Ar.j3 (i1:Int) ((j + 1:Nat):Int) d.toList (lt d[j + 1]! d[j]!)=r->Ar.l2 (a:Int) cmp (i1:Int) ((j + 1:Nat):Int) d.toList=r:=fun r hr=>by
    unfold Ar.l2
    rw [aA4 (by omega),aEa,Fb hj rfl,aAg,Fb (i:=j) (by omega) hW,aAg,h1,aAg,h2]
    exact hr
   cases hl:lt d[j + 1]! d[j]! with
   | true=>
    obtain⟨q1,q2,q3⟩:=R0 hc (i1:=i1) (a:=a) j (Sort.swp d (j + 1) j) (by rw [C0]; omega) (hd.swp hj (by omega))
    rw [if_pos (by simp [ha])]
    refine⟨q1,by rw [q2,C0],?_⟩
    have hb':Ar.l2 (a:Int) cmp (i1:Int) ((j + 1:Nat):Int) d.toList=some (.next ((j:Int),(Sort.swp d (j + 1) j).toList)):=by
     refine hbody _ ?_
     rw [hl]
     unfold Ar.j3
     obtain⟨y,hy⟩:=Nq (d:=d) (x:=d[j]!) (j:=(((j + 1:Nat):Int)).toNat) (i:=j) (by omega) hW
     rw [aEa,Fb (i:=j) (by omega) hW,aAg,Fb hj rfl,aAg,hy,aAg,hW]
     have e1:(((j + 1:Nat):Int)).toNat=j + 1:=by omega
     have e2:((j:Int)).toNat=j:=by omega
     rw [e1,e2,No]
    exact (E0 (body:=fun q'=>Ar.l2 (a:Int) cmp (i1:Int) q'.1 q'.2) (s:=(((j + 1:Nat):Int),d.toList)) hb').trans q3
   | false=>
    rw [if_neg (by simp)]
    refine⟨hd,rfl,D4 (hbody _ ?_)⟩
    rw [hl]
    rfl
  ·rw [if_neg (by simp [ha])]
   refine⟨hd,rfl,D4 ?_⟩
   show Ar.l2 (a:Int) cmp (i1:Int) ((j + 1:Nat):Int) d.toList=_
   unfold Ar.l2
   rw [aAw (by omega)]
   rfl
theorem R3 (hc:Cf cmp lt P) {a b:Nat}:∀ (n i:Nat) (d:Array Aa),b - i=n->b<=d.size->Bo P d->
  Bz (fun q'=>Ar.l1 (a:Int) (b:Int) cmp q'.1 q'.2) ((i:Int),d.toList)=some (insOuter lt a b i d).toList
 | 0,i,d,hn,hb,hd=>by
  unfold insOuter
  rw [if_neg (by omega)]
  refine D4 (x:=some d.toList) ?_
  show Ar.l1 (a:Int) (b:Int) cmp (i:Int) d.toList=_
  unfold Ar.l1
  rw [aAw (by omega)]
  rfl
 | n + 1,i,d,hn,hb,hd=>by
  have hsz:=hd.1
  unfold insOuter
  rw [if_pos (by omega)]
  obtain⟨q1,q2,q3⟩:=R0 hc (a:=a) (i1:=i) i d (by omega) hd
  rw [E0 (s':=(((i + 1:Nat):Int),(insInner lt a i d).toList)) ?_]
  ·exact R3 hc n (i + 1) _ (by omega) (by rw [q2]; exact hb) q1
  ·show Ar.l1 (a:Int) (b:Int) cmp (i:Int) d.toList=_
   unfold Ar.l1
   rw [aA4 (by omega),aEa,q3,Fo (by omega)]
theorem Yo (hc:Cf cmp lt P) {a b:Nat} {d:Array Aa} (hab:a<=b) (hb:b<=d.size) (hd:Bo P d):Ar d.toList (a:Int) (b:Int) cmp=some (insertionSort lt d a b).toList:=by
 have hsz:=hd.1
 unfold Ar insertionSort
 rw [Fo (by omega)]
 exact R3 hc _ (a + 1) d rfl hb hd
theorem dD (hc:Cf cmp lt P) {first root c:Nat} {d:Array Aa} (h1:first + root < d.size) (h2:first + c < d.size) (hd:Bo P d) :
  As.j3 (first:Int) cmp (root:Int) d.toList (c:Int)=some (bif lt d[first + root]! d[first + c]! then .next ((c:Int),(Sort.swp d (first + root) (first + c)).toList) else .done d.toList):=by
 have hsz:=hd.1
 have w1:W ((first:Int) + (root:Int))=((first + root:Nat):Int):=by rw [Ej (by omega)]; omega
 have w2:W ((first:Int) + (c:Int))=((first + c:Nat):Int):=by rw [Ej (by omega)]; omega
 obtain⟨n,n1,n2⟩:=Mq hc hd h1 h2
 unfold As.j3
 rw [w1,w2,Fb h1 rfl,aAg,Fb h2 rfl,aAg,n1,aAg,n2]
 cases lt d[first + root]! d[first + c]! with
 | false=>rfl
 | true=>
  obtain⟨y,hy⟩:=Nq (d:=d) (x:=d[first + c]!) (j:=(((first + root:Nat):Int)).toNat) h2 rfl
  rw [show (!true)=false from rfl,aDb,hy,aAg,aEa]
  have e1:(((first + root:Nat):Int)).toNat=first + root:=by omega
  have e2:(((first + c:Nat):Int)).toNat=first + c:=by omega
  rw [e1,e2,No]
theorem Yx (hc:Cf cmp lt P) {hi first:Nat}:∀ (n root:Nat) (d:Array Aa),hi - root<=n->root<=1000000000->first + hi<=d.size->Bo P d->
  Bo P (siftDown lt hi first root d)/\(siftDown lt hi first root d).size=d.size/\Bz (fun q'=>As.l1 (hi:Int) (first:Int) cmp q'.1 q'.2) ((root:Int),d.toList)=some (siftDown lt hi first root d).toList:=by
 intro n
 induction n with
 | zero=>
  intro root d hn hr hh hd
  have hsz:=hd.1
  unfold siftDown
  rw [dif_pos (by omega)]
  refine⟨hd,rfl,D4 (x:=some d.toList) ?_⟩
  show As.l1 (hi:Int) (first:Int) cmp (root:Int) d.toList=_
  unfold As.l1
  rw [Ej (x:=2 * (root:Int)) (by omega),Ej (by omega),aA4 (by omega)]
  rfl
 | succ n ih=>
  intro root d hn hr hh hd
  have hsz:=hd.1
  have w0:W (2 * (root:Int))=((2 * root:Nat):Int):=by rw [Ej (by omega)]; omega
  have w1:W (((2 * root:Nat):Int) + 1)=((2 * root + 1:Nat):Int):=by rw [Ej (by omega)]; omega
  have w2:W (((2 * root + 1:Nat):Int) + 1)=((2 * root + 2:Nat):Int):=by rw [Ej (by omega)]; omega
  by_cases hend:2 * root + 1>=hi
  ·unfold siftDown
   rw [dif_pos hend]
   refine⟨hd,rfl,D4 (x:=some d.toList) ?_⟩
   show As.l1 (hi:Int) (first:Int) cmp (root:Int) d.toList=_
   unfold As.l1
   rw [w0,w1,aA4 (by omega)]
   rfl
  ·have step:∀ c:Nat,c < hi->root < c->∀ (b:Bool) (r:Array Aa),(lt d[first + root]! d[first + c]! = b)->r=(bif b then siftDown lt hi first c (Sort.swp d (first + root) (first + c)) else d)->
     (As.l1 (hi:Int) (first:Int) cmp (root:Int) d.toList=As.j3 (first:Int) cmp (root:Int) d.toList (c:Int))->
     Bo P r/\r.size=d.size/\Bz (fun q'=>As.l1 (hi:Int) (first:Int) cmp q'.1 q'.2) ((root:Int),d.toList)=some r.toList:=fun c hc1 hc2 b r hb hrr hl=>by
    have hj:=dD hc (first:=first) (root:=root) (c:=c) (d:=d) (by omega) (by omega) hd
    rw [hb] at hj
    cases b with
    | false=>
     rw [aDb] at hrr
     rw [hrr]
     refine⟨hd,rfl,kX ?_⟩
     exact (by rw [hl,hj]; rfl:As.l1 (hi:Int) (first:Int) cmp (root:Int) d.toList=some (.done d.toList))
    | true=>
     rw [aEa] at hrr
     rw [hrr]
     obtain⟨q1,q2,q3⟩:=ih c (Sort.swp d (first + root) (first + c)) (by omega) (by omega) (by rw [C0]; exact hh) (hd.swp (by omega) (by omega))
     refine⟨q1,by rw [q2,C0],?_⟩
     have hb':As.l1 (hi:Int) (first:Int) cmp (root:Int) d.toList=some (.next ((c:Int),(Sort.swp d (first + root) (first + c)).toList)):=by rw [hl,hj]; rfl
     exact (E0 (body:=fun q'=>As.l1 (hi:Int) (first:Int) cmp q'.1 q'.2) (s:=((root:Int),d.toList)) hb').trans q3
   unfold siftDown
   rw [dif_neg hend]
   have hl:∀ b:Bool,(decide (2 * root + 1 + 1 < hi) && lt d[first + (2 * root + 1)]! d[first + (2 * root + 1) + 1]!)=b->As.l1 (hi:Int) (first:Int) cmp (root:Int) d.toList=As.j3 (first:Int) cmp (root:Int) d.toList (bif b then ((2 * root + 2:Nat):Int) else ((2 * root + 1:Nat):Int)):=fun b hb=>by
    unfold As.l1
    rw [w0,w1,w2,aAw (by omega),aDb]
    by_cases h2:2 * root + 2 < hi
    ·have a2:first + (2 * root + 1) + 1 < d.size:=by clear w0 w1 w2; omega
     have a1:first + (2 * root + 1) < d.size:=by clear w0 w1 w2; omega
     have a3:decide (2 * root + 1 + 1 < hi)=true:=aA4 h2
     have a4:decide (((2 * root + 2:Nat):Int) < (hi:Int))=true:=aA4 (by clear w0 w1 w2; omega)
     have v1:W ((first:Int) + ((2 * root + 1:Nat):Int))=((first + (2 * root + 1):Nat):Int):=by rw [Ej (by omega)]; omega
     have v2:W (((first + (2 * root + 1):Nat):Int) + 1)=((first + (2 * root + 1) + 1:Nat):Int):=by rw [Ej (by omega)]; omega
     obtain⟨m,m1,m2⟩:=Mq hc hd (i:=first + (2 * root + 1)) (j:=first + (2 * root + 1) + 1) a1 a2
     rw [a4,aEa,v1,v2,Fb (i:=first + (2 * root + 1)) a1 rfl,aAg,Fb (i:=first + (2 * root + 1) + 1) a2 rfl,aAg,m1,aAg,m2]
     rw [a3,aP5] at hb
     rw [hb]
     unfold As.j2
     rw [w0,w1,w2]
     cases b with
     | true=>rw [aEa,aEa]
     | false=>rw [aDb,aDb]
    ·rw [aAw (by omega),aDb]
     rw [aAw (by omega),aR5] at hb
     subst hb
     unfold As.j2
     rw [w0,w1,aDb,aDb]
   cases hb:(decide (2 * root + 1 + 1 < hi) && lt d[first + (2 * root + 1)]! d[first + (2 * root + 1) + 1]!) with
   | true=>
    rw [if_pos rfl]
    have h2:2 * root + 2 < hi:=by
     rw [aF1] at hb
     have:=aEk hb.1
     omega
    refine step (2 * root + 2) h2 (by omega) _ _ rfl ?_ (hl true hb)
    cases lt d[first + root]! d[first + (2 * root + 2)]! with
    | false=>rfl
    | true=>rw [show (!true)=false from rfl,if_neg (by simp),dif_pos h2]; rfl
   | false=>
    rw [if_neg (by simp)]
    refine step (2 * root + 1) (by omega) (by omega) _ _ rfl ?_ (hl false hb)
    cases lt d[first + root]! d[first + (2 * root + 1)]! with
    | false=>rfl
    | true=>rfl
theorem Q9 (hc:Cf cmp lt P) {a b:Nat}:∀ (k:Nat) (d:Array Aa),a + (b - a)<=d.size->a<=b->k<=1000000000->Bo P d->
  Bo P (heapBuild lt (b - a) a k d)/\(heapBuild lt (b - a) a k d).size=d.size/\Bz (fun q'=>Bd.l1 (a:Int) (b:Int) cmp q'.1 q'.2) ((k:Int) - 1,d.toList)=Bz (fun q'=>Bd.l1 (a:Int) (b:Int) cmp q'.1 q'.2) (-1,(heapBuild lt (b - a) a k d).toList)
 | 0,d,h1,hab,hk,hd=>⟨hd,rfl,rfl⟩
 | k + 1,d,h1,hab,hk,hd=>by
  have hsz:=hd.1
  obtain⟨q1,q2,q3⟩:=Yx hc (hi:=b - a) (first:=a) _ k d (aJf _) (by omega) h1 hd
  obtain⟨r1,r2,r3⟩:=Q9 hc (a:=a) (b:=b) k (siftDown lt (b - a) a k d) (by rw [q2]; exact h1) hab (by omega) q1
  refine⟨r1,by show (heapBuild lt (b - a) a k _).size=_; rw [r2,q2],?_⟩
  rw [E0 (s':=((k:Int) - 1,(siftDown lt (b - a) a k d).toList)) ?_]
  ·exact r3
  ·show Bd.l1 (a:Int) (b:Int) cmp (((k + 1:Nat):Int) - 1) d.toList=_
   have e0:((k + 1:Nat):Int) - 1=(k:Int):=by omega
   have e1:W ((b:Int) - (a:Int))=((b - a:Nat):Int):=by rw [Ej (by omega)]; omega
   unfold Bd.l1
   rw [e0,aA4 (by omega),aEa,e1]
   have e2:As d.toList (k:Int) ((b - a:Nat):Int) (a:Int) cmp=some (siftDown lt (b - a) a k d).toList:=q3
   rw [e2,aAg,Ej (by omega)]
theorem Sy (hc:Cf cmp lt P) {a:Nat}:∀ (k:Nat) (d:Array Aa),a + k<=d.size->Bo P d->
  Bz (fun q'=>Bd.l2 (a:Int) cmp q'.1 q'.2) ((k:Int) - 1,d.toList)=some (heapPop lt a k d).toList
 | 0,d,h1,hd=>D4 (x:=some d.toList) (by
   show Bd.l2 (a:Int) cmp (((0:Nat):Int) - 1) d.toList=_
   unfold Bd.l2
   rw [aAw (by omega)]
   rfl)
 | k + 1,d,h1,hd=>by
  have hsz:=hd.1
  obtain⟨q1,q2,q3⟩:=Yx hc (hi:=k) (first:=a) k 0 (Sort.swp d a (a + k)) (by omega) (by omega) (by rw [C0]; omega) (hd.swp (by omega) (by omega))
  rw [E0 (s':=((k:Int) - 1,(siftDown lt k a 0 (Sort.swp d a (a + k))).toList)) ?_]
  ·exact Sy hc k _ (by rw [q2,C0]; omega) q1
  ·show Bd.l2 (a:Int) cmp (((k + 1:Nat):Int) - 1) d.toList=_
   have e0:((k + 1:Nat):Int) - 1=(k:Int):=by omega
   have e1:W ((a:Int) + (k:Int))=((a + k:Nat):Int):=by rw [Ej (by omega)]; omega
   obtain⟨y,hy⟩:=Nq (d:=d) (x:=d[a + k]!) (j:=((a:Int)).toNat) (i:=a + k) (by omega) rfl
   unfold Bd.l2
   rw [e0,aA4 (by omega),aEa,e1,Fb (i:=a + k) (by omega) rfl,aAg,Fb (i:=a) (by omega) rfl,aAg,hy,aAg]
   have e2:((a:Int)).toNat=a:=by omega
   have e3:(((a + k:Nat):Int)).toNat=a + k:=by omega
   rw [e2,e3,No]
   have e4:As (Sort.swp d a (a + k)).toList 0 (k:Int) (a:Int) cmp=some (siftDown lt k a 0 (Sort.swp d a (a + k))).toList:=q3
   rw [e4,aAg,Ej (by omega)]
theorem pO (hc:Cf cmp lt P) {a b:Nat} {d:Array Aa} (hab:a < b) (hb:b<=d.size) (hd:Bo P d):Bd d.toList (a:Int) (b:Int) cmp=some (heapSort lt d a b).toList:=by
 have hsz:=hd.1
 have e1:W ((b:Int) - (a:Int))=((b - a:Nat):Int):=by rw [Ej (by omega)]; omega
 have e2:W (((b - a:Nat):Int) - 1)=((b - a - 1:Nat):Int):=by rw [Ej (by omega)]; omega
 obtain⟨r1,r2,r3⟩:=Q9 hc (a:=a) (b:=b) ((b - a - 1) / 2 + 1) d (by omega) (by omega) (by omega) hd
 unfold Bd heapSort
 rw [e1,e2]
 have eq:Pm ((b - a - 1:Nat):Int) 2=some (((b - a - 1) / 2:Nat):Int):=by
  unfold Pm
  rw [if_neg (by omega),Ej]
  ·congr 1
  ·have:((b - a - 1:Nat):Int).tdiv 2=(((b - a - 1) / 2:Nat):Int):=rfl
   rw [this]
   omega
 rw [eq,aAg]
 have e0:(((b - a - 1) / 2:Nat):Int)=(((b - a - 1) / 2 + 1:Nat):Int) - 1:=by omega
 rw [e0,r3]
 refine D4 (x:=some (heapPop lt a (b - a) (heapBuild lt (b - a) a ((b - a - 1) / 2 + 1) d)).toList) ?_
 show Bd.l1 (a:Int) (b:Int) cmp (-1) _=_
 unfold Bd.l1
 rw [aAw (by omega),aDb,e1]
 have e3:W (((b - a:Nat):Int) - 1)=((b - a:Nat):Int) - 1:=Ej (by omega)
 rw [e3,Sy hc (b - a) _ (by rw [r2]; omega) r1]
end
end
section
open Go Go.Sort
section
variable {cmp:Aa->Aa->Option Int} {lt:Aa->Aa->Bool} {P:Aa->Prop}
theorem Ju {d:Array Aa} {i j:Nat} (hi:i < d.size) (hj:j < d.size) {ki kj:Int} (eki:ki=(i:Int)) (ekj:kj=(j:Int)) {γ:Type} (F:List Aa->Option γ) :
  ((Bm d.toList kj).bind fun e=>(Bm d.toList ki).bind fun e2=>(Bm (Ex d.toList ki.toNat e) kj).bind fun _=>F (Ex (Ex d.toList ki.toNat e) kj.toNat e2))=F (Sort.swp d i j).toList:=by
 subst eki ekj
 obtain⟨y,hy⟩:=Nq (d:=d) (x:=d[j]!) (j:=((i:Int)).toNat) (i:=j) hj rfl
 rw [Fb hj rfl,aAg,Fb hi rfl,aAg,hy,aAg,aMr,aMr,No]
theorem Mo (hc:Cf cmp lt P) {d:Array Aa} (h:Bo P d) {i j:Nat} (hi:i < d.size) (hj:j < d.size) {ki kj:Int} (eki:ki=(i:Int)) (ekj:kj=(j:Int)) {γ:Type} (F:Bool->Option γ) :
  ((Bm d.toList ki).bind fun e=>(Bm d.toList kj).bind fun e2=>(cmp e e2).bind fun y=>F (decide (y < 0)))=F (lt d[i]! d[j]!):=by
 subst eki ekj
 obtain⟨n,h1,h2⟩:=Mq hc h hi hj
 rw [Fb hi rfl,aAg,Fb hj rfl,aAg,h1,aAg,h2]
theorem cL (hc:Cf cmp lt P) {L0:List Aa} {e e2:Aa} {D:Array Aa} {a b pivot:Nat} (hD:Ex (Ex L0 ((a:Int)).toNat e) ((pivot:Int)).toNat e2=D.toList) (hA:Bo P D) (ha:a < b) (hb:b<=D.size) :
  Bz (fun q'=>Aj.l1 L0 (a:Int) (b:Int) (pivot:Int) cmp e e2 q') (W ((a:Int) + 1))=Bz (fun q'=>Aj.l3 L0 (a:Int) (pivot:Int) cmp e e2 ((scanUp (fun x=>lt x D[a]!) D (b - 1) (a + 1):Nat):Int) q') (((b - 1:Nat):Int)):=by
 have hsz:=hA.1
 rw [Wp (by omega)]
 refine vS (p:=fun x=>lt x D[a]!) (D:=D) (i0:=a + 1) (j:=b - 1) (J:=fun i x=>Aj.j2 L0 (a:Int) (b:Int) (pivot:Int) cmp e e2 (i:Int) x) (K:=fun i=>Bz (fun q'=>Aj.l3 L0 (a:Int) (pivot:Int) cmp e e2 (i:Int) q') (((b - 1:Nat):Int))) (by omega) (fun i h1 h2=>?_) (fun i=>rfl) (fun i _ _=>?_) _ (a + 1) rfl (aJf _) (by omega)
 ·unfold Aj.l1
  rw [hD,Wm (by omega) (by omega)]
  by_cases h:i<=b - 1
  ·rw [aA4 (by omega),aEa,aA4 h,aP5]
   exact Mo hc hA (i:=i) (j:=a) (by omega) (by omega) rfl rfl (F:=fun x=>Aj.j2 L0 (a:Int) (b:Int) (pivot:Int) cmp e e2 (i:Int) x)
  ·rw [aAw (by omega),aDb,aAw h,aR5]
 ·unfold Aj.j2
  rw [Wm (by omega) (by omega)]
  rfl
theorem dG (hc:Cf cmp lt P) {L0:List Aa} {e e2:Aa} {D:Array Aa} {a b i pivot:Nat} (hD:Ex (Ex L0 ((a:Int)).toNat e) ((pivot:Int)).toNat e2=D.toList) (hA:Bo P D) (ha:a < i) (hi:i<=b) (hb:b<=D.size) :
  Bz (fun q'=>Aj.l3 L0 (a:Int) (pivot:Int) cmp e e2 (i:Int) q') (((b - 1:Nat):Int))=(fun j=>if j < i then some ((j:Int),true,(Sort.swp D j a).toList) else
   Bz (fun q'=>Aj.l5 (a:Int) cmp q'.1 q'.2.1 q'.2.2) (((i + 1:Nat):Int),((j - 1:Nat):Int),(Sort.swp D i j).toList)) (scanDown (fun x=>!lt x D[a]!) D i (b - 1)):=by
 have hsz:=hA.1
 refine nH (p:=fun x=>!lt x D[a]!) (D:=D) (i:=i) (j0:=b - 1) (J:=fun j x=>Aj.j4 L0 (a:Int) (pivot:Int) cmp e e2 (i:Int) (j:Int) x) (K:=fun j:Nat=>if j < i then some ((j:Int),true,(Sort.swp D j a).toList) else
   Bz (fun q'=>Aj.l5 (a:Int) cmp q'.1 q'.2.1 q'.2.2) (((i + 1:Nat):Int),((j - 1:Nat):Int),(Sort.swp D i j).toList)) (by omega) (by omega) (fun j h1 h2=>?_) (fun i=>rfl) (fun j h1 h2=>?_) (b - 1) (by omega) (aJf _)
 ·unfold Aj.l3
  rw [hD]
  by_cases h:i<=j
  ·rw [aA4 (by omega),aEa,aA4 h,aP5]
   exact Mo hc hA (i:=j) (j:=a) (by omega) (by omega) rfl rfl (F:=fun x=>Aj.j4 L0 (a:Int) (pivot:Int) cmp e e2 (i:Int) (j:Int) (!x))
  ·rw [aAw (by omega),aDb,aAw h,aR5]
 ·unfold Aj.j4
  rw [hD,aDb]
  congr 1
  by_cases h:j < i
  ·rw [aA4 (by omega),aEa,if_pos h]
   exact Ju (i:=j) (j:=a) (by omega) (by omega) rfl rfl (fun l=>some ((j:Int),true,l))
  ·rw [aAw (by omega),aDb,if_neg h,Wp (by omega),Wm (by omega) (by omega)]
   exact Ju (i:=i) (j:=j) (by omega) (by omega) rfl rfl (fun l=>Bz (fun q'=>Aj.l5 (a:Int) cmp q'.1 q'.2.1 q'.2.2) (((i + 1:Nat):Int),((j - 1:Nat):Int),l))
theorem Sq (hc:Cf cmp lt P) {D:Array Aa} {a i j:Nat} (hA:Bo P D) (ha:a < i) (hi:i<=j + 1) (hj:j < D.size) :
  Aj.l5 (a:Int) cmp (i:Int) (j:Int) D.toList=(fun i' j':Nat=>if j' < i' then up (some ((j':Int),false,(Sort.swp D j' a).toList)) else some (.next (((i' + 1:Nat):Int),((j' - 1:Nat):Int),(Sort.swp D i' j').toList))) (scanUp (fun x=>lt x D[a]!) D j i) (scanDown (fun x=>!lt x D[a]!) D (scanUp (fun x=>lt x D[a]!) D j i) j):=by
 have hsz:=hA.1
 have hu:=scanUp_spec (fun x=>lt x D[a]!) D j _ i rfl
 unfold Aj.l5
 refine (vS (p:=fun x=>lt x D[a]!) (D:=D) (i0:=i) (j:=j) (J:=fun i x=>Aj.j7 (a:Int) cmp (j:Int) D.toList (i:Int) x) (K:=fun i=>Bz (fun q'=>Aj.l8 (a:Int) cmp D.toList (i:Int) q') (j:Int)) (by omega) (fun i' h1 h2=>?_) (fun i=>rfl) (fun i' h1 h2=>rfl) _ i rfl (aJf _) (by omega)).trans ?_
 ·unfold Aj.l6
  by_cases h:i'<=j
  ·rw [aA4 (by omega),aEa,aA4 h,aP5]
   exact Mo hc hA (i:=i') (j:=a) (by omega) (by omega) rfl rfl (F:=fun x=>Aj.j7 (a:Int) cmp (j:Int) D.toList (i':Int) x)
  ·rw [aAw (by omega),aDb,aAw h,aR5]
 ·generalize scanUp (fun x=>lt x D[a]!) D j i=i2 at hu ⊢
  have h1:=hu.1
  have h2:=hu.2.1 hi
  refine nH (p:=fun x=>!lt x D[a]!) (D:=D) (i:=i2) (j0:=j) (J:=fun j x=>Aj.j9 (a:Int) D.toList (i2:Int) (j:Int) x) (K:=fun j':Nat=>if j' < i2 then up (some ((j':Int),false,(Sort.swp D j' a).toList)) else some (.next (((i2 + 1:Nat):Int),((j' - 1:Nat):Int),(Sort.swp D i2 j').toList))) (by omega) (by omega) (fun j' h3 h4=>?_) (fun j'=>rfl) (fun j' h3 h4=>?_) j (by omega) (aJf _)
  ·unfold Aj.l8
   by_cases h:i2<=j'
   ·rw [aA4 (by omega),aEa,aA4 h,aP5]
    exact Mo hc hA (i:=j') (j:=a) (by omega) (by omega) rfl rfl (F:=fun x=>Aj.j9 (a:Int) D.toList (i2:Int) (j':Int) (!x))
   ·rw [aAw (by omega),aDb,aAw h,aR5]
  ·unfold Aj.j9
   rw [aDb]
   congr 1
   by_cases h:j' < i2
   ·rw [aA4 (by omega),aEa,if_pos h]
    congr 1
    exact Ju (i:=j') (j:=a) (by omega) (by omega) rfl rfl (fun l=>some ((j':Int),false,l))
   ·rw [aAw (by omega),aDb,if_neg h,Wp (by omega),Wm (by omega) (by omega)]
    exact Ju (i:=i2) (j:=j') (by omega) (by omega) rfl rfl (fun l=>some (Lp.next (((i2 + 1:Nat):Int),((j' - 1:Nat):Int),l)))
theorem Zi (hc:Cf cmp lt P) {a:Nat}:∀ (n i j:Nat) (D:Array Aa),j + 1 - i<=n->a < i->i<=j + 1->j < D.size->Bo P D->
  Bo P (partLoop lt a i j D).2/\(partLoop lt a i j D).2.size=D.size/\(partLoop lt a i j D).1 < D.size/\
  Bz (fun q'=>Aj.l5 (a:Int) cmp q'.1 q'.2.1 q'.2.2) ((i:Int),(j:Int),D.toList)=some (((partLoop lt a i j D).1:Int),false,(Sort.swp (partLoop lt a i j D).2 (partLoop lt a i j D).1 a).toList):=by
 intro n
 induction n with
 | zero=>
  intro i j D hn ha hi hj hA
  have hr:=Sq hc hA ha hi hj
  have hu:=scanUp_spec (fun x=>lt x D[a]!) D j _ i rfl
  rw [partLoop_eq]
  generalize scanUp (fun x=>lt x D[a]!) D j i=i2 at hu hr ⊢
  have hd:=scanDown_spec (fun x=>!lt x D[a]!) D i2 j
  generalize scanDown (fun x=>!lt x D[a]!) D i2 j=j2 at hd hr ⊢
  have h1:=hu.1
  have h2:=hd.1
  rw [if_pos (show i2 > j2 by omega)]
  refine⟨hA,rfl,show j2 < D.size by omega,D4 (hr.trans ?_)⟩
  exact if_pos (show j2 < i2 by omega)
 | succ n ih=>
  intro i j D hn ha hi hj hA
  have hr:=Sq hc hA ha hi hj
  have hu:=scanUp_spec (fun x=>lt x D[a]!) D j _ i rfl
  rw [partLoop_eq]
  generalize scanUp (fun x=>lt x D[a]!) D j i=i2 at hu hr ⊢
  have hd:=scanDown_spec (fun x=>!lt x D[a]!) D i2 j
  generalize scanDown (fun x=>!lt x D[a]!) D i2 j=j2 at hd hr ⊢
  have h1:=hu.1
  have h2:=hd.1
  by_cases h:i2 > j2
  ·rw [if_pos h]
   refine⟨hA,rfl,show j2 < D.size by omega,D4 (hr.trans ?_)⟩
   exact if_pos (show j2 < i2 by omega)
  ·rw [if_neg h]
   have hne:i2≠j2:=fun e=>by
    have u4:=hu.2.2.2 (by omega)
    have d4:=hd.2.2.2 (by omega) (by omega)
    rw [e] at u4
    rw [u4] at d4
    cases d4
   obtain⟨q1,q2,q3,q4⟩:=ih (i2 + 1) (j2 - 1) (Sort.swp D i2 j2) (by omega) (by omega) (by omega) (by rw [C0]; omega) (hA.swp (by omega) (by omega))
   rw [C0] at q2 q3
   refine⟨q1,q2,q3,(E0 (hr.trans (if_neg (show ¬ j2 < i2 by omega)))).trans q4⟩
theorem nO (hc:Cf cmp lt P) {a b pivot:Nat} {d:Array Aa} (hab:a < b) (hp1:a<=pivot) (hp2:pivot < b) (hb:b<=d.size) (hd:Bo P d) :
  Aj d.toList (a:Int) (b:Int) (pivot:Int) cmp=some (((partition lt d a b pivot).1:Int),(partition lt d a b pivot).2.1,(partition lt d a b pivot).2.2.toList):=by
 have hsz:=hd.1
 have hA:Bo P (Sort.swp d a pivot):=hd.swp (by omega) (by omega)
 have hs:=C0 d a pivot
 have hD:Ex (Ex d.toList ((a:Int)).toNat d[pivot]!) ((pivot:Int)).toNat d[a]! = (Sort.swp d a pivot).toList:=by
  rw [aMr,aMr,No]
 obtain⟨y,hy⟩:=Nq (d:=d) (x:=d[pivot]!) (j:=((a:Int)).toNat) (i:=pivot) (by omega) rfl
 unfold Aj partition
 rw [Fb (i:=pivot) (by omega) rfl,aAg,Fb (i:=a) (by omega) rfl,aAg,hy,aAg,cL hc hD hA hab (by omega)]
 simp only []
 generalize Sort.swp d a pivot=D at hA hs hD ⊢
 have hu:=scanUp_spec (fun x=>lt x D[a]!) D (b - 1) _ (a + 1) rfl
 generalize scanUp (fun x=>lt x D[a]!) D (b - 1) (a + 1)=i2 at hu ⊢
 have h1:=hu.1
 have h2:=hu.2.1 (by omega)
 rw [dG hc hD hA (b:=b) (i:=i2) (by omega) (by omega) (by omega)]
 have hdn:=scanDown_spec (fun x=>!lt x D[a]!) D i2 (b - 1)
 generalize scanDown (fun x=>!lt x D[a]!) D i2 (b - 1)=j2 at hdn ⊢
 have h3:=hdn.1
 by_cases h:i2 > j2
 ·rw [if_pos h]
  exact if_pos (show j2 < i2 by omega)
 ·rw [if_neg h]
  have hne:i2≠j2:=fun e=>by
   have u4:=hu.2.2.2 (by omega)
   have d4:=hdn.2.2.2 (by omega) (by omega)
   rw [e] at u4
   rw [u4] at d4
   cases d4
  refine (if_neg (show ¬ j2 < i2 by omega)).trans ?_
  exact (Zi hc _ (i2 + 1) (j2 - 1) (Sort.swp D i2 j2) (aJf _) (by omega) (by omega) (by rw [C0]; omega) (hA.swp (by omega) (by omega))).2.2.2
end
end
section
open Go Go.Sort
section
variable {cmp:Aa->Aa->Option Int} {lt:Aa->Aa->Bool} {P:Aa->Prop}
theorem Ui (hc:Cf cmp lt P) {D:Array Aa} {a i j:Nat} (hA:Bo P D) (ha:a < i) (hi:i<=j + 1) (hj:j < D.size) :
  Am.l1 (a:Int) cmp (i:Int) (j:Int) D.toList=(fun i' j':Nat=>if j' < i' then up (some ((i':Int),D.toList)) else some (.next (((i' + 1:Nat):Int),((j' - 1:Nat):Int),(Sort.swp D i' j').toList))) (scanUp (fun x=>!lt D[a]! x) D j i) (scanDown (fun x=>lt D[a]! x) D (scanUp (fun x=>!lt D[a]! x) D j i) j):=by
 have hsz:=hA.1
 have hu:=scanUp_spec (fun x=>!lt D[a]! x) D j _ i rfl
 unfold Am.l1
 refine (vS (p:=fun x=>!lt D[a]! x) (D:=D) (i0:=i) (j:=j) (J:=fun i x=>Am.j3 (a:Int) cmp (j:Int) D.toList (i:Int) x) (K:=fun i=>Bz (fun q'=>Am.l4 (a:Int) cmp D.toList (i:Int) q') (j:Int)) (by omega) (fun i' h1 h2=>?_) (fun i=>rfl) (fun i' h1 h2=>rfl) _ i rfl (aJf _) (by omega)).trans ?_
 ·unfold Am.l2
  by_cases h:i'<=j
  ·rw [aA4 (by omega),aEa,aA4 h,aP5]
   exact Mo hc hA (i:=a) (j:=i') (by omega) (by omega) rfl rfl (F:=fun x=>Am.j3 (a:Int) cmp (j:Int) D.toList (i':Int) (!x))
  ·rw [aAw (by omega),aDb,aAw h,aR5]
 ·generalize scanUp (fun x=>!lt D[a]! x) D j i=i2 at hu ⊢
  have h1:=hu.1
  have h2:=hu.2.1 hi
  refine nH (p:=fun x=>lt D[a]! x) (D:=D) (i:=i2) (j0:=j) (J:=fun j x=>Am.j5 D.toList (i2:Int) (j:Int) x) (K:=fun j':Nat=>if j' < i2 then up (some ((i2:Int),D.toList)) else some (.next (((i2 + 1:Nat):Int),((j' - 1:Nat):Int),(Sort.swp D i2 j').toList))) (by omega) (by omega) (fun j' h3 h4=>?_) (fun j'=>rfl) (fun j' h3 h4=>?_) j (by omega) (aJf _)
  ·unfold Am.l4
   by_cases h:i2<=j'
   ·rw [aA4 (by omega),aEa,aA4 h,aP5]
    exact Mo hc hA (i:=a) (j:=j') (by omega) (by omega) rfl rfl (F:=fun x=>Am.j5 D.toList (i2:Int) (j':Int) x)
   ·rw [aAw (by omega),aDb,aAw h,aR5]
  ·unfold Am.j5
   rw [aDb]
   congr 1
   by_cases h:j' < i2
   ·rw [aA4 (by omega),aEa,if_pos h]
   ·rw [aAw (by omega),aDb,if_neg h,Wp (by omega),Wm (by omega) (by omega)]
    exact Ju (i:=i2) (j:=j') (by omega) (by omega) rfl rfl (fun l=>some (Lp.next (((i2 + 1:Nat):Int),((j' - 1:Nat):Int),l)))
theorem aF (hc:Cf cmp lt P) {a:Nat}:∀ (n i j:Nat) (D:Array Aa),j + 1 - i<=n->a < i->i<=j + 1->j < D.size->Bo P D->
  Bz (fun q'=>Am.l1 (a:Int) cmp q'.1 q'.2.1 q'.2.2) ((i:Int),(j:Int),D.toList)=some (((partEqLoop lt a i j D).1:Int),(partEqLoop lt a i j D).2.toList):=by
 intro n
 induction n with
 | zero=>
  intro i j D hn ha hi hj hA
  have hr:=Ui hc hA ha hi hj
  have hu:=scanUp_spec (fun x=>!lt D[a]! x) D j _ i rfl
  rw [partEqLoop_eq]
  generalize scanUp (fun x=>!lt D[a]! x) D j i=i2 at hu hr ⊢
  have hd:=scanDown_spec (fun x=>lt D[a]! x) D i2 j
  generalize scanDown (fun x=>lt D[a]! x) D i2 j=j2 at hd hr ⊢
  have h1:=hu.1
  have h2:=hd.1
  rw [if_pos (show i2 > j2 by omega)]
  refine D4 (hr.trans ?_)
  exact if_pos (show j2 < i2 by omega)
 | succ n ih=>
  intro i j D hn ha hi hj hA
  have hr:=Ui hc hA ha hi hj
  have hu:=scanUp_spec (fun x=>!lt D[a]! x) D j _ i rfl
  rw [partEqLoop_eq]
  generalize scanUp (fun x=>!lt D[a]! x) D j i=i2 at hu hr ⊢
  have hd:=scanDown_spec (fun x=>lt D[a]! x) D i2 j
  generalize scanDown (fun x=>lt D[a]! x) D i2 j=j2 at hd hr ⊢
  have h1:=hu.1
  have h2:=hd.1
  by_cases h:i2 > j2
  ·rw [if_pos h]
   refine D4 (hr.trans ?_)
   exact if_pos (show j2 < i2 by omega)
  ·rw [if_neg h]
   have hne:i2≠j2:=fun e=>by
    have u4:=hu.2.2.2 (by omega)
    have d4:=hd.2.2.2 (by omega) (by omega)
    rw [e] at u4
    rw [d4] at u4
    cases u4
   exact (E0 (hr.trans (if_neg (show ¬ j2 < i2 by omega)))).trans (ih (i2 + 1) (j2 - 1) (Sort.swp D i2 j2) (by omega) (by omega) (by omega) (by rw [C0]; omega) (hA.swp (by omega) (by omega)))
theorem sA (hc:Cf cmp lt P) {a b pivot:Nat} {d:Array Aa} (hab:a < b) (hp1:a<=pivot) (hp2:pivot < b) (hb:b<=d.size) (hd:Bo P d) :
  Am d.toList (a:Int) (b:Int) (pivot:Int) cmp=some (((partitionEqual lt d a b pivot).1:Int),(partitionEqual lt d a b pivot).2.toList):=by
 have hsz:=hd.1
 unfold Am partitionEqual
 rw [Wp (by omega),Wm (by omega) (by omega)]
 refine (Ju (i:=a) (j:=pivot) (by omega) (by omega) rfl rfl (fun l=>Bz (fun q'=>Am.l1 (a:Int) cmp q'.1 q'.2.1 q'.2.2) (((a + 1:Nat):Int),((b - 1:Nat):Int),l))).trans ?_
 exact aF hc _ (a + 1) (b - 1) (Sort.swp d a pivot) (aJf _) (by omega) (by omega) (by rw [C0]; omega) (hd.swp (by omega) (by omega))
theorem rG (hc:Cf cmp lt P) {b i2:Nat} {j1:Int}:∀ (n j:Nat) (d:Array Aa),b - j=n->1<=j->b<=d.size->Bo P d->
  Bo P (shiftUp lt b j d)/\(shiftUp lt b j d).size=d.size/\Bz (fun q'=>Af.l6 (b:Int) cmp j1 (i2:Int) q'.1 q'.2) ((j:Int),d.toList)=some (.next ((i2:Int),W (j1 + 1),(shiftUp lt b j d).toList)):=by
 intro n
 induction n with
 | zero=>
  intro j d hn h1 hb hd
  rw [shiftUp,if_neg (by omega)]
  refine⟨hd,rfl,D4 ?_⟩
  show Af.l6 (b:Int) cmp j1 (i2:Int) (j:Int) d.toList=_
  unfold Af.l6
  rw [aAw (by omega),aDb]
  rfl
 | succ n ih=>
  intro j d hn h1 hb hd
  have hsz:=hd.1
  rw [shiftUp,if_pos (by omega)]
  obtain⟨m,m1,m2⟩:=Mq hc hd (i:=j) (j:=j - 1) (by omega) (by omega)
  have hbody:Af.l6 (b:Int) cmp j1 (i2:Int) (j:Int) d.toList=bif lt d[j]! d[j - 1]! then some (.next (((j + 1:Nat):Int),(Sort.swp d j (j - 1)).toList)) else up (some (.next ((i2:Int),W (j1 + 1),d.toList))):=by
   obtain⟨y,hy⟩:=Nq (d:=d) (x:=d[j - 1]!) (j:=((j:Int)).toNat) (i:=j - 1) (by omega) rfl
   unfold Af.l6
   rw [aA4 (by omega),aEa,Wm (by omega) (by omega),Fb (i:=j) (by omega) rfl,aAg,Fb (i:=j - 1) (by omega) rfl,aAg,m1,aAg,m2,hy,aAg,Wp (by omega),aMr,aMr,No]
   cases lt d[j]! d[j - 1]! <;> rfl
  cases hl:lt d[j]! d[j - 1]! with
  | false=>
   rw [hl] at hbody
   rw [if_pos (by rfl)]
   exact⟨hd,rfl,D4 hbody⟩
  | true=>
   rw [hl] at hbody
   rw [if_neg (by simp)]
   obtain⟨q1,q2,q3⟩:=ih (j + 1) (Sort.swp d j (j - 1)) (by omega) (by omega) (by rw [C0]; exact hb) (hd.swp (by omega) (by omega))
   exact⟨q1,by rw [q2,C0],(E0 hbody).trans q3⟩
theorem tN (hc:Cf cmp lt P) {b i2:Nat} {j1:Int} {d:Array Aa} (h1:1<=i2) (h2:i2 < b) (hb:b<=d.size) (hd:Bo P d) :
  Bo P (if b - i2>=2 then shiftUp lt b (i2 + 1) d else d)/\(if b - i2>=2 then shiftUp lt b (i2 + 1) d else d).size=d.size/\Af.j5 (b:Int) cmp j1 (i2:Int) d.toList=some (.next ((i2:Int),W (j1 + 1),(if b - i2>=2 then shiftUp lt b (i2 + 1) d else d).toList)):=by
 have hsz:=hd.1
 unfold Af.j5
 rw [Wd (by omega) (by omega)]
 by_cases h:b - i2>=2
 ·rw [aA4 (by omega),aEa,if_pos h,Wp (by omega)]
  exact rG hc _ (i2 + 1) d rfl (by omega) hb hd
 ·rw [aAw (by omega),aDb,if_neg h]
  exact⟨hd,rfl,rfl⟩
theorem bQ (hc:Cf cmp lt P) {b i2:Nat} {j1:Int}:∀ (j:Nat) (d:Array Aa),j < d.size->Bo P d->
  Bo P (shiftDown lt j d)/\(shiftDown lt j d).size=d.size/\Bz (fun q'=>Af.l4 (b:Int) cmp j1 (i2:Int) q'.1 q'.2) ((j:Int),d.toList)=Af.j5 (b:Int) cmp j1 (i2:Int) (shiftDown lt j d).toList
 | 0,d,hj,hd=>by
  refine⟨hd,rfl,D4 ?_⟩
  show Af.l4 (b:Int) cmp j1 (i2:Int) ((0:Nat):Int) d.toList=_
  unfold Af.l4
  rw [aAw (by omega),aDb]
  rfl
 | j + 1,d,hj,hd=>by
  have hsz:=hd.1
  unfold shiftDown
  obtain⟨m,m1,m2⟩:=Mq hc hd (i:=j + 1) (j:=j) (by omega) (by omega)
  have hbody:Af.l4 (b:Int) cmp j1 (i2:Int) ((j + 1:Nat):Int) d.toList=bif lt d[j + 1]! d[j]! then some (.next ((j:Int),(Sort.swp d (j + 1) j).toList)) else up (Af.j5 (b:Int) cmp j1 (i2:Int) d.toList):=by
   obtain⟨y,hy⟩:=Nq (d:=d) (x:=d[j]!) (j:=(((j + 1:Nat):Int)).toNat) (i:=j) (by omega) rfl
   unfold Af.l4
   have e:W (((j + 1:Nat):Int) - 1)=(j:Int):=Wm (n:=j + 1) (by omega) (by omega)
   rw [aA4 (by omega),aEa,e,Fb (i:=j + 1) (by omega) rfl,aAg,Fb (i:=j) (by omega) rfl,aAg,m1,aAg,m2,hy,aAg,aMr,aMr,No]
   cases lt d[j + 1]! d[j]! <;> rfl
  cases hl:lt d[j + 1]! d[j]! with
  | false=>
   rw [hl] at hbody
   rw [if_pos (by rfl)]
   exact⟨hd,rfl,D4 hbody⟩
  | true=>
   rw [hl] at hbody
   rw [if_neg (by simp)]
   obtain⟨q1,q2,q3⟩:=bQ hc j (Sort.swp d (j + 1) j) (by rw [C0]; omega) (hd.swp (by omega) (by omega))
   exact⟨q1,by rw [q2,C0],(E0 hbody).trans q3⟩
theorem Zk (hc:Cf cmp lt P) {a b:Nat}:∀ (s i:Nat) (d:Array Aa),s<=5->a < i->i<=b->b<=d.size->Bo P d->
  Bz (fun q'=>Af.l1 (a:Int) (b:Int) cmp q'.1 q'.2.1 q'.2.2) ((i:Int),((5 - s:Nat):Int),d.toList)=some ((partialIns lt a b s i d).2,(partialIns lt a b s i d).1.toList)
 | 0,i,d,hs,ha,hi,hb,hd=>by
  refine D4 ?_
  show Af.l1 (a:Int) (b:Int) cmp (i:Int) ((5 - 0:Nat):Int) d.toList=_
  unfold Af.l1
  rw [aAw (by omega),aDb]
  rfl
 | s + 1,i,d,hs,ha,hi,hb,hd=>by
  have hsz:=hd.1
  have hle:=kB lt d b _ i rfl hi
  have hbody:Af.l1 (a:Int) (b:Int) cmp (i:Int) ((5 - (s + 1):Nat):Int) d.toList =
    (fun i':Nat=>if i'=b then up (some (true,d.toList)) else if b - a < 50 then up (some (false,d.toList)) else
     bif decide (i' - a>=2) then Bz (fun q'=>Af.l4 (b:Int) cmp ((5 - (s + 1):Nat):Int) (i':Int) q'.1 q'.2) (((i' - 1:Nat):Int),(Sort.swp d i' (i' - 1)).toList)
     else Af.j5 (b:Int) cmp ((5 - (s + 1):Nat):Int) (i':Int) (Sort.swp d i' (i' - 1)).toList) (scanSorted lt d b i):=by
   unfold Af.l1
   rw [aA4 (by omega),aEa]
   refine aNl (lt:=lt) (D:=d) (i0:=i) (b:=b) (J:=fun i x=>Af.j3 (a:Int) (b:Int) cmp ((5 - (s + 1):Nat):Int) d.toList (i:Int) x) (K:=fun i':Nat=>if i'=b then up (some (true,d.toList)) else if b - a < 50 then up (some (false,d.toList)) else
     bif decide (i' - a>=2) then Bz (fun q'=>Af.l4 (b:Int) cmp ((5 - (s + 1):Nat):Int) (i':Int) q'.1 q'.2) (((i' - 1:Nat):Int),(Sort.swp d i' (i' - 1)).toList)
     else Af.j5 (b:Int) cmp ((5 - (s + 1):Nat):Int) (i':Int) (Sort.swp d i' (i' - 1)).toList) (by omega) (fun i' h1 h2=>?_) (fun i'=>rfl) (fun i' h1 h2=>?_) _ i rfl (aJf _) hi
   ·unfold Af.l2
    by_cases h:i' < b
    ·rw [aA4 (by omega),aEa,aA4 h,aP5,Wm (by omega) (by omega)]
     exact Mo hc hd (i:=i') (j:=i' - 1) (by omega) (by omega) rfl rfl (F:=fun x=>Af.j3 (a:Int) (b:Int) cmp ((5 - (s + 1):Nat):Int) d.toList (i':Int) (!x))
    ·rw [aAw (by omega),aDb,aAw h,aR5]
   ·unfold Af.j3
    rw [aDb]
    congr 1
    by_cases e:i'=b
    ·rw [aA4 (by omega),aEa,if_pos e]
    ·rw [aAw (by omega),aDb,if_neg e,Wd (by omega) (by omega)]
     by_cases h50:b - a < 50
     ·rw [aA4 (by omega),aEa,if_pos h50]
     ·rw [aAw (by omega),aDb,if_neg h50,Wm (by omega) (by omega),Wd (by omega) (by omega)]
      have e2:decide ((2:Int)<=((i' - a:Nat):Int))=decide (i' - a>=2):=decide_eq_decide.2 (by omega)
      rw [e2]
      exact Ju (i:=i') (j:=i' - 1) (by omega) (by omega) rfl rfl (fun l=>cond (decide (i' - a>=2)) (Bz (fun q'=>Af.l4 (b:Int) cmp ((5 - (s + 1):Nat):Int) (i':Int) q'.1 q'.2) (((i' - 1:Nat):Int),l)) (Af.j5 (b:Int) cmp ((5 - (s + 1):Nat):Int) (i':Int) l))
  rw [partialIns_succ]
  generalize scanSorted lt d b i=i2 at hbody hle ⊢
  by_cases e:i2=b
  ·rw [if_pos e]
   exact D4 (hbody.trans (if_pos e))
  ·rw [if_neg e]
   by_cases h50:b - a < 50
   ·rw [if_pos h50]
    exact D4 (hbody.trans ((if_neg e).trans (if_pos h50)))
   ·rw [if_neg h50]
    have hb2:=hbody.trans ((if_neg e).trans (if_neg h50))
    unfold fixDown fixUp
    have hd1:Bo P (Sort.swp d i2 (i2 - 1)):=hd.swp (by omega) (by omega)
    have hz1:=C0 d i2 (i2 - 1)
    generalize Sort.swp d i2 (i2 - 1)=d1 at hb2 hd1 hz1 ⊢
    have e5:W (((5 - (s + 1):Nat):Int) + 1)=((5 - s:Nat):Int):=by
     rw [Wp (by omega)]
     omega
    have main:∀ d2:Array Aa,d2.size=d1.size->Bo P d2->Af.l1 (a:Int) (b:Int) cmp (i:Int) ((5 - (s + 1):Nat):Int) d.toList=Af.j5 (b:Int) cmp ((5 - (s + 1):Nat):Int) (i2:Int) d2.toList->
      Bz (fun q'=>Af.l1 (a:Int) (b:Int) cmp q'.1 q'.2.1 q'.2.2) ((i:Int),((5 - (s + 1):Nat):Int),d.toList)=some ((partialIns lt a b s i2 (if b - i2>=2 then shiftUp lt b (i2 + 1) d2 else d2)).2,(partialIns lt a b s i2 (if b - i2>=2 then shiftUp lt b (i2 + 1) d2 else d2)).1.toList):=fun d2 hz2 hd2 hl=>by
     obtain⟨q1,q2,q3⟩:=tN hc (b:=b) (i2:=i2) (j1:=((5 - (s + 1):Nat):Int)) (d:=d2) (by omega) (by omega) (by omega) hd2
     rw [e5] at q3
     exact (E0 (hl.trans q3)).trans (Zk hc s i2 _ (by omega) (by omega) (by omega) (by omega) q1)
    by_cases h2:i2 - a>=2
    ·rw [if_pos h2]
     rw [aA4 h2,aEa] at hb2
     obtain⟨q1,q2,q3⟩:=bQ hc (b:=b) (i2:=i2) (j1:=((5 - (s + 1):Nat):Int)) (i2 - 1) d1 (by omega) hd1
     exact main _ q2 q1 (hb2.trans q3)
    ·rw [if_neg h2]
     rw [aAw h2,aDb] at hb2
     exact main _ rfl hd1 hb2
theorem cB (hc:Cf cmp lt P) {a b:Nat} {d:Array Aa} (hab:a < b) (hb:b<=d.size) (hd:Bo P d) :
  Af d.toList (a:Int) (b:Int) cmp=some ((partialInsertionSort lt d a b).2,(partialInsertionSort lt d a b).1.toList):=by
 have hsz:=hd.1
 unfold Af partialInsertionSort
 rw [Wp (by omega)]
 exact Zk hc 5 (a + 1) d (by omega) (by omega) (by omega) hb hd
end
end
section
open Go Go.Sort
section
variable {cmp:Aa->Aa->Option Int} {lt:Aa->Aa->Bool} {P:Aa->Prop}
theorem Bo.perm {d d':Array Aa} {a b:Nat} (h:Bo P d) (hb:b<=d.size) (hp:PermIn a b d d'):Bo P d':=by
 refine⟨by rw [hp.1]; exact h.1,fun i hi=>?_⟩
 rw [hp.1] at hi
 by_cases hr:a<=i/\i < b
 ·exact permIn_all d d' a b P hb hp (fun k _ hk=>h.2 k (by omega)) i hr.1 hr.2
 ·rw [hp.2.1 i (by omega)]
  exact h.2 i hi
theorem sX:∀ (n i j:Nat) (d:Array Aa),j - i<=n->j < d.size->d.size<=1000000000->
  Bz (fun q'=>Bq.l1 q'.1 q'.2.1 q'.2.2) ((i:Int),(j:Int),d.toList)=some (reverseLoop i j d).toList:=by
 intro n
 induction n with
 | zero=>
  intro i j d hn hj hs
  rw [reverseLoop,if_neg (by omega)]
  refine D4 ?_
  show Bq.l1 (i:Int) (j:Int) d.toList=_
  unfold Bq.l1
  rw [aAw (by omega),aDb]
 | succ n ih=>
  intro i j d hn hj hs
  rw [reverseLoop]
  by_cases h:i < j
  ·rw [if_pos h]
   have hb:Bq.l1 (i:Int) (j:Int) d.toList=some (.next (((i + 1:Nat):Int),((j - 1:Nat):Int),(Sort.swp d i j).toList)):=by
    unfold Bq.l1
    rw [aA4 (by omega),aEa,Wp (by omega),Wm (by omega) (by omega)]
    exact Ju (i:=i) (j:=j) (by omega) (by omega) rfl rfl (fun l=>some (Lp.next (((i + 1:Nat):Int),((j - 1:Nat):Int),l)))
   exact (E0 hb).trans (ih (i + 1) (j - 1) _ (by omega) (by rw [C0]; omega) (by rw [C0]; exact hs))
  ·rw [if_neg h]
   refine D4 ?_
   show Bq.l1 (i:Int) (j:Int) d.toList=_
   unfold Bq.l1
   rw [aAw (by omega),aDb]
theorem dB {a b:Nat} {d:Array Aa} (hab:a < b) (hb:b<=d.size) (hs:d.size<=1000000000):Bq d.toList (a:Int) (b:Int) cmp=some (reverseRange d a b).toList:=by
 unfold Bq reverseRange
 rw [Wm (by omega) (by omega)]
 exact sX _ a (b - 1) d (aJf _) (by omega) hs
theorem Vo {a idx o:Nat} {d:Array Aa} {z:Int×Int} (hi:idx < d.size) (ho:a + o < d.size) (hs:d.size<=1000000000) :
  Ba.j2 (a:Int) (idx:Int) d.toList z (o:Int)=some (.next (((idx + 1:Nat):Int),(Sort.swp d idx (a + o)).toList,z.2)):=by
 unfold Ba.j2
 have e:W ((a:Int) + (o:Int))=((a + o:Nat):Int):=by rw [Ej (by omega)]; omega
 rw [e,Wp (by omega)]
 exact Ju (i:=idx) (j:=a + o) hi ho rfl rfl (fun l=>some (Lp.next (((idx + 1:Nat):Int),l,z.2)))
theorem iG {a b y:Nat} (hab:a < b) (h8:8<=b - a) (hy1:b - a < y) (hy2:y<=2 * (b - a)):∀ (k idx:Nat) (d:Array Aa) (r:Int),idx + k=a + (b - a) / 4 * 2 + 2->a<=idx->b<=d.size->d.size < 65536->
  ∃ d',Bz (fun q'=>Ba.l1 (a:Int) (b:Int) (y:Int) q'.1 q'.2.1 q'.2.2) ((idx:Int),d.toList,r)=some d'.toList/\PermIn a b d d':=by
 intro k
 induction k with
 | zero=>
  intro idx d r hk hi hb hs
  refine⟨d,D4 ?_,permIn_refl d a b⟩
  show Ba.l1 (a:Int) (b:Int) (y:Int) (idx:Int) d.toList r=_
  unfold Ba.l1
  rw [Wd (by omega) (by omega),aG1 (by omega),aAg,Wq2 (by omega) (by omega),Wp (by omega),aAw (by omega),aDb]
 | succ k ih=>
  intro idx d r hk hi hb hs
  obtain⟨z,hz⟩:=aNd r
  obtain⟨m,m1,m2⟩:=aKy z.1 (y - 1) (by omega)
  have e3:((y:Int) - 1)=((y - 1:Nat):Int):=by omega
  have hbody:∃ o:Nat,o < b - a/\Ba.l1 (a:Int) (b:Int) (y:Int) (idx:Int) d.toList r=some (.next (((idx + 1:Nat):Int),(Sort.swp d idx (a + o)).toList,z.2)):=by
   unfold Ba.l1
   rw [Wd (m:=b) (n:=a) (by omega) (by omega),aG1 (by omega),aAg,Wq2 (by omega) (by omega),Wp (by omega),aA4 (by omega),aEa,hz,aAg,e3,m2]
   clear m2
   by_cases h:b - a<=m
   ·refine⟨m - (b - a),by omega,?_⟩
    rw [aA4 (by omega),aEa,Wd (by omega) h]
    exact Vo (by omega) (by omega) (by omega)
   ·refine⟨m,by omega,?_⟩
    rw [aAw (by omega),aDb]
    exact Vo (by omega) (by omega) (by omega)
  obtain⟨o,ho,hbd⟩:=hbody
  obtain⟨d',h1,h2⟩:=ih (idx + 1) (Sort.swp d idx (a + o)) z.2 (by omega) (by omega) (by rw [C0]; exact hb) (by rw [C0]; exact hs)
  exact⟨d',(E0 hbd).trans h1,permIn_trans _ _ _ a b (swp_permIn d a b idx (a + o) (by omega) (by omega) (by omega) (by omega) hb) h2⟩
theorem kA {a b:Nat} {d:Array Aa} (hab:a < b) (hb:b<=d.size) (hs:d.size < 65536):∃ d',Ba d.toList (a:Int) (b:Int) cmp=some d'.toList/\PermIn a b d d':=by
 unfold Ba
 rw [Wd (by omega) (by omega)]
 by_cases h8:8<=b - a
 ·obtain⟨y,y1,y2,y3⟩:=aHi (b - a) (by omega) (by omega)
  rw [aA4 (by omega),aEa,y3,aAg,aG1 (by omega),aAg,Wq2 (by omega) (by omega),Wm (by omega) (by omega)]
  exact iG hab h8 y1 y2 3 (a + (b - a) / 4 * 2 - 1) d _ (by omega) (by omega) hb hs
 ·rw [aAw (by omega),aDb]
  exact⟨d,rfl,permIn_refl d a b⟩
theorem Tp (hc:Cf cmp lt P) {d:Array Aa} (hd:Bo P d) {x y:Nat} (hx:x < d.size) (hy:y < d.size) (s:Int) :
  ∃ (x' y':Nat) (s':Int),Ek d.toList (x:Int) (y:Int) s cmp=some ((x':Int),(y':Int),s')/\(x'=x/\y'=y\/x'=y/\y'=x):=by
 obtain⟨m,m1,m2⟩:=Mq hc hd (i:=y) (j:=x) hy hx
 unfold Ek
 rw [Fb (i:=y) hy rfl,aAg,Fb (i:=x) hx rfl,aAg,m1,aAg]
 cases decide (m < 0) with
 | true=>exact⟨y,x,_,rfl,Or.inr ⟨rfl,rfl⟩⟩
 | false=>exact⟨x,y,_,rfl,Or.inl ⟨rfl,rfl⟩⟩
theorem bP (hc:Cf cmp lt P) {d:Array Aa} (hd:Bo P d) {x y z:Nat} (hx:x < d.size) (hy:y < d.size) (hz:z < d.size) (s:Int) :
  ∃ (x':Nat) (s':Int),Fh d.toList (x:Int) (y:Int) (z:Int) s cmp=some ((x':Int),s')/\(x'=x\/x'=y\/x'=z):=by
 obtain⟨p1,p2,s1,h1,k1⟩:=Tp hc hd hx hy s
 unfold Fh
 rw [h1,aAg]
 obtain⟨q1,q2,s2,h2,k2⟩:=Tp hc hd (x:=p2) (y:=z) (by omega) hz s1
 simp only []
 rw [h2,aAg]
 obtain⟨r1,r2,s3,h3,k3⟩:=Tp hc hd (x:=p1) (y:=q1) (by omega) (by omega) s2
 simp only []
 rw [h3,aAg]
 exact⟨r2,s3,rfl,by omega⟩
theorem Ud (hc:Cf cmp lt P) {d:Array Aa} (hd:Bo P d) {x:Nat} (h0:0 < x) (hx:x + 1 < d.size) (s:Int) :
  ∃ (x':Nat) (s':Int),Dk d.toList (x:Int) s cmp=some ((x':Int),s')/\(x'=x - 1\/x'=x\/x'=x + 1):=by
 have hsz:=hd.1
 obtain⟨p,s1,h1,k1⟩:=bP hc hd (x:=x - 1) (y:=x) (z:=x + 1) (by omega) (by omega) hx s
 unfold Dk
 rw [Wm (by omega) h0,Wp (by omega),h1,aAg]
 exact⟨p,s1,rfl,k1⟩
theorem nX (p:Nat) (s:Int):∃ h:Int,Bf.j2 (p:Int) s=some ((p:Int),h):=by
 unfold Bf.j2
 cases decide (s=0) with
 | true=>exact⟨_,rfl⟩
 | false=>
  cases decide (s=12) with
  | true=>exact⟨_,rfl⟩
  | false=>exact⟨_,rfl⟩
theorem eT (hc:Cf cmp lt P) {d:Array Aa} (hd:Bo P d) {a b:Nat} (h8:8<=b - a) (hb:b<=d.size) :
  ∃ (p:Nat) (h:Int),Bf d.toList (a:Int) (b:Int) cmp=some ((p:Int),h)/\a<=p/\p < b:=by
 have hsz:=hd.1
 have j1:∀ (i j k:Nat) (s:Int),a<=i->i < b->a<=j->j < b->a<=k->k < b->∃ (p:Nat) (h:Int),Bf.j1 d.toList cmp (i:Int) (j:Int) (k:Int) s=some ((p:Int),h)/\a<=p/\p < b:=fun i j k s h1 h2 h3 h4 h5 h6=>by
  obtain⟨p,s1,k1,k2⟩:=bP hc hd (x:=i) (y:=j) (z:=k) (by omega) (by omega) (by omega) s
  unfold Bf.j1
  rw [k1,aAg]
  obtain⟨h,hh⟩:=nX p s1
  exact⟨p,h,hh,by omega,by omega⟩
 unfold Bf
 rw [Wd (by omega) (by omega),aG1 (by omega),aAg,aAg,aAg,aA4 (by omega),aEa]
 generalize hq:(b - a) / 4=q
 rw [Wq1 (by omega) (by omega),Wq2 (by omega) (by omega),Wq3 (by omega) (by omega)]
 by_cases h50:50<=b - a
 ·rw [aA4 (by omega),aEa]
  obtain⟨x1,s1,g1,k1⟩:=Ud hc hd (x:=a + q) (by omega) (by omega) 0
  rw [g1,aAg]
  obtain⟨x2,s2,g2,k2⟩:=Ud hc hd (x:=a + q * 2) (by omega) (by omega) s1
  simp only []
  rw [g2,aAg]
  obtain⟨x3,s3,g3,k3⟩:=Ud hc hd (x:=a + q * 3) (by omega) (by omega) s2
  simp only []
  rw [g3,aAg]
  exact j1 x1 x2 x3 s3 (by omega) (by omega) (by omega) (by omega) (by omega) (by omega)
 ·rw [aAw (by omega),aDb]
  exact j1 (a + q) (a + q * 2) (a + q * 3) 0 (by omega) (by omega) (by omega) (by omega) (by omega) (by omega)
end
end
section
open Go Go.Sort
section
variable {cmp:Aa->Aa->Option Int} {lt:Aa->Aa->Bool} {P:Aa->Prop}
def X9 (lt:Aa->Aa->Bool) (P:Aa->Prop) (Fin:Array Aa->Prop) (s:Int×Int×Int×Bool×Bool×List Aa):Prop:=
 ∃ (d:Array Aa) (a b:Nat),s.1=(a:Int)/\s.2.1=(b:Int)/\s.2.2.2.2.2=d.toList/\a<=b/\b<=d.size/\d.size < 65536/\Bo P d/\Below lt a b d/\∀ R,PermIn a b d R->SortedIn lt a b R->Fin R
def Md (lt:Aa->Aa->Bool) (P:Aa->Prop) (rec:List Aa->Int->Int->Int->Option (List Aa)) (n:Nat):Prop:=
 ∀ (d:Array Aa) (a b:Nat) (lim:Int),a<=b->b<=d.size->d.size < 65536->Bo P d->Below lt a b d->b - a < n->Ok (rec d.toList (a:Int) (b:Int) lim) (fun r=>∃ d',r=d'.toList/\PermIn a b d d'/\SortedIn lt a b d')
abbrev Pd (lt:Aa->Aa->Bool) (P:Aa->Prop) (Fin:Array Aa->Prop) (n:Nat):Lp (Int×Int×Int×Bool×Bool×List Aa) (List Aa)->Prop:=
 Rd' (fun s=>X9 lt P Fin s/\(s.2.1 - s.1).toNat < n) (fun r=>∃ d',r=d'.toList/\Fin d')
variable {Fin:Array Aa->Prop} {rec:List Aa->Int->Int->Int->Option (List Aa)}
theorem Vg (hS:SWO lt) (hc:Cf cmp lt P) {a b pivot:Nat} {d:Array Aa} {wb wp:Bool} {lim:Int} {x:Bool} (hr:Md lt P rec (b - a)) (hab:a < b) (hp1:a<=pivot) (hp2:pivot < b) (hb:b<=d.size) (hs:d.size < 65536) (hd:Bo P d) (hB:Below lt a b d) (hF:∀ R,PermIn a b d R->SortedIn lt a b R->Fin R) (hx:x=true->0 < a/\lt d[a - 1]! d[pivot]! = false) :
  Ok (Ak.j6 rec cmp (a:Int) (b:Int) wb wp lim (pivot:Int) d.toList x) (Pd lt P Fin (b - a)):=by
 unfold Ak.j6
 refine Ok.cond (fun hxt=>?_) (fun _=>?_)
 ·obtain⟨h0,h1⟩:=hx hxt
  rw [sA hc hab hp1 hp2 hb hd,aAg]
  obtain⟨g1,g2,g3,g4,g5⟩:=round_eq (d4:=(partitionEqual lt d a b pivot).2) (mid:=(partitionEqual lt d a b pivot).1) hS (partitionEqual_holds lt) h0 hp1 hp2 hb hB h1 rfl
  have hge:∀ i,a<=i->i < b->lt d[i]! d[pivot]! = false:=fun i hi hi'=>by
   rcases hB with h0 | hB
   ·omega
   ·exact hS.ntrans _ _ _ (hB i hi hi') h1
  have hpm:=(partitionEqual_holds lt hS d a b pivot hp1 hp2 hb hge).2.2.1
  generalize (partitionEqual lt d a b pivot).2=d4 at g3 g4 g5 hpm ⊢
  generalize (partitionEqual lt d a b pivot).1=mid at g1 g2 g4 g5 ⊢
  refine Ok.ret ⟨⟨d4,mid,b,rfl,rfl,rfl,g2,by omega,by omega,hd.perm hb hpm,g4,fun R h2 h3=>?_⟩,?_⟩
  ·obtain⟨k1,k2⟩:=g5 R h2 h3
   exact hF R k1 k2
  ·show (((b:Int)) - (mid:Int)).toNat < b - a
   omega
 ·rw [nO hc hab hp1 hp2 hb hd,aAg]
  obtain⟨g1,g2,g3,g4,g5,g6,g7⟩:=round_part (d4:=(partition lt d a b pivot).2.2) (mid:=(partition lt d a b pivot).1) (ap:=(partition lt d a b pivot).2.1) hS (partition_holds lt) hp1 hp2 hb hB rfl
  have hpm:=(partition_holds lt hS d a b pivot hp1 hp2 hb).2.2.1
  generalize (partition lt d a b pivot).2.2=d4 at g3 g4 g5 g6 g7 hpm ⊢
  generalize (partition lt d a b pivot).2.1=ap
  generalize (partition lt d a b pivot).1=mid at g1 g2 g4 g5 g6 g7 ⊢
  have hd4:=hd.perm hb hpm
  simp only []
  rw [Wd (m:=b) (n:=a) (by omega) (by omega),aO7 (by omega),aAg,Wd (m:=mid) (n:=a) (by omega) (by omega),Wd (m:=b) (n:=mid) (by omega) (by omega),Wp (by omega)]
  refine Ok.cond (fun hm=>?_) (fun hm=>?_)
  ·have hm':=aEk hm
   refine Ok.bind (hr d4 a mid lim g1 (by omega) (by omega) hd4 g4 (by omega)) (fun r hr'=>?_)
   obtain⟨L,rfl,l1,l2⟩:=hr'
   obtain⟨k1,k2⟩:=g6 L l1 l2
   have hz:=l1.1
   refine Ok.ret ⟨⟨L,mid + 1,b,rfl,rfl,rfl,by omega,by omega,by omega,hd4.perm (by omega) l1,k1,fun R h2 h3=>?_⟩,?_⟩
   ·obtain⟨m1,m2⟩:=k2 R h2 h3
    exact hF R m1 m2
   ·show (((b:Int)) - ((mid + 1:Nat):Int)).toNat < b - a
    omega
  ·have hm':=aJb hm
   refine Ok.bind (hr d4 (mid + 1) b lim (by omega) (by omega) (by omega) hd4 g5 (by omega)) (fun r hr'=>?_)
   obtain⟨L,rfl,l1,l2⟩:=hr'
   obtain⟨k1,k2⟩:=g7 L l1 l2
   have hz:=l1.1
   refine Ok.ret ⟨⟨L,a,mid,rfl,rfl,rfl,by omega,by omega,by omega,hd4.perm (by omega) l1,k1,fun R h2 h3=>?_⟩,?_⟩
   ·obtain⟨m1,m2⟩:=k2 R h2 h3
    exact hF R m1 m2
   ·show (((mid:Int)) - (a:Int)).toNat < b - a
    omega
theorem Vu (hS:SWO lt) (hc:Cf cmp lt P) {a b pivot:Nat} {d:Array Aa} {wb wp:Bool} {lim:Int} (hr:Md lt P rec (b - a)) (hab:a < b) (hp1:a<=pivot) (hp2:pivot < b) (hb:b<=d.size) (hs:d.size < 65536) (hd:Bo P d) (hB:Below lt a b d) (hF:∀ R,PermIn a b d R->SortedIn lt a b R->Fin R) :
  Ok (Ak.j5 rec cmp (a:Int) (b:Int) wb wp lim (pivot:Int) d.toList) (Pd lt P Fin (b - a)):=by
 unfold Ak.j5
 refine Ok.cond (fun ha=>?_) (fun _=>Vg hS hc hr hab hp1 hp2 hb hs hd hB hF (fun h=>by cases h))
 have ha':=aEk ha
 rw [Wm (by omega) (by omega)]
 obtain⟨n,n1,n2⟩:=Mq hc hd (i:=a - 1) (j:=pivot) (by omega) (by omega)
 rw [Fb (i:=a - 1) (by omega) rfl,aAg,Fb (i:=pivot) (by omega) rfl,aAg,n1,aAg,n2]
 refine Vg hS hc hr hab hp1 hp2 hb hs hd hB hF (fun h=>⟨by omega,?_⟩)
 cases hl:lt d[a - 1]! d[pivot]! with
 | false=>rfl
 | true=>rw [hl] at h; cases h
theorem Q4 (hS:SWO lt) (hc:Cf cmp lt P) {a b pivot:Nat} {d:Array Aa} {wb wp:Bool} {lim:Int} {x:Bool} (hr:Md lt P rec (b - a)) (hab:a < b) (hp1:a<=pivot) (hp2:pivot < b) (hb:b<=d.size) (hs:d.size < 65536) (hd:Bo P d) (hB:Below lt a b d) (hF:∀ R,PermIn a b d R->SortedIn lt a b R->Fin R) :
  Ok (Ak.j4 rec cmp (a:Int) (b:Int) wb wp lim (pivot:Int) d.toList x) (Pd lt P Fin (b - a)):=by
 unfold Ak.j4
 refine Ok.cond (fun _=>?_) (fun _=>Vu hS hc hr hab hp1 hp2 hb hs hd hB hF)
 rw [cB hc hab hb hd,aAg]
 obtain⟨k1,k2⟩:=partialInsertionSort_holds hS d a b hab hb hB
 generalize partialInsertionSort lt d a b=pi at k1 k2 ⊢
 have hz:pi.1.size=d.size:=k1.1
 have hb':b<=pi.1.size:=by omega
 have hs':pi.1.size < 65536:=by omega
 refine Ok.cond (fun h=>?_) (fun _=>Vu (d:=pi.1) hS hc hr hab hp1 hp2 hb' hs' (hd.perm hb k1) (hB.perm hb k1) (fun R h2 h3=>hF R (permIn_trans _ _ _ a b k1 h2) h3))
 exact Ok.up (Ok.ret ⟨_,rfl,hF _ k1 (k2 h)⟩)
theorem U6 (hS:SWO lt) (hc:Cf cmp lt P) {a b pivot:Nat} {d:Array Aa} {wb wp:Bool} {lim hint:Int} (hr:Md lt P rec (b - a)) (hab:a < b) (hp1:a<=pivot) (hp2:pivot < b) (hb:b<=d.size) (hs:d.size < 65536) (hd:Bo P d) (hB:Below lt a b d) (hF:∀ R,PermIn a b d R->SortedIn lt a b R->Fin R) :
  Ok (Ak.j3 rec cmp (a:Int) (b:Int) wb wp lim (pivot:Int) hint d.toList) (Pd lt P Fin (b - a)):=by
 unfold Ak.j3
 exact Ok.cond (fun _=>Ok.cond (fun _=>Q4 hS hc hr hab hp1 hp2 hb hs hd hB hF) (fun _=>Q4 hS hc hr hab hp1 hp2 hb hs hd hB hF)) (fun _=>Q4 hS hc hr hab hp1 hp2 hb hs hd hB hF)
theorem U1 (hS:SWO lt) (hc:Cf cmp lt P) {a b:Nat} {d:Array Aa} {wb wp:Bool} {lim:Int} (hr:Md lt P rec (b - a)) (h12:12 < b - a) (hb:b<=d.size) (hs:d.size < 65536) (hd:Bo P d) (hB:Below lt a b d) (hF:∀ R,PermIn a b d R->SortedIn lt a b R->Fin R) :
  Ok (Ak.j2 rec cmp (a:Int) (b:Int) wb wp lim d.toList) (Pd lt P Fin (b - a)):=by
 obtain⟨p,h,h1,h2,h3⟩:=eT hc hd (a:=a) (b:=b) (by omega) hb
 unfold Ak.j2
 rw [h1,aAg]
 refine Ok.cond (fun _=>?_) (fun _=>U6 hS hc hr (by omega) h2 h3 hb hs hd hB hF)
 rw [dB (by omega) hb (by omega),aAg]
 have k1:=reverseRange_holds d a b (by omega) hb
 generalize reverseRange d a b=d2 at k1 ⊢
 have hz:=k1.1
 have e:W (W ((b:Int) - 1) - W ((p:Int) - (a:Int)))=((b - 1 - (p - a):Nat):Int):=by
  rw [Wm (by omega) (by omega),Wd (by omega) (by omega),Wd (by omega) (by omega)]
 simp only []
 rw [e]
 clear e
 exact U6 hS hc hr (by omega) (by omega) (by omega) (by omega) (by omega) (hd.perm hb k1) (hB.perm hb k1) (fun R h2 h3=>hF R (permIn_trans _ _ _ a b k1 h2) h3)
theorem eV (hS:SWO lt) (hc:Cf cmp lt P) {a b:Nat} {d:Array Aa} {wb wp:Bool} {lim:Int} (hr:Md lt P rec (b - a)) (hab:a<=b) (hb:b<=d.size) (hs:d.size < 65536) (hd:Bo P d) (hB:Below lt a b d) (hF:∀ R,PermIn a b d R->SortedIn lt a b R->Fin R) :
  Ok (Ak.l1 rec cmp (a:Int) (b:Int) lim wb wp d.toList) (Pd lt P Fin (b - a)):=by
 unfold Ak.l1
 rw [Wd (by omega) hab]
 refine Ok.cond (fun _=>?_) (fun h12=>?_)
 ·rw [Yo hc hab hb hd,aAg]
  obtain⟨k1,k2⟩:=insertionSort_holds hS d a b hab hb
  exact Ok.up (Ok.ret ⟨_,rfl,hF _ k1 k2⟩)
 ·have h12':=aJb h12
  refine Ok.cond (fun _=>?_) (fun _=>?_)
  ·rw [pO hc (by omega) hb hd,aAg]
   obtain⟨k1,k2⟩:=heapSort_holds hS d a b hab hb
   exact Ok.up (Ok.ret ⟨_,rfl,hF _ k1 k2⟩)
  ·refine Ok.cond (fun _=>?_) (fun _=>U1 hS hc hr (by omega) hb hs hd hB hF)
   obtain⟨d1,k0,k1⟩:=kA (cmp:=cmp) (a:=a) (b:=b) (d:=d) (by omega) hb hs
   have hz:=k1.1
   rw [k0,aAg]
   exact U1 hS hc hr (by omega) (by omega) (by omega) (hd.perm hb k1) (hB.perm hb k1) (fun R h2 h3=>hF R (permIn_trans _ _ _ a b k1 h2) h3)
theorem qQ (hS:SWO lt) (hc:Cf cmp lt P) {a b:Nat} {d:Array Aa} {lim:Int} (hab:a<=b) (hb:b<=d.size) (hs:d.size < 65536) (hd:Bo P d) (hB:Below lt a b d) :
  Ok (Ak d.toList (a:Int) (b:Int) lim cmp) (fun r=>∃ d',r=d'.toList/\PermIn a b d d'/\SortedIn lt a b d'):=by
 unfold Ak
 refine (aGy (Nn (cmp:=cmp)) (fun x=>(x.2.2.1 - x.2.1).toNat)
  (fun x=>∃ (d:Array Aa) (a b:Nat),x.1=d.toList/\x.2.1=(a:Int)/\x.2.2.1=(b:Int)/\a<=b/\b<=d.size/\d.size < 65536/\Bo P d/\Below lt a b d)
  (fun x r=>∀ (d:Array Aa) (a b:Nat),x.1=d.toList->x.2.1=(a:Int)->x.2.2.1=(b:Int)->∃ d',r=d'.toList/\PermIn a b d d'/\SortedIn lt a b d') ?_ _ ⟨d,a,b,rfl,rfl,rfl,hab,hb,hs,hd,hB⟩).mono (fun r hr=>hr d a b rfl rfl rfl)
 rintro rec ⟨l,a',b',lim'⟩ ⟨d,a,b,h1,h2,h3,hab,hb,hs,hd,hB⟩ ih
 have h1:l=d.toList:=h1
 have h2:a'=(a:Int):=h2
 have h3:b'=(b:Int):=h3
 subst h1 h2 h3
 have hr:Md lt P (fun data a b limit=>rec (data,a,b,limit)) (b - a):=fun d2 a2 b2 lim2 k1 k2 k3 k4 k5 k6=>
  (ih (d2.toList,(a2:Int),(b2:Int),lim2) ⟨d2,a2,b2,rfl,rfl,rfl,k1,k2,k3,k4,k5⟩ (by show (((b2:Int)) - (a2:Int)).toNat < (((b:Int)) - (a:Int)).toNat; omega)).mono (fun r hr=>hr d2 a2 b2 rfl rfl rfl)
 have main:Ok (Ak.F (fun data a b limit=>rec (data,a,b,limit)) d.toList (a:Int) (b:Int) lim' cmp) (fun r=>∃ d',r=d'.toList/\(PermIn a b d d'/\SortedIn lt a b d')):=by
  unfold Ak.F
  refine Ok.loop (fun s=>X9 lt P (fun R=>PermIn a b d R/\SortedIn lt a b R) s/\(s.2.1 - s.1).toNat<=b - a) (fun s=>(s.2.1 - s.1).toNat) ?_ ⟨⟨d,a,b,rfl,rfl,rfl,hab,hb,hs,hd,hB,fun R h1 h2=>⟨h1,h2⟩⟩,?_⟩
  ·rintro⟨sa,sb,sl,wb,wp,dl⟩ ⟨⟨d3,a3,b3,e1,e2,e3,k1,k2,k3,k4,k5,k6⟩,hm⟩
   have e1:sa=(a3:Int):=e1
   have e2:sb=(b3:Int):=e2
   have e3:dl=d3.toList:=e3
   subst e1 e2 e3
   have hm:(((b3:Int)) - (a3:Int)).toNat<=b - a:=hm
   refine (eV hS hc (fun d2 a2 b2 lim2 q1 q2 q3 q4 q5 q6=>hr d2 a2 b2 lim2 q1 q2 q3 q4 q5 (by omega)) k1 k2 k3 k4 k5 k6).mono (fun o ho=>?_)
   have em:(((b3:Int)) - (a3:Int)).toNat=b3 - a3:=by omega
   cases o with
   | done r=>exact ho
   | next s=>
    obtain⟨ho1,ho2⟩:=ho
    refine⟨⟨ho1,by omega⟩,?_⟩
    show (s.2.1 - s.1).toNat < (((b3:Int)) - (a3:Int)).toNat
    omega
  ·show (((b:Int)) - (a:Int)).toNat<=b - a
   omega
 refine main.mono (fun r hr d2 a2 b2 e1 e2 e3=>?_)
 have e1:d.toList=d2.toList:=e1
 have e2:(a:Int)=(a2:Int):=e2
 have e3:(b:Int)=(b2:Int):=e3
 obtain rfl:d=d2:=bBi.1 e1
 obtain rfl:a=a2:=by omega
 obtain rfl:b=b2:=by omega
 exact hr
theorem kS (hS:SWO lt) (hc:Cf cmp lt P) (l:List Aa) (hl:l.length < 65536) (hP:∀ x∈l,P x) :
  Ok (Dr l cmp) (fun r=>r.Perm l/\r.Pairwise (fun x y=>lt y x=false)):=by
 obtain⟨L,_,_,_,h4⟩:=aD1 l.length hl
 unfold Dr
 rw [Sv (by omega),h4,aAg]
 have hsz:l.toArray.size=l.length:=by simp
 have hA:Bo P l.toArray:=⟨by omega,fun i hi=>by
  rw [bAu l.toArray i hi]
  exact hP _ (by simp)⟩
 have h:=qQ hS hc (a:=0) (b:=l.toArray.size) (d:=l.toArray) (lim:=(L:Int)) (aOm _) (aJf _) (by omega) hA (Or.inl rfl)
 rw [hsz] at h
 have e:((0:Nat):Int)=0:=rfl
 rw [e] at h
 refine Ok.bind h (fun r hr=>?_)
 obtain⟨d',rfl,k1,k2⟩:=hr
 have hz:=k1.1
 refine Ok.ret ⟨?_,?_⟩
 ·have:=k1.2.2
  have e1:d'.extract 0 l.length=d':=by
   rw [<- hsz,<- hz]; exact Array.extract_size
  have e2:l.toArray.extract 0 l.length=l.toArray:=by
   rw [<- hsz]; exact Array.extract_size
  rw [e1,e2] at this
  exact this
 ·rw [aV6]
  intro i j hi hj hij
  have hi':i < d'.size:=by simpa using hi
  have hj':j < d'.size:=by simpa using hj
  have:=k2 i j (aOm _) hij (by omega)
  rw [bAu d' i hi',bAu d' j hj'] at this
  simpa using this
def Vi:Nat:=65535
theorem jU (hS:SWO lt) (hc:Cf cmp lt P) (l:List Aa) (hl:l.length<=Vi) (hP:∀ x∈l,P x) :
  Ok (Dr l cmp) (fun r=>r.Perm l/\r.Pairwise (fun x y=>lt y x=false)):=kS hS hc l (by unfold Vi at hl; omega) hP
end
end
end Go.Proofs.YtobamahlipiakaaGreat
