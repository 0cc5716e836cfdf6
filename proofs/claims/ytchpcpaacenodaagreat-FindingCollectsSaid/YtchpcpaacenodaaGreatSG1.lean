import Derived.Test.YtchpcpaacenodaaGreatL3
import Derived.Test.YtchpcpaacenodaaGreatC1
import Derived.Sort.AssemblyPlain
set_option linter.unusedVariables false
set_option linter.unusedSimpArgs false
namespace Go.Proofs.YtchpcpaacenodaaGreat
open Go Go.Sort
theorem lC {α γ:Type} [Inhabited α] {body:Int->Option (Lp Int γ)} {J:Nat->Bool->Option (Lp Int γ)} {K:Nat->Option γ} {p:α->Bool} {D:Array α} {i0 j:Nat} (hj:j < 1000000000)
  (hb:∀ i:Nat,i0<=i->i<=j + 1->body (i:Int)=J i (decide (i<=j) && p D[i]!)) (ht:∀ i:Nat,J i true=some (.next (W ((i:Int) + 1)))) (hf:∀ i:Nat,i0<=i->i<=j + 1->J i false=up (K i)) :
  ∀ n i,j + 1 - i=n->i0<=i->i<=j + 1->Cl body (i:Int)=K (scanUp p D j i):=by
 intro n
 induction n with
 | zero=>
  intro i hn h0 hi
  have hc:(decide (i<=j) && p D[i]!)=false:=by rw [aAg (by omega),aIh]
  rw [scanUp,if_neg (by rw [hc]; simp)]
  exact D0 (by rw [hb i h0 hi,hc,hf i h0 hi])
 | succ n ih=>
  intro i hn h0 hi
  rw [scanUp]
  cases hc:(decide (i<=j) && p D[i]!) with
  | false=>
   rw [if_neg (by simp)]
   exact D0 (by rw [hb i h0 hi,hc,hf i h0 hi])
  | true=>
   rw [if_pos rfl]
   have e1:body (i:Int)=some (.next ((i + 1:Nat):Int)):=by rw [hb i h0 hi,hc,ht,Iq (by omega)]
   rw [Ej e1]
   exact ih (i + 1) (by omega) (by omega) (by omega)
theorem gJ {α γ:Type} [Inhabited α] {body:Int->Option (Lp Int γ)} {J:Nat->Bool->Option (Lp Int γ)} {K:Nat->Option γ} {p:α->Bool} {D:Array α} {i j0:Nat} (hi:1<=i) (hj0:j0 < 1000000000)
  (hb:∀ j:Nat,i<=j + 1->j<=j0->body (j:Int)=J j (decide (i<=j) && p D[j]!)) (ht:∀ j:Nat,J j true=some (.next (W ((j:Int) - 1)))) (hf:∀ j:Nat,i<=j + 1->j<=j0->J j false=up (K j)) :
  ∀ j:Nat,i<=j + 1->j<=j0->Cl body (j:Int)=K (scanDown p D i j)
 | 0,h1,h2=>by
  have hc:(decide (i<=0) && p D[0]!)=false:=by rw [aAg (by omega),aIh]
  rw [scanDown]
  exact D0 (by rw [hb 0 h1 h2,hc,hf 0 h1 h2])
 | j + 1,h1,h2=>by
  rw [scanDown]
  cases hc:(decide (i<=j + 1) && p D[j + 1]!) with
  | false=>
   rw [if_neg (by simp)]
   exact D0 (by rw [hb (j + 1) h1 h2,hc,hf (j + 1) h1 h2])
  | true=>
   rw [if_pos rfl]
   have h3:i<=j + 1:=by
    rw [aGc] at hc
    exact aCl hc.1
   have e1:body ((j + 1:Nat):Int)=some (.next (j:Int)):=by
    have e2:W (((j + 1:Nat):Int) - 1)=(j:Int):=by rw [Es (by omega)]; omega
    rw [hb (j + 1) h1 h2,hc,ht,e2]
   rw [Ej e1]
   exact gJ hi hj0 hb ht hf j (by omega) (by omega)
theorem aA3 {α γ:Type} [Inhabited α] {body:Int->Option (Lp Int γ)} {J:Nat->Bool->Option (Lp Int γ)} {K:Nat->Option γ} {lt:α->α->Bool} {D:Array α} {i0 b:Nat} (hb0:b < 2000000000)
  (hb:∀ i:Nat,i0<=i->i<=b->body (i:Int)=J i (decide (i < b) && !lt D[i]! D[i - 1]!)) (ht:∀ i:Nat,J i true=some (.next (W ((i:Int) + 1)))) (hf:∀ i:Nat,i0<=i->i<=b->J i false=up (K i)) :
  ∀ n i,b - i=n->i0<=i->i<=b->Cl body (i:Int)=K (scanSorted lt D b i):=by
 intro n
 induction n with
 | zero=>
  intro i hn h0 hi
  have hc:(decide (i < b) && !lt D[i]! D[i - 1]!)=false:=by rw [aAg (by omega),aIh]
  rw [scanSorted,if_neg (by rw [hc]; simp)]
  exact D0 (by rw [hb i h0 hi,hc,hf i h0 hi])
 | succ n ih=>
  intro i hn h0 hi
  rw [scanSorted]
  cases hc:(decide (i < b) && !lt D[i]! D[i - 1]!) with
  | false=>
   rw [if_neg (by simp)]
   exact D0 (by rw [hb i h0 hi,hc,hf i h0 hi])
  | true=>
   rw [if_pos rfl]
   have e1:body (i:Int)=some (.next ((i + 1:Nat):Int)):=by rw [hb i h0 hi,hc,ht,Iq (by omega)]
   rw [Ej e1]
   exact ih (i + 1) (by omega) (by omega) (by omega)
theorem cS {α:Type} [Inhabited α] (lt:α->α->Bool) (D:Array α) (b:Nat):∀ n i,b - i=n->i<=b->i<=scanSorted lt D b i/\scanSorted lt D b i<=b:=by
 intro n
 induction n with
 | zero=>
  intro i hn hi
  rw [scanSorted,if_neg (by rw [aAg (by omega),aIh]; simp)]
  exact⟨aGz _,hi⟩
 | succ n ih=>
  intro i hn hi
  rw [scanSorted]
  split
  ·have:=ih (i + 1) (by omega) (by omega)
   omega
  ·exact⟨aGz _,hi⟩
theorem Wp {n:Nat} (h:n < 4000000000):W ((n:Int) + 1)=((n + 1:Nat):Int):=Iq (by omega)
theorem Wm {n:Nat} (h:n < 4000000000) (h0:0 < n):W ((n:Int) - 1)=((n - 1:Nat):Int):=by rw [Es (by omega)]; omega
theorem Wd {m n:Nat} (h:m < 4000000000) (h0:n<=m):W ((m:Int) - (n:Int))=((m - n:Nat):Int):=by rw [Es (by omega)]; omega
theorem wD {n:Nat} (h:n < 4000000000):M1 (n:Int) 4=some ((n / 4:Nat):Int):=by
 unfold M1
 rw [if_neg (by omega),Es]
 ·rfl
 ·have:(n:Int).tdiv 4=((n / 4:Nat):Int):=rfl
  rw [this]
  omega
theorem aFq {n:Nat} (h:n < 4000000000):M1 (n:Int) 8=some ((n / 8:Nat):Int):=by
 unfold M1
 rw [if_neg (by omega),Es]
 ·rfl
 ·have:(n:Int).tdiv 8=((n / 8:Nat):Int):=rfl
  rw [this]
  omega
theorem Wq1 {a q:Nat} (h:a < 4000000000) (k:q < 4000000000):W ((a:Int) + W ((q:Int) * 1))=((a + q:Nat):Int):=by
 rw [Es (x:=(q:Int) * 1) (by omega),Es (by omega)]; omega
theorem Wq2 {a q:Nat} (h:a < 4000000000) (k:q < 4000000000):W ((a:Int) + W ((q:Int) * 2))=((a + q * 2:Nat):Int):=by
 rw [Es (x:=(q:Int) * 2) (by omega),Es (by omega)]; omega
theorem Wq3 {a q:Nat} (h:a < 4000000000) (k:q < 4000000000):W ((a:Int) + W ((q:Int) * 3))=((a + q * 3:Nat):Int):=by
 rw [Es (x:=(q:Int) * 3) (by omega),Es (by omega)]; omega
theorem yV {x:Int} (hx:0<=x) (k:Nat) (hk:k<=64):Qc .u64 x (k:Int)=some (x / 2 ^ k):=by
 unfold Qc
 rw [if_neg (by omega)]
 have e:min ((k:Int)).toNat IntKind.u64.bits=k:=by
  show min ((k:Int)).toNat 64=k
  omega
 rw [e,aJt _ (Int.le_of_lt (Int.pow_pos (by decide)))]
noncomputable def vK (x:Nat):Bool:=match Bp.j3 (x:Int) 0 with | some L=>decide (0<=L/\L<=8/\x < 2 ^ L.toNat/\(x=0\/2 ^ L.toNat<=2 * x)) | none=>false
theorem kQ:(List.range 256).all vK=true:=by decide +kernel
theorem aCt (x n:Int):Bp.j3 x n=(Bp.j3 x 0).bind fun c=>some (W (n + c)):=by
 unfold Bp.j3
 cases gW _ ((u8 x).toNat:Int) with
 | none=>rfl
 | some c=>
  have:=c.toNat_lt
  show some (W (n + (c.toNat:Int)))=some (W (n + W (0 + (c.toNat:Int))))
  rw [Es (x:=0 + (c.toNat:Int)) (by omega),Int.zero_add]
theorem aAf (x:Nat) (hx:x < 256):∃ L:Nat,L<=8/\x < 2 ^ L/\(x=0\/2 ^ L<=2 * x)/\∀ n:Nat,n < 1000->Bp.j3 (x:Int) (n:Int)=some ((n + L:Nat):Int):=by
 have h:=aGf.1 kQ x (aI6.2 hx)
 unfold vK at h
 cases hj:Bp.j3 (x:Int) 0 with
 | none=>rw [hj] at h; cases h
 | some L=>
  rw [hj] at h
  obtain⟨h1,h2,h3,h4⟩:=aCl h
  refine⟨L.toNat,by omega,h3,h4,fun n hn=>?_⟩
  rw [aCt,hj,aAc,Es (by omega)]
  exact congrArg some (by omega)
theorem vM (x:Nat) (hx:x < 65536):∃ L:Nat,L<=16/\x < 2 ^ L/\(x=0\/2 ^ L<=2 * x)/\Hu (x:Int)=some (L:Int):=by
 by_cases h:x < 256
 ·obtain⟨L,h1,h2,h3,h4⟩:=aAf x h
  refine⟨L,by omega,h2,h3,?_⟩
  have h5:Bp.j3 (x:Int) 0=some (L:Int):=by
   have h6:=h4 0 (by omega)
   rw [aH7] at h6
   exact h6
  unfold Hu Bp Bp.j1 Bp.j2
  rw [aAg (by omega),aCx,aAg (by omega),aCx,aAg (by omega),aCx]
  rw [h5,aAc]
 ·obtain⟨L,h1,h2,h3,h4⟩:=aAf (x / 256) (by omega)
  refine⟨8 + L,by omega,?_,?_,?_⟩
  ·rw [Nat.pow_add]; omega
  ·rw [Nat.pow_add]; omega
  ·have h5:=h4 8 (by omega)
   unfold Hu Bp Bp.j1 Bp.j2
   rw [aAg (by omega),aCx,aAg (by omega),aCx,aAe (by omega),aD8]
   have e:Qc .u64 (x:Int) 8=some ((x / 256:Nat):Int):=by
    rw [show (8:Int)=((8:Nat):Int) from rfl,yV (by omega) 8 (by omega)]
    rfl
   rw [e,aAc,show W (0 + 8)=((8:Nat):Int) from rfl,h5,aAc]
theorem T9 {x:Int} (h:0<=x/\x < 18446744073709551616):IntKind.u64.wrap x=x:=by
 have e:IntKind.u64.wrap x=x % 18446744073709551616:=by simp [IntKind.wrap,IntKind.bits,IntKind.signed]
 rw [e]; omega
theorem wK (x:Nat) (h0:0 < x) (hx:x < 65536):∃ y:Nat,x < y/\y<=2 * x/\Gb (x:Int)=some (y:Int):=by
 obtain⟨L,h1,h2,h3,h4⟩:=vM x hx
 refine⟨2 ^ L,h2,by omega,?_⟩
 unfold Gb
 rw [T9 (by omega),h4,aAc]
 have e:cK .u64 1 (L:Int)=some ((2 ^ L:Nat):Int):=by
  unfold cK
  rw [if_neg (by omega)]
  have e1:min ((L:Int)).toNat IntKind.u64.bits=L:=by
   show min ((L:Int)).toNat 64=L
   omega
  have e2:(1:Int) * 2 ^ L=((2 ^ L:Nat):Int):=by simp
  rw [e1,e2,T9]
  have:2 ^ L<=2 ^ 16:=Nat.pow_le_pow_right (by omega) h1
  omega
 rw [e]
 rfl
theorem aC5 (r:Int):∃ z:Int×Int,Gp r=some z:=by
 unfold Gp
 have e1:∀ x:Int,∃ q,cK .u64 x 13=some q:=fun x=>⟨_,if_neg (by decide)⟩
 have e2:∀ x:Int,∃ q,Qc .u64 x 7=some q:=fun x=>⟨_,if_neg (by decide)⟩
 have e3:∀ x:Int,∃ q,cK .u64 x 17=some q:=fun x=>⟨_,if_neg (by decide)⟩
 obtain⟨q,h⟩:=e1 r
 rw [h,aAc]
 obtain⟨q2,h2⟩:=e2 (Rq .u64 r q)
 rw [h2,aAc]
 obtain⟨q3,h3⟩:=e3 (Rq .u64 (Rq .u64 r q) q2)
 rw [h3,aAc]
 exact⟨_,rfl⟩
theorem aCb (r:Int) (y:Nat) (hy:y < 1000000):∃ z:Nat,z<=y/\W (jI .u64 r (IntKind.u64.wrap (y:Int)))=(z:Int):=by
 refine⟨(BitVec.ofInt 64 r &&& BitVec.ofInt 64 (y:Int)).toNat,?_,?_⟩
 ·rw [BitVec.toNat_and]
  refine aHw Nat.and_le_right ?_
  rw [BitVec.toNat_ofInt]
  omega
 ·have h:(BitVec.ofInt 64 r &&& BitVec.ofInt 64 (y:Int)).toNat<=y:=by
   rw [BitVec.toNat_and]
   refine aHw Nat.and_le_right ?_
   rw [BitVec.toNat_ofInt]
   omega
  rw [T9 (by omega)]
  show W (IntKind.u64.wrap ((BitVec.ofInt 64 r &&& BitVec.ofInt 64 (y:Int)).toNat:Int))=_
  rw [T9 (by omega),Es (by omega)]
end Go.Proofs.YtchpcpaacenodaaGreat
