import Derived.Test.YtkioneinddihlaaGreatL3
import Derived.Test.YtkioneinddihlaaGreatC1
import Derived.Sort.AssemblyPlain
set_option linter.unusedVariables false
set_option linter.unusedSimpArgs false
namespace Go.Proofs.YtkioneinddihlaaGreat
open Go Go.Sort
theorem lH {α γ:Type} [Inhabited α] {body:Int->Option (Lp Int γ)} {J:Nat->Bool->Option (Lp Int γ)} {K:Nat->Option γ} {p:α->Bool} {D:Array α} {i0 j:Nat} (hj:j < 1000000000)
  (hb:∀ i:Nat,i0<=i->i<=j + 1->body (i:Int)=J i (decide (i<=j) && p D[i]!)) (ht:∀ i:Nat,J i true=some (.next (W ((i:Int) + 1)))) (hf:∀ i:Nat,i0<=i->i<=j + 1->J i false=up (K i)) :
  ∀ n i,j + 1 - i=n->i0<=i->i<=j + 1->B1 body (i:Int)=K (scanUp p D j i):=by
 intro n
 induction n with
 | zero=>
  intro i hn h0 hi
  have hc:(decide (i<=j) && p D[i]!)=false:=by rw [aAk (by omega),aLj]
  rw [scanUp,if_neg (by rw [hc]; simp)]
  exact D8 (by rw [hb i h0 hi,hc,hf i h0 hi])
 | succ n ih=>
  intro i hn h0 hi
  rw [scanUp]
  cases hc:(decide (i<=j) && p D[i]!) with
  | false=>
   rw [if_neg (by simp)]
   exact D8 (by rw [hb i h0 hi,hc,hf i h0 hi])
  | true=>
   rw [if_pos rfl]
   have e1:body (i:Int)=some (.next ((i + 1:Nat):Int)):=by rw [hb i h0 hi,hc,ht,Ia (by omega)]
   rw [En e1]
   exact ih (i + 1) (by omega) (by omega) (by omega)
theorem eR {α γ:Type} [Inhabited α] {body:Int->Option (Lp Int γ)} {J:Nat->Bool->Option (Lp Int γ)} {K:Nat->Option γ} {p:α->Bool} {D:Array α} {i j0:Nat} (hi:1<=i) (hj0:j0 < 1000000000)
  (hb:∀ j:Nat,i<=j + 1->j<=j0->body (j:Int)=J j (decide (i<=j) && p D[j]!)) (ht:∀ j:Nat,J j true=some (.next (W ((j:Int) - 1)))) (hf:∀ j:Nat,i<=j + 1->j<=j0->J j false=up (K j)) :
  ∀ j:Nat,i<=j + 1->j<=j0->B1 body (j:Int)=K (scanDown p D i j)
 | 0,h1,h2=>by
  have hc:(decide (i<=0) && p D[0]!)=false:=by rw [aAk (by omega),aLj]
  rw [scanDown]
  exact D8 (by rw [hb 0 h1 h2,hc,hf 0 h1 h2])
 | j + 1,h1,h2=>by
  rw [scanDown]
  cases hc:(decide (i<=j + 1) && p D[j + 1]!) with
  | false=>
   rw [if_neg (by simp)]
   exact D8 (by rw [hb (j + 1) h1 h2,hc,hf (j + 1) h1 h2])
  | true=>
   rw [if_pos rfl]
   have h3:i<=j + 1:=by
    rw [aEs] at hc
    exact aCe hc.1
   have e1:body ((j + 1:Nat):Int)=some (.next (j:Int)):=by
    have e2:W (((j + 1:Nat):Int) - 1)=(j:Int):=by rw [Db (by omega)]; omega
    rw [hb (j + 1) h1 h2,hc,ht,e2]
   rw [En e1]
   exact eR hi hj0 hb ht hf j (by omega) (by omega)
theorem aD9 {α γ:Type} [Inhabited α] {body:Int->Option (Lp Int γ)} {J:Nat->Bool->Option (Lp Int γ)} {K:Nat->Option γ} {lt:α->α->Bool} {D:Array α} {i0 b:Nat} (hb0:b < 2000000000)
  (hb:∀ i:Nat,i0<=i->i<=b->body (i:Int)=J i (decide (i < b) && !lt D[i]! D[i - 1]!)) (ht:∀ i:Nat,J i true=some (.next (W ((i:Int) + 1)))) (hf:∀ i:Nat,i0<=i->i<=b->J i false=up (K i)) :
  ∀ n i,b - i=n->i0<=i->i<=b->B1 body (i:Int)=K (scanSorted lt D b i):=by
 intro n
 induction n with
 | zero=>
  intro i hn h0 hi
  have hc:(decide (i < b) && !lt D[i]! D[i - 1]!)=false:=by rw [aAk (by omega),aLj]
  rw [scanSorted,if_neg (by rw [hc]; simp)]
  exact D8 (by rw [hb i h0 hi,hc,hf i h0 hi])
 | succ n ih=>
  intro i hn h0 hi
  rw [scanSorted]
  cases hc:(decide (i < b) && !lt D[i]! D[i - 1]!) with
  | false=>
   rw [if_neg (by simp)]
   exact D8 (by rw [hb i h0 hi,hc,hf i h0 hi])
  | true=>
   rw [if_pos rfl]
   have e1:body (i:Int)=some (.next ((i + 1:Nat):Int)):=by rw [hb i h0 hi,hc,ht,Ia (by omega)]
   rw [En e1]
   exact ih (i + 1) (by omega) (by omega) (by omega)
theorem aR {α:Type} [Inhabited α] (lt:α->α->Bool) (D:Array α) (b:Nat):∀ n i,b - i=n->i<=b->i<=scanSorted lt D b i/\scanSorted lt D b i<=b:=by
 intro n
 induction n with
 | zero=>
  intro i hn hi
  rw [scanSorted,if_neg (by rw [aAk (by omega),aLj]; simp)]
  exact⟨aHy _,hi⟩
 | succ n ih=>
  intro i hn hi
  rw [scanSorted]
  split
  ·have:=ih (i + 1) (by omega) (by omega)
   omega
  ·exact⟨aHy _,hi⟩
theorem Wp {n:Nat} (h:n < 4000000000):W ((n:Int) + 1)=((n + 1:Nat):Int):=Ia (by omega)
theorem Wm {n:Nat} (h:n < 4000000000) (h0:0 < n):W ((n:Int) - 1)=((n - 1:Nat):Int):=by rw [Db (by omega)]; omega
theorem Wd {m n:Nat} (h:m < 4000000000) (h0:n<=m):W ((m:Int) - (n:Int))=((m - n:Nat):Int):=by rw [Db (by omega)]; omega
theorem xP {n:Nat} (h:n < 4000000000):Ml (n:Int) 4=some ((n / 4:Nat):Int):=by
 unfold Ml
 rw [if_neg (by omega),Db]
 ·rfl
 ·have:(n:Int).tdiv 4=((n / 4:Nat):Int):=rfl
  rw [this]
  omega
theorem aGv {n:Nat} (h:n < 4000000000):Ml (n:Int) 8=some ((n / 8:Nat):Int):=by
 unfold Ml
 rw [if_neg (by omega),Db]
 ·rfl
 ·have:(n:Int).tdiv 8=((n / 8:Nat):Int):=rfl
  rw [this]
  omega
theorem Wq1 {a q:Nat} (h:a < 4000000000) (k:q < 4000000000):W ((a:Int) + W ((q:Int) * 1))=((a + q:Nat):Int):=by
 rw [Db (x:=(q:Int) * 1) (by omega),Db (by omega)]; omega
theorem Wq2 {a q:Nat} (h:a < 4000000000) (k:q < 4000000000):W ((a:Int) + W ((q:Int) * 2))=((a + q * 2:Nat):Int):=by
 rw [Db (x:=(q:Int) * 2) (by omega),Db (by omega)]; omega
theorem Wq3 {a q:Nat} (h:a < 4000000000) (k:q < 4000000000):W ((a:Int) + W ((q:Int) * 3))=((a + q * 3:Nat):Int):=by
 rw [Db (x:=(q:Int) * 3) (by omega),Db (by omega)]; omega
theorem vL {x:Int} (hx:0<=x) (k:Nat) (hk:k<=64):S0 .u64 x (k:Int)=some (x / 2 ^ k):=by
 unfold S0
 rw [if_neg (by omega)]
 have e:min ((k:Int)).toNat IntKind.u64.bits=k:=by
  show min ((k:Int)).toNat 64=k
  omega
 rw [e,aPi _ (Int.le_of_lt (Int.pow_pos (by decide)))]
noncomputable def sW (x:Nat):Bool:=match Bu.j3 (x:Int) 0 with | some L=>decide (0<=L/\L<=8/\x < 2 ^ L.toNat/\(x=0\/2 ^ L.toNat<=2 * x)) | none=>false
theorem kE:(List.range 256).all sW=true:=by decide +kernel
theorem aD0 (x n:Int):Bu.j3 x n=(Bu.j3 x 0).bind fun c=>some (W (n + c)):=by
 unfold Bu.j3
 cases idxT _ ((u8 x).toNat:Int) with
 | none=>rfl
 | some c=>
  have:=c.toNat_lt
  show some (W (n + (c.toNat:Int)))=some (W (n + W (0 + (c.toNat:Int))))
  rw [Db (x:=0 + (c.toNat:Int)) (by omega),Int.zero_add]
theorem aAi (x:Nat) (hx:x < 256):∃ L:Nat,L<=8/\x < 2 ^ L/\(x=0\/2 ^ L<=2 * x)/\∀ n:Nat,n < 1000->Bu.j3 (x:Int) (n:Int)=some ((n + L:Nat):Int):=by
 have h:=aHf.1 kE x (aPb.2 hx)
 unfold sW at h
 cases hj:Bu.j3 (x:Int) 0 with
 | none=>rw [hj] at h; cases h
 | some L=>
  rw [hj] at h
  obtain⟨h1,h2,h3,h4⟩:=aCe h
  refine⟨L.toNat,by omega,h3,h4,fun n hn=>?_⟩
  rw [aD0,hj,aAc,Db (by omega)]
  exact congrArg some (by omega)
theorem tW (x:Nat) (hx:x < 65536):∃ L:Nat,L<=16/\x < 2 ^ L/\(x=0\/2 ^ L<=2 * x)/\He (x:Int)=some (L:Int):=by
 by_cases h:x < 256
 ·obtain⟨L,h1,h2,h3,h4⟩:=aAi x h
  refine⟨L,by omega,h2,h3,?_⟩
  have h5:Bu.j3 (x:Int) 0=some (L:Int):=by
   have h6:=h4 0 (by omega)
   rw [aI4] at h6
   exact h6
  unfold He Bu Bu.j1 Bu.j2
  rw [aAk (by omega),aD6,aAk (by omega),aD6,aAk (by omega),aD6]
  rw [h5,aAc]
 ·obtain⟨L,h1,h2,h3,h4⟩:=aAi (x / 256) (by omega)
  refine⟨8 + L,by omega,?_,?_,?_⟩
  ·rw [Nat.pow_add]; omega
  ·rw [Nat.pow_add]; omega
  ·have h5:=h4 8 (by omega)
   unfold He Bu Bu.j1 Bu.j2
   rw [aAk (by omega),aD6,aAk (by omega),aD6,aAg (by omega),aEw]
   have e:S0 .u64 (x:Int) 8=some ((x / 256:Nat):Int):=by
    rw [show (8:Int)=((8:Nat):Int) from rfl,vL (by omega) 8 (by omega)]
    rfl
   rw [e,aAc,show W (0 + 8)=((8:Nat):Int) from rfl,h5,aAc]
theorem Rc {x:Int} (h:0<=x/\x < 18446744073709551616):IntKind.u64.wrap x=x:=by
 have e:IntKind.u64.wrap x=x % 18446744073709551616:=by simp [IntKind.wrap,IntKind.bits,IntKind.signed]
 rw [e]; omega
theorem yZ (x:Nat) (h0:0 < x) (hx:x < 65536):∃ y:Nat,x < y/\y<=2 * x/\F7 (x:Int)=some (y:Int):=by
 obtain⟨L,h1,h2,h3,h4⟩:=tW x hx
 refine⟨2 ^ L,h2,by omega,?_⟩
 unfold F7
 rw [Rc (by omega),h4,aAc]
 have e:bG .u64 1 (L:Int)=some ((2 ^ L:Nat):Int):=by
  unfold bG
  rw [if_neg (by omega)]
  have e1:min ((L:Int)).toNat IntKind.u64.bits=L:=by
   show min ((L:Int)).toNat 64=L
   omega
  have e2:(1:Int) * 2 ^ L=((2 ^ L:Nat):Int):=by simp
  rw [e1,e2,Rc]
  have:2 ^ L<=2 ^ 16:=Nat.pow_le_pow_right (by omega) h1
  omega
 rw [e]
 rfl
theorem aEf (r:Int):∃ z:Int×Int,Gg r=some z:=by
 unfold Gg
 have e1:∀ x:Int,∃ q,bG .u64 x 13=some q:=fun x=>⟨_,if_neg (by decide)⟩
 have e2:∀ x:Int,∃ q,S0 .u64 x 7=some q:=fun x=>⟨_,if_neg (by decide)⟩
 have e3:∀ x:Int,∃ q,bG .u64 x 17=some q:=fun x=>⟨_,if_neg (by decide)⟩
 obtain⟨q,h⟩:=e1 r
 rw [h,aAc]
 obtain⟨q2,h2⟩:=e2 (Qj .u64 r q)
 rw [h2,aAc]
 obtain⟨q3,h3⟩:=e3 (Qj .u64 (Qj .u64 r q) q2)
 rw [h3,aAc]
 exact⟨_,rfl⟩
theorem aCg (r:Int) (y:Nat) (hy:y < 1000000):∃ z:Nat,z<=y/\W (nP .u64 r (IntKind.u64.wrap (y:Int)))=(z:Int):=by
 refine⟨(BitVec.ofInt 64 r &&& BitVec.ofInt 64 (y:Int)).toNat,?_,?_⟩
 ·rw [BitVec.toNat_and]
  refine aH4 Nat.and_le_right ?_
  rw [BitVec.toNat_ofInt]
  omega
 ·have h:(BitVec.ofInt 64 r &&& BitVec.ofInt 64 (y:Int)).toNat<=y:=by
   rw [BitVec.toNat_and]
   refine aH4 Nat.and_le_right ?_
   rw [BitVec.toNat_ofInt]
   omega
  rw [Rc (by omega)]
  show W (IntKind.u64.wrap ((BitVec.ofInt 64 r &&& BitVec.ofInt 64 (y:Int)).toNat:Int))=_
  rw [Rc (by omega),Db (by omega)]
end Go.Proofs.YtkioneinddihlaaGreat
