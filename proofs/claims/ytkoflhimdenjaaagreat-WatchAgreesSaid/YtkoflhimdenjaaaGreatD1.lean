import Derived.Test.YtkoflhimdenjaaaGreatP1
import Derived.WalkKit
set_option linter.unusedVariables false
set_option linter.unusedSimpArgs false
namespace Go.Proofs.YtkoflhimdenjaaaGreat
open Go
def kI (t:Int):Bool:=decide (1<=t) && decide (t<=255) && (t % 32 != 31)
def mH (t:Int):Bool:=t / 32 % 2 == 1
mutual
def Ai.formed:Ai->Bool
 | .mk t b n es=>kI t && (n == mH t) && !(n && decide (0 < b.length)) && !(!n && decide (0 < es.length)) && Lk es
def Lk:List Ai->Bool
 | []=>true
 | v :: vs=>v.formed && Lk vs
end
theorem Ri:∀ es:List Ai,Lk es=es.all Ai.formed
 | []=>by simp [Lk]
 | v :: vs=>by rw [Lk,Ri vs,List.all_cons]
mutual
def Ai.depth:Ai->Nat
 | .mk _ _ _ es=>Gv es + 1
def Gv:List Ai->Nat
 | []=>0
 | v :: vs=>max v.depth (Gv vs)
end
theorem Si:∀ a b:List Ai,Gv (a ++ b)=max (Gv a) (Gv b)
 | [],b=>by simp [Gv]
 | v :: vs,b=>by rw [aJ4,Gv,Gv,Si vs b,Nat.max_assoc]
theorem U7 {es:List Ai} {k:Nat} {d:Ai} (h:es[k]?=some d):Gv (es.take (k + 1))=max (Gv (es.take k)) d.depth:=by
 obtain⟨hk,e⟩:=aBn.1 h
 rw [aJq hk,Si,e,Gv,Gv,Nat.max_zero]
mutual
def Ai.same:Ai->Ai->Bool
 | .mk t b n es,.mk t' b' n' es'=>t == t' && n == n' && b == b' && mK es es'
def mK:List Ai->List Ai->Bool
 | [],[]=>true
 | v :: vs,u :: us=>v.same u && mK vs us
 | _,_=>false
end
def Kh:List UInt8->List UInt8
 | x :: y :: r=>if (x=0/\y < 128)\/(x=255/\128<=y) then Kh (y :: r) else x :: y :: r
 | l=>l
def pP (n:Int) (k:Nat):List UInt8:=(List.range k).map fun j=>UInt8.ofNat ((IntKind.u64.wrap n).toNat / 2 ^ (56 - 8 * j) % 256)
def rS (n:Int):List UInt8:=Kh (pP n 8)
def Td (n:Int):Ai:=.mk 2 (rS n) false []
theorem eE (n:Int):0<=IntKind.u64.wrap n/\IntKind.u64.wrap n < 18446744073709551616:=by
 rw [IntKind.wrap_u64]; omega
theorem iK:∀ l:List UInt8,(Kh l).length<=l.length
 | []=>by simp [Kh]
 | [_]=>by simp [Kh]
 | x :: y :: r=>by
  rw [Kh]
  split
  ·have:=iK (y :: r); simp at this ⊢; omega
  ·simp
def F4 (n:Int):Nat->Bool
 | 1=>decide (-128<=n/\n < 128)
 | 2=>decide (-32768<=n/\n < 32768)
 | 3=>decide (-8388608<=n/\n < 8388608)
 | 4=>decide (-2147483648<=n/\n < 2147483648)
 | 5=>decide (-549755813888<=n/\n < 549755813888)
 | 6=>decide (-140737488355328<=n/\n < 140737488355328)
 | 7=>decide (-36028797018963968<=n/\n < 36028797018963968)
 | 8=>true
 | _=>false
def Tg (n:Int):Nat:=if F4 n 1 then 1 else if F4 n 2 then 2 else if F4 n 3 then 3 else if F4 n 4 then 4 else if F4 n 5 then 5 else if F4 n 6 then 6 else if F4 n 7 then 7 else 8
def Eb (n:Int) (j:Nat):UInt8:=UInt8.ofNat ((n / 256 ^ j % 256).toNat)
theorem Ev (n:Int) (j:Nat):((Eb n j).toNat:Int)=n / 256 ^ j % 256:=by
 unfold Eb
 have h:0<=n / 256 ^ j % 256/\n / 256 ^ j % 256 < 256:=by omega
 rw [aK4,aKc (by omega)]
 omega
theorem fS (n:Int) (j:Nat) (hj:j<=7):(IntKind.u64.wrap n) / 2 ^ (8 * j) % 256=n / 256 ^ j % 256:=by
 rw [IntKind.wrap_u64]
 match j,hj with
 | 0,_=>simp
 | 1,_=>simp; omega
 | 2,_=>simp; omega
 | 3,_=>simp; omega
 | 4,_=>simp; omega
 | 5,_=>simp; omega
 | 6,_=>simp; omega
 | 7,_=>simp; omega
theorem be8 (n:Int):pP n 8=[Eb n 7,Eb n 6,Eb n 5,Eb n 4,Eb n 3,Eb n 2,Eb n 1,Eb n 0]:=by
 have key:∀ j,j<=7->UInt8.ofNat ((IntKind.u64.wrap n).toNat / 2 ^ (8 * j) % 256)=Eb n j:=by
  intro j hj
  have h:=eE n
  have h2:=fS n j hj
  unfold Eb
  rw [<- h2]
  obtain⟨m,hm⟩:=Int.eq_ofNat_of_zero_le h.1
  rw [hm]
  congr 1
 have h:=fun j hj=>key j hj
 unfold pP
 simp only [List.range,List.range.loop,aJl,List.map_nil]
 rw [<- h 7 (by omega),<- h 6 (by omega),<- h 5 (by omega),<- h 4 (by omega),<- h 3 (by omega),<- h 2 (by omega),<- h 1 (by omega),<- h 0 (by omega)]
theorem Og {x y:UInt8} {r:List UInt8} {c:Bool} (h:(((x.toNat:Int)=0/\(y.toNat:Int) < 128)\/((x.toNat:Int)=255/\(128:Int)<=y.toNat))↔c=true):Kh (x :: y :: r)=if c then Kh (y :: r) else x :: y :: r:=by
 have h1:((x=0/\y < 128)\/(x=255/\128<=y))↔(((x.toNat:Int)=0/\(y.toNat:Int) < 128)\/((x.toNat:Int)=255/\(128:Int)<=y.toNat)):=by
  have e0:x=0↔(x.toNat:Int)=0:=⟨fun e=>by rw [e]; rfl,fun e=>UInt8.toNat.inj (by simp; omega)⟩
  have e1:x=255↔(x.toNat:Int)=255:=⟨fun e=>by rw [e]; rfl,fun e=>UInt8.toNat.inj (by simp; omega)⟩
  have e2:y < 128↔(y.toNat:Int) < 128:=by rw [UInt8.lt_iff_toNat_lt]; simp; omega
  have e3:128<=y↔(128:Int)<=y.toNat:=by rw [UInt8.le_iff_toNat_le]; simp; omega
  rw [e0,e1,e2,e3]
 rw [Kh]
 by_cases hc:c=true
 ·rw [if_pos (h1.2 (h.2 hc)),if_pos hc]
 ·rw [if_neg (fun g=>hc (h.1 (h1.1 g))),if_neg hc]
theorem uW (n:Int) (_h1:-9223372036854775808<=n) (_h2:n<=9223372036854775807) (r:List UInt8):Kh (Eb n 7 :: Eb n 6 :: r)=if F4 n 7 then Kh (Eb n 6 :: r) else Eb n 7 :: Eb n 6 :: r:=by
 refine Og ?_
 rw [Ev,Ev]; unfold F4; simp; omega
theorem uI (n:Int) (h:F4 n 7=true) (r:List UInt8):Kh (Eb n 6 :: Eb n 5 :: r)=if F4 n 6 then Kh (Eb n 5 :: r) else Eb n 6 :: Eb n 5 :: r:=by
 unfold F4 at h; simp at h
 refine Og ?_
 rw [Ev,Ev]; unfold F4; simp; omega
theorem uO (n:Int) (h:F4 n 6=true) (r:List UInt8):Kh (Eb n 5 :: Eb n 4 :: r)=if F4 n 5 then Kh (Eb n 4 :: r) else Eb n 5 :: Eb n 4 :: r:=by
 unfold F4 at h; simp at h
 refine Og ?_
 rw [Ev,Ev]; unfold F4; simp; omega
theorem rC (n:Int) (h:F4 n 5=true) (r:List UInt8):Kh (Eb n 4 :: Eb n 3 :: r)=if F4 n 4 then Kh (Eb n 3 :: r) else Eb n 4 :: Eb n 3 :: r:=by
 unfold F4 at h; simp at h
 refine Og ?_
 rw [Ev,Ev]; unfold F4; simp; omega
theorem qZ (n:Int) (h:F4 n 4=true) (r:List UInt8):Kh (Eb n 3 :: Eb n 2 :: r)=if F4 n 3 then Kh (Eb n 2 :: r) else Eb n 3 :: Eb n 2 :: r:=by
 unfold F4 at h; simp at h
 refine Og ?_
 rw [Ev,Ev]; unfold F4; simp; omega
theorem vE (n:Int) (h:F4 n 3=true) (r:List UInt8):Kh (Eb n 2 :: Eb n 1 :: r)=if F4 n 2 then Kh (Eb n 1 :: r) else Eb n 2 :: Eb n 1 :: r:=by
 unfold F4 at h; simp at h
 refine Og ?_
 rw [Ev,Ev]; unfold F4; simp; omega
theorem sT (n:Int) (h:F4 n 2=true) (r:List UInt8):Kh (Eb n 1 :: Eb n 0 :: r)=if F4 n 1 then Kh (Eb n 0 :: r) else Eb n 1 :: Eb n 0 :: r:=by
 unfold F4 at h; simp at h
 refine Og ?_
 rw [Ev,Ev]; unfold F4; simp; omega
theorem E5 {n:Int} {j:Nat} (hj:1<=j) (h7:j<=6) (h:¬ F4 n (j + 1)=true):¬ F4 n j=true:=by
 match j,hj,h7 with
 | 1,_,_=>unfold F4 at *; simp at *; omega
 | 2,_,_=>unfold F4 at *; simp at *; omega
 | 3,_,_=>unfold F4 at *; simp at *; omega
 | 4,_,_=>unfold F4 at *; simp at *; omega
 | 5,_,_=>unfold F4 at *; simp at *; omega
 | 6,_,_=>unfold F4 at *; simp at *; omega
theorem mE (n:Int) (h1:-9223372036854775808<=n) (h2:n<=9223372036854775807):rS n=(pP n 8).drop (8 - Tg n):=by
 unfold rS
 rw [be8]
 by_cases f7:F4 n 7=true
 ·rw [uW n h1 h2,if_pos f7]
  by_cases f6:F4 n 6=true
  ·rw [uI n f7,if_pos f6]
   by_cases f5:F4 n 5=true
   ·rw [uO n f6,if_pos f5]
    by_cases f4:F4 n 4=true
    ·rw [rC n f5,if_pos f4]
     by_cases f3:F4 n 3=true
     ·rw [qZ n f4,if_pos f3]
      by_cases f2:F4 n 2=true
      ·rw [vE n f3,if_pos f2]
       by_cases f1:F4 n 1=true
       ·rw [sT n f2,if_pos f1]
        rw [Kh]
        ·simp [Tg,f1]
        ·intro x y r h; cases h
       ·rw [sT n f2,if_neg f1]
        simp [Tg,f1,f2]
      ·rw [vE n f3,if_neg f2]
       have f1:=E5 (j:=1) (by omega) (by omega) f2
       simp [Tg,f1,f2,f3]
     ·rw [qZ n f4,if_neg f3]
      have f2:=E5 (j:=2) (by omega) (by omega) f3
      have f1:=E5 (j:=1) (by omega) (by omega) f2
      simp [Tg,f1,f2,f3,f4]
    ·rw [rC n f5,if_neg f4]
     have f3:=E5 (j:=3) (by omega) (by omega) f4
     have f2:=E5 (j:=2) (by omega) (by omega) f3
     have f1:=E5 (j:=1) (by omega) (by omega) f2
     simp [Tg,f1,f2,f3,f4,f5]
   ·rw [uO n f6,if_neg f5]
    have f4:=E5 (j:=4) (by omega) (by omega) f5
    have f3:=E5 (j:=3) (by omega) (by omega) f4
    have f2:=E5 (j:=2) (by omega) (by omega) f3
    have f1:=E5 (j:=1) (by omega) (by omega) f2
    simp [Tg,f1,f2,f3,f4,f5,f6]
  ·rw [uI n f7,if_neg f6]
   have f5:=E5 (j:=5) (by omega) (by omega) f6
   have f4:=E5 (j:=4) (by omega) (by omega) f5
   have f3:=E5 (j:=3) (by omega) (by omega) f4
   have f2:=E5 (j:=2) (by omega) (by omega) f3
   have f1:=E5 (j:=1) (by omega) (by omega) f2
   simp [Tg,f1,f2,f3,f4,f5,f6,f7]
 ·rw [uW n h1 h2,if_neg f7]
  have f6:=E5 (j:=6) (by omega) (by omega) f7
  have f5:=E5 (j:=5) (by omega) (by omega) f6
  have f4:=E5 (j:=4) (by omega) (by omega) f5
  have f3:=E5 (j:=3) (by omega) (by omega) f4
  have f2:=E5 (j:=2) (by omega) (by omega) f3
  have f1:=E5 (j:=1) (by omega) (by omega) f2
  simp [Tg,f1,f2,f3,f4,f5,f6,f7]
theorem iW (n:Int) (h1:-9223372036854775808<=n) (h2:n<=9223372036854775807) (k:Nat) (hk:k<=7) :
  F4 n (k + 1)=true↔(n / 256 ^ (k + 1)=0/\((Eb n k).toNat:Int) < 128)\/(n / 256 ^ (k + 1)=-1/\(128:Int)<=(Eb n k).toNat):=by
 match k,hk with
 | 0,_=>rw [Ev]; unfold F4; simp; omega
 | 1,_=>rw [Ev]; unfold F4; simp; omega
 | 2,_=>rw [Ev]; unfold F4; simp; omega
 | 3,_=>rw [Ev]; unfold F4; simp; omega
 | 4,_=>rw [Ev]; unfold F4; simp; omega
 | 5,_=>rw [Ev]; unfold F4; simp; omega
 | 6,_=>rw [Ev]; unfold F4; simp; omega
 | 7,_=>rw [Ev]; unfold F4; simp; omega
theorem Ud (n:Int) (k:Nat) (hk:k<=7):(pP n 8).drop (7 - k)=Eb n k :: (pP n 8).drop (8 - k):=by
 rw [be8]
 match k,hk with
 | 0,_=>rfl
 | 1,_=>rfl
 | 2,_=>rfl
 | 3,_=>rfl
 | 4,_=>rfl
 | 5,_=>rfl
 | 6,_=>rfl
 | 7,_=>rfl
theorem iY (n:Int) (k:Nat) (hk:k<=7) (hn:∀ j,1<=j->j<=k->F4 n j=false) (hf:F4 n (k + 1)=true):Tg n=k + 1:=by
 have g:=fun j (h1:1<=j) (h2:j<=k)=>hn j h1 h2
 unfold Tg
 match k,hk,hf,g with
 | 0,_,hf,_=>simp [hf]
 | 1,_,hf,g=>simp [hf,g 1 (by omega) (by omega)]
 | 2,_,hf,g=>simp [hf,g 1 (by omega) (by omega),g 2 (by omega) (by omega)]
 | 3,_,hf,g=>simp [hf,g 1 (by omega) (by omega),g 2 (by omega) (by omega),g 3 (by omega) (by omega)]
 | 4,_,hf,g=>simp [hf,g 1 (by omega) (by omega),g 2 (by omega) (by omega),g 3 (by omega) (by omega),g 4 (by omega) (by omega)]
 | 5,_,hf,g=>simp [hf,g 1 (by omega) (by omega),g 2 (by omega) (by omega),g 3 (by omega) (by omega),g 4 (by omega) (by omega),g 5 (by omega) (by omega)]
 | 6,_,hf,g=>simp [hf,g 1 (by omega) (by omega),g 2 (by omega) (by omega),g 3 (by omega) (by omega),g 4 (by omega) (by omega),g 5 (by omega) (by omega),g 6 (by omega) (by omega)]
 | 7,_,_,g=>simp [g 1 (by omega) (by omega),g 2 (by omega) (by omega),g 3 (by omega) (by omega),g 4 (by omega) (by omega),g 5 (by omega) (by omega),g 6 (by omega) (by omega),g 7 (by omega) (by omega)]
theorem vD (n:Int) (k:Nat):n / 256 ^ (k + 1) / 256=n / 256 ^ (k + 1 + 1):=by
 rw [Int.pow_succ 256 (k + 1)]
 have h:(0:Int)<=256 ^ (k + 1):=Int.pow_nonneg (by omega)
 first | exact Int.ediv_ediv_of_nonneg h | exact Int.ediv_ediv_eq_ediv_mul _ h | (rw [Int.ediv_ediv,if_neg (by omega)]; simp)
def be (n:Nat):List UInt8:=if h:n=0 then [] else be (n / 256) ++ [UInt8.ofNat (n % 256)]
termination_by n
decreasing_by omega
theorem aGy:be 0=[]:=by rw [be]; rfl
theorem sW {n:Nat} (h:0 < n):be n=be (n / 256) ++ [UInt8.ofNat (n % 256)]:=by rw [be]; rw [dif_neg (by omega)]
def zA (n:Nat):Nat:=(be n).length
theorem zJ:zA 0=0:=by unfold zA; rw [aGy]; rfl
theorem mV {n:Nat} (h:0 < n):zA n=zA (n / 256) + 1:=by unfold zA; rw [sW h]; simp
theorem tT (k:Nat):∀ n,n < 256 ^ k->zA n<=k:=by
 induction k with
 | zero=>
  intro n h
  have:n=0:=by simpa using h
  subst this
  rw [zJ]
  omega
 | succ k ih=>
  intro n h
  rcases aHp n with h0 | h0
  ·subst h0; rw [zJ]; omega
  ·rw [mV h0]
   have:=ih (n / 256) (by rw [Nat.pow_succ] at h; exact Nat.div_lt_of_lt_mul (by rw [Nat.mul_comm]; exact h))
   omega
def kR (n:Nat):List UInt8:=if n < 128 then [UInt8.ofNat n] else UInt8.ofNat (128 + zA n) :: be n
mutual
def Ai.put:Ai->List UInt8
 | .mk t b n es=>UInt8.ofNat (t.toNat % 256) :: (kR ((if n then G1 es else b).length) ++ (if n then G1 es else b))
def G1:List Ai->List UInt8
 | []=>[]
 | v :: vs=>v.put ++ G1 vs
end
def Ai.body:Ai->List UInt8 | .mk _ b n es=>if n then G1 es else b
theorem aAq (t:Int) (b:List UInt8) (n:Bool) (es:List Ai):(Ai.mk t b n es).put=UInt8.ofNat (t.toNat % 256) :: (kR (Ai.mk t b n es).body.length ++ (Ai.mk t b n es).body):=by rw [Ai.put]; rfl
theorem Qg:∀ a b:List Ai,G1 (a ++ b)=G1 a ++ G1 b
 | [],b=>by simp [G1]
 | v :: vs,b=>by rw [aJ4,G1,G1,Qg vs b,aJj]
theorem W3 {es:List Ai} {k:Nat} {d:Ai} (h:es[k]?=some d):G1 (es.take (k + 1))=G1 (es.take k) ++ d.put:=by
 obtain⟨hk,e⟩:=aBn.1 h
 rw [aJq hk,Qg,e]
 simp [G1]
theorem aQ {es:List Ai} (k:Nat):(G1 (es.take k)).length<=(G1 es).length:=by
 have:=Qg (es.take k) (es.drop k)
 rw [aJw] at this
 rw [this,aEm]; omega
theorem eJ {n:Nat} (h:n < 256 ^ 6):(kR n).length<=7:=by
 unfold kR
 split
 ·simp
 ·have:=tT 6 n h
  unfold zA at this
  simp; omega
end Go.Proofs.YtkoflhimdenjaaaGreat
