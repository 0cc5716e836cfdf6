/- Plain texts, joined. No program is in sight here. -/
import Derived.Test.YtboglmbblmakjaaGreatDoorP1
import Derived.WalkKit
import Derived.Test.YtboglmbblmakjaaGreatDoorL3
import Derived.Test.YtboglmbblmakjaaGreatDoorC1
set_option linter.unusedVariables false
set_option linter.unusedSimpArgs false
namespace Go.Proofs.YtboglmbblmakjaaGreatDoor
section
open Go
def lI (t:Int):Bool:=decide (1<=t) && decide (t<=255) && (t % 32 != 31)
def mB (t:Int):Bool:=t / 32 % 2 == 1
mutual
def Aa.formed:Aa->Bool
 | .mk t b n es=>lI t && (n == mB t) && !(n && decide (0 < b.length)) && !(!n && decide (0 < es.length)) && Oj es
def Oj:List Aa->Bool
 | []=>true
 | v :: vs=>v.formed && Oj vs
end
theorem V1:∀ es:List Aa,Oj es=es.all Aa.formed
 | []=>by simp [Oj]
 | v :: vs=>by rw [Oj,V1 vs,List.all_cons]
mutual
def Aa.depth:Aa->Nat
 | .mk _ _ _ es=>Hw es + 1
def Hw:List Aa->Nat
 | []=>0
 | v :: vs=>max v.depth (Hw vs)
end
theorem Wf:∀ a b:List Aa,Hw (a ++ b)=max (Hw a) (Hw b)
 | [],b=>by simp [Hw]
 | v :: vs,b=>by rw [aX1,Hw,Hw,Wf vs b,Nat.max_assoc]
theorem S9 {es:List Aa} {k:Nat} {d:Aa} (h:es[k]?=some d):Hw (es.take (k + 1))=max (Hw (es.take k)) d.depth:=by
 obtain⟨hk,e⟩:=aBe.1 h
 rw [aV5 hk,Wf,e,Hw,Hw,Nat.max_zero]
mutual
def Aa.same:Aa->Aa->Bool
 | .mk t b n es,.mk t' b' n' es'=>t == t' && n == n' && b == b' && yH es es'
def yH:List Aa->List Aa->Bool
 | [],[]=>true
 | v :: vs,u :: us=>v.same u && yH vs us
 | _,_=>false
end
def Lw:List UInt8->List UInt8
 | x :: y :: r=>if (x=0/\y < 128)\/(x=255/\128<=y) then Lw (y :: r) else x :: y :: r
 | l=>l
def pP (n:Int) (k:Nat):List UInt8:=(List.range k).map fun j=>UInt8.ofNat ((IntKind.u64.wrap n).toNat / 2 ^ (56 - 8 * j) % 256)
def aBs (n:Int):List UInt8:=Lw (pP n 8)
def Vs (n:Int):Aa:=.mk 2 (aBs n) false []
theorem aC (n:Int):0<=IntKind.u64.wrap n/\IntKind.u64.wrap n < 18446744073709551616:=by
 rw [IntKind.wrap_u64]; omega
theorem rX:∀ l:List UInt8,(Lw l).length<=l.length
 | []=>by simp [Lw]
 | [_]=>by simp [Lw]
 | x :: y :: r=>by
  rw [Lw]
  split
  ·have:=rX (y :: r); simp at this ⊢; omega
  ·simp
def Im (n:Int):Nat->Bool
 | 1=>decide (-128<=n/\n < 128)
 | 2=>decide (-32768<=n/\n < 32768)
 | 3=>decide (-8388608<=n/\n < 8388608)
 | 4=>decide (-2147483648<=n/\n < 2147483648)
 | 5=>decide (-549755813888<=n/\n < 549755813888)
 | 6=>decide (-140737488355328<=n/\n < 140737488355328)
 | 7=>decide (-36028797018963968<=n/\n < 36028797018963968)
 | 8=>true
 | _=>false
def Xg (n:Int):Nat:=if Im n 1 then 1 else if Im n 2 then 2 else if Im n 3 then 3 else if Im n 4 then 4 else if Im n 5 then 5 else if Im n 6 then 6 else if Im n 7 then 7 else 8
def Fv (n:Int) (j:Nat):UInt8:=UInt8.ofNat ((n / 256 ^ j % 256).toNat)
theorem Gq (n:Int) (j:Nat):((Fv n j).toNat:Int)=n / 256 ^ j % 256:=by
 unfold Fv
 have h:0<=n / 256 ^ j % 256/\n / 256 ^ j % 256 < 256:=by omega
 rw [aUr,aYa (by omega)]
 omega
theorem nX (n:Int) (j:Nat) (hj:j<=7):(IntKind.u64.wrap n) / 2 ^ (8 * j) % 256=n / 256 ^ j % 256:=by
 rw [IntKind.wrap_u64]
 match j,hj with
 | 0,_=>simp
 | 1,_=>simp; omega
 | 2,_=>simp; omega
 | 3,_=>simp; omega
 | 4,_=>simp; omega
 | 5,_=>simp; omega
 | 6,_=>simp; omega
 | 7,_=>simp; omega
theorem be8 (n:Int):pP n 8=[Fv n 7,Fv n 6,Fv n 5,Fv n 4,Fv n 3,Fv n 2,Fv n 1,Fv n 0]:=by
 have key:∀ j,j<=7->UInt8.ofNat ((IntKind.u64.wrap n).toNat / 2 ^ (8 * j) % 256)=Fv n j:=by
  intro j hj
  have h:=aC n
  have h2:=nX n j hj
  unfold Fv
  rw [<- h2]
  obtain⟨m,hm⟩:=Int.eq_ofNat_of_zero_le h.1
  rw [hm]
  congr 1
 have h:=fun j hj=>key j hj
 unfold pP
 simp only [List.range,List.range.loop,aUl,List.map_nil]
 rw [<- h 7 (by omega),<- h 6 (by omega),<- h 5 (by omega),<- h 4 (by omega),<- h 3 (by omega),<- h 2 (by omega),<- h 1 (by omega),<- h 0 (by omega)]
theorem Td {x y:UInt8} {r:List UInt8} {c:Bool} (h:(((x.toNat:Int)=0/\(y.toNat:Int) < 128)\/((x.toNat:Int)=255/\(128:Int)<=y.toNat))↔c=true):Lw (x :: y :: r)=if c then Lw (y :: r) else x :: y :: r:=by
 have h1:((x=0/\y < 128)\/(x=255/\128<=y))↔(((x.toNat:Int)=0/\(y.toNat:Int) < 128)\/((x.toNat:Int)=255/\(128:Int)<=y.toNat)):=by
  have e0:x=0↔(x.toNat:Int)=0:=⟨fun e=>by rw [e]; rfl,fun e=>UInt8.toNat.inj (by simp; omega)⟩
  have e1:x=255↔(x.toNat:Int)=255:=⟨fun e=>by rw [e]; rfl,fun e=>UInt8.toNat.inj (by simp; omega)⟩
  have e2:y < 128↔(y.toNat:Int) < 128:=by rw [UInt8.lt_iff_toNat_lt]; simp; omega
  have e3:128<=y↔(128:Int)<=y.toNat:=by rw [UInt8.le_iff_toNat_le]; simp; omega
  rw [e0,e1,e2,e3]
 rw [Lw]
 by_cases hc:c=true
 ·rw [if_pos (h1.2 (h.2 hc)),if_pos hc]
 ·rw [if_neg (fun g=>hc (h.1 (h1.1 g))),if_neg hc]
theorem aBp (n:Int) (_h1:-9223372036854775808<=n) (_h2:n<=9223372036854775807) (r:List UInt8):Lw (Fv n 7 :: Fv n 6 :: r)=if Im n 7 then Lw (Fv n 6 :: r) else Fv n 7 :: Fv n 6 :: r:=by
 refine Td ?_
 rw [Gq,Gq]; unfold Im; simp; omega
theorem aEa (n:Int) (h:Im n 7=true) (r:List UInt8):Lw (Fv n 6 :: Fv n 5 :: r)=if Im n 6 then Lw (Fv n 5 :: r) else Fv n 6 :: Fv n 5 :: r:=by
 unfold Im at h; simp at h
 refine Td ?_
 rw [Gq,Gq]; unfold Im; simp; omega
theorem aFz (n:Int) (h:Im n 6=true) (r:List UInt8):Lw (Fv n 5 :: Fv n 4 :: r)=if Im n 5 then Lw (Fv n 4 :: r) else Fv n 5 :: Fv n 4 :: r:=by
 unfold Im at h; simp at h
 refine Td ?_
 rw [Gq,Gq]; unfold Im; simp; omega
theorem aEe (n:Int) (h:Im n 5=true) (r:List UInt8):Lw (Fv n 4 :: Fv n 3 :: r)=if Im n 4 then Lw (Fv n 3 :: r) else Fv n 4 :: Fv n 3 :: r:=by
 unfold Im at h; simp at h
 refine Td ?_
 rw [Gq,Gq]; unfold Im; simp; omega
theorem aBf (n:Int) (h:Im n 4=true) (r:List UInt8):Lw (Fv n 3 :: Fv n 2 :: r)=if Im n 3 then Lw (Fv n 2 :: r) else Fv n 3 :: Fv n 2 :: r:=by
 unfold Im at h; simp at h
 refine Td ?_
 rw [Gq,Gq]; unfold Im; simp; omega
theorem aC6 (n:Int) (h:Im n 3=true) (r:List UInt8):Lw (Fv n 2 :: Fv n 1 :: r)=if Im n 2 then Lw (Fv n 1 :: r) else Fv n 2 :: Fv n 1 :: r:=by
 unfold Im at h; simp at h
 refine Td ?_
 rw [Gq,Gq]; unfold Im; simp; omega
theorem aBu (n:Int) (h:Im n 2=true) (r:List UInt8):Lw (Fv n 1 :: Fv n 0 :: r)=if Im n 1 then Lw (Fv n 0 :: r) else Fv n 1 :: Fv n 0 :: r:=by
 unfold Im at h; simp at h
 refine Td ?_
 rw [Gq,Gq]; unfold Im; simp; omega
theorem Gy {n:Int} {j:Nat} (hj:1<=j) (h7:j<=6) (h:¬ Im n (j + 1)=true):¬ Im n j=true:=by
 match j,hj,h7 with
 | 1,_,_=>unfold Im at *; simp at *; omega
 | 2,_,_=>unfold Im at *; simp at *; omega
 | 3,_,_=>unfold Im at *; simp at *; omega
 | 4,_,_=>unfold Im at *; simp at *; omega
 | 5,_,_=>unfold Im at *; simp at *; omega
 | 6,_,_=>unfold Im at *; simp at *; omega
theorem yM (n:Int) (h1:-9223372036854775808<=n) (h2:n<=9223372036854775807):aBs n=(pP n 8).drop (8 - Xg n):=by
 unfold aBs
 rw [be8]
 by_cases f7:Im n 7=true
 ·rw [aBp n h1 h2,if_pos f7]
  by_cases f6:Im n 6=true
  ·rw [aEa n f7,if_pos f6]
   by_cases f5:Im n 5=true
   ·rw [aFz n f6,if_pos f5]
    by_cases f4:Im n 4=true
    ·rw [aEe n f5,if_pos f4]
     by_cases f3:Im n 3=true
     ·rw [aBf n f4,if_pos f3]
      by_cases f2:Im n 2=true
      ·rw [aC6 n f3,if_pos f2]
       by_cases f1:Im n 1=true
       ·rw [aBu n f2,if_pos f1]
        rw [Lw]
        ·simp [Xg,f1]
        ·intro x y r h; cases h
       ·rw [aBu n f2,if_neg f1]
        simp [Xg,f1,f2]
      ·rw [aC6 n f3,if_neg f2]
       have f1:=Gy (j:=1) (by omega) (by omega) f2
       simp [Xg,f1,f2,f3]
     ·rw [aBf n f4,if_neg f3]
      have f2:=Gy (j:=2) (by omega) (by omega) f3
      have f1:=Gy (j:=1) (by omega) (by omega) f2
      simp [Xg,f1,f2,f3,f4]
    ·rw [aEe n f5,if_neg f4]
     have f3:=Gy (j:=3) (by omega) (by omega) f4
     have f2:=Gy (j:=2) (by omega) (by omega) f3
     have f1:=Gy (j:=1) (by omega) (by omega) f2
     simp [Xg,f1,f2,f3,f4,f5]
   ·rw [aFz n f6,if_neg f5]
    have f4:=Gy (j:=4) (by omega) (by omega) f5
    have f3:=Gy (j:=3) (by omega) (by omega) f4
    have f2:=Gy (j:=2) (by omega) (by omega) f3
    have f1:=Gy (j:=1) (by omega) (by omega) f2
    simp [Xg,f1,f2,f3,f4,f5,f6]
  ·rw [aEa n f7,if_neg f6]
   have f5:=Gy (j:=5) (by omega) (by omega) f6
   have f4:=Gy (j:=4) (by omega) (by omega) f5
   have f3:=Gy (j:=3) (by omega) (by omega) f4
   have f2:=Gy (j:=2) (by omega) (by omega) f3
   have f1:=Gy (j:=1) (by omega) (by omega) f2
   simp [Xg,f1,f2,f3,f4,f5,f6,f7]
 ·rw [aBp n h1 h2,if_neg f7]
  have f6:=Gy (j:=6) (by omega) (by omega) f7
  have f5:=Gy (j:=5) (by omega) (by omega) f6
  have f4:=Gy (j:=4) (by omega) (by omega) f5
  have f3:=Gy (j:=3) (by omega) (by omega) f4
  have f2:=Gy (j:=2) (by omega) (by omega) f3
  have f1:=Gy (j:=1) (by omega) (by omega) f2
  simp [Xg,f1,f2,f3,f4,f5,f6,f7]
theorem sC (n:Int) (h1:-9223372036854775808<=n) (h2:n<=9223372036854775807) (k:Nat) (hk:k<=7) :
  Im n (k + 1)=true↔(n / 256 ^ (k + 1)=0/\((Fv n k).toNat:Int) < 128)\/(n / 256 ^ (k + 1)=-1/\(128:Int)<=(Fv n k).toNat):=by
 match k,hk with
 | 0,_=>rw [Gq]; unfold Im; simp; omega
 | 1,_=>rw [Gq]; unfold Im; simp; omega
 | 2,_=>rw [Gq]; unfold Im; simp; omega
 | 3,_=>rw [Gq]; unfold Im; simp; omega
 | 4,_=>rw [Gq]; unfold Im; simp; omega
 | 5,_=>rw [Gq]; unfold Im; simp; omega
 | 6,_=>rw [Gq]; unfold Im; simp; omega
 | 7,_=>rw [Gq]; unfold Im; simp; omega
theorem Ye (n:Int) (k:Nat) (hk:k<=7):(pP n 8).drop (7 - k)=Fv n k :: (pP n 8).drop (8 - k):=by
 rw [be8]
 match k,hk with
 | 0,_=>rfl
 | 1,_=>rfl
 | 2,_=>rfl
 | 3,_=>rfl
 | 4,_=>rfl
 | 5,_=>rfl
 | 6,_=>rfl
 | 7,_=>rfl
theorem qZ (n:Int) (k:Nat) (hk:k<=7) (hn:∀ j,1<=j->j<=k->Im n j=false) (hf:Im n (k + 1)=true):Xg n=k + 1:=by
 have g:=fun j (h1:1<=j) (h2:j<=k)=>hn j h1 h2
 unfold Xg
 match k,hk,hf,g with
 | 0,_,hf,_=>simp [hf]
 | 1,_,hf,g=>simp [hf,g 1 (by omega) (by omega)]
 | 2,_,hf,g=>simp [hf,g 1 (by omega) (by omega),g 2 (by omega) (by omega)]
 | 3,_,hf,g=>simp [hf,g 1 (by omega) (by omega),g 2 (by omega) (by omega),g 3 (by omega) (by omega)]
 | 4,_,hf,g=>simp [hf,g 1 (by omega) (by omega),g 2 (by omega) (by omega),g 3 (by omega) (by omega),g 4 (by omega) (by omega)]
 | 5,_,hf,g=>simp [hf,g 1 (by omega) (by omega),g 2 (by omega) (by omega),g 3 (by omega) (by omega),g 4 (by omega) (by omega),g 5 (by omega) (by omega)]
 | 6,_,hf,g=>simp [hf,g 1 (by omega) (by omega),g 2 (by omega) (by omega),g 3 (by omega) (by omega),g 4 (by omega) (by omega),g 5 (by omega) (by omega),g 6 (by omega) (by omega)]
 | 7,_,_,g=>simp [g 1 (by omega) (by omega),g 2 (by omega) (by omega),g 3 (by omega) (by omega),g 4 (by omega) (by omega),g 5 (by omega) (by omega),g 6 (by omega) (by omega),g 7 (by omega) (by omega)]
theorem aD5 (n:Int) (k:Nat):n / 256 ^ (k + 1) / 256=n / 256 ^ (k + 1 + 1):=by
 rw [Int.pow_succ 256 (k + 1)]
 have h:(0:Int)<=256 ^ (k + 1):=Int.pow_nonneg (by omega)
 first | exact Int.ediv_ediv_of_nonneg h | exact Int.ediv_ediv_eq_ediv_mul _ h | (rw [Int.ediv_ediv,if_neg (by omega)]; simp)
def be (n:Nat):List UInt8:=if h:n=0 then [] else be (n / 256) ++ [UInt8.ofNat (n % 256)]
termination_by n
decreasing_by omega
theorem aRs:be 0=[]:=by rw [be]; rfl
theorem tR {n:Nat} (h:0 < n):be n=be (n / 256) ++ [UInt8.ofNat (n % 256)]:=by rw [be]; rw [dif_neg (by omega)]
def cnt (n:Nat):Nat:=(be n).length
theorem wO:cnt 0=0:=by unfold cnt; rw [aRs]; rfl
theorem aK {n:Nat} (h:0 < n):cnt n=cnt (n / 256) + 1:=by unfold cnt; rw [tR h]; simp
theorem aNt:∀ (c n:Nat),cnt n=c->∀ j,j < c->(be n)[j]?=some (UInt8.ofNat (n / 256 ^ (c - 1 - j) % 256)):=by
 intro c
 induction c with
 | zero=>intro n _ j hj; omega
 | succ c ih=>
  intro n hn j hj
  have hpos:0 < n:=by
   rcases aLg n with h | h
   ·subst h; rw [wO] at hn; omega
   ·exact h
  have hc:cnt (n / 256)=c:=by rw [aK hpos] at hn; omega
  rw [tR hpos,bAv]
  have hl:(be (n / 256)).length=c:=hc
  rw [hl]
  by_cases h:j < c
  ·rw [if_pos h,ih _ hc j h]
   have e:n / 256 / 256 ^ (c - 1 - j)=n / 256 ^ (c + 1 - 1 - j):=by
    rw [Nat.div_div_eq_div_mul,show c + 1 - 1 - j=(c - 1 - j) + 1 by omega,Nat.pow_succ,Nat.mul_comm]
   rw [e]
  ·obtain rfl:j=c:=by omega
   rw [if_neg h]
   simp
theorem vL (k:Nat):∀ n,n < 256 ^ k->cnt n<=k:=by
 induction k with
 | zero=>
  intro n h
  have:n=0:=by simpa using h
  subst this
  rw [wO]
  omega
 | succ k ih=>
  intro n h
  rcases aLg n with h0 | h0
  ·subst h0; rw [wO]; omega
  ·rw [aK h0]
   have:=ih (n / 256) (by rw [Nat.pow_succ] at h; exact Nat.div_lt_of_lt_mul (by rw [Nat.mul_comm]; exact h))
   omega
def oR (n:Nat):List UInt8:=if n < 128 then [UInt8.ofNat n] else UInt8.ofNat (128 + cnt n) :: be n
mutual
def Aa.put:Aa->List UInt8
 | .mk t b n es=>UInt8.ofNat (t.toNat % 256) :: (oR ((if n then H6 es else b).length) ++ (if n then H6 es else b))
def H6:List Aa->List UInt8
 | []=>[]
 | v :: vs=>v.put ++ H6 vs
end
def Aa.body:Aa->List UInt8 | .mk _ b n es=>if n then H6 es else b
theorem aLl (t:Int) (b:List UInt8) (n:Bool) (es:List Aa):(Aa.mk t b n es).put=UInt8.ofNat (t.toNat % 256) :: (oR (Aa.mk t b n es).body.length ++ (Aa.mk t b n es).body):=by rw [Aa.put]; rfl
theorem Ur:∀ a b:List Aa,H6 (a ++ b)=H6 a ++ H6 b
 | [],b=>by simp [H6]
 | v :: vs,b=>by rw [aX1,H6,H6,Ur vs b,aUu]
theorem Uy {es:List Aa} {k:Nat} {d:Aa} (h:es[k]?=some d):H6 (es.take (k + 1))=H6 (es.take k) ++ d.put:=by
 obtain⟨hk,e⟩:=aBe.1 h
 rw [aV5 hk,Ur,e]
 simp [H6]
theorem jQ {es:List Aa} (k:Nat):(H6 (es.take k)).length<=(H6 es).length:=by
 have:=Ur (es.take k) (es.drop k)
 rw [aU3] at this
 rw [this,aF3]; omega
theorem gW {n:Nat} (h:n < 256 ^ 6):(oR n).length<=7:=by
 unfold oR
 split
 ·simp
 ·have:=vL 6 n h
  unfold cnt at this
  simp; omega
end
section
open Go
mutual
def Aa.sz:Aa->Nat
 | .mk _ b _ es=>b.length + Wy es + 1
def Wy:List Aa->Nat
 | []=>0
 | v :: vs=>v.sz + Wy vs
end
theorem Si (v:Aa):v.sz=v.Bytes.length + Wy v.Elements + 1:=by cases v; rw [Aa.sz]
theorem gQ:∀ {es:List Aa} {d:Aa},d∈es->d.sz<=Wy es
 | v :: vs,d,h=>by
  rw [Wy]
  rcases aF6.1 h with rfl | h
  ·omega
  ·have:=gQ h; omega
theorem Su:∀ es:List Aa,es.length<=Wy es
 | []=>aKp _
 | v :: vs=>by
  have:=Su vs
  rw [Wy,aP9,Si]; omega
theorem Tn {v d:Aa} (h:d∈v.Elements):d.sz < v.sz:=by
 have:=gQ h
 rw [Si v]; omega
theorem qM {b:List UInt8} (h:b.length < 1073741824):Hx b=some b:=by
 unfold Hx Hx.j1
 have e:Hc 1 ([]:List UInt8) b=some b:=by rw [Gd (by simp; omega)]; rfl
 rw [e]
 unfold Yr
 split
 ·rename_i h0; subst h0; simp
 ·rfl
theorem iL (l:List Aa) (h:Wy l < 1073741824):Er l=some l:=
 Py fS id Wy (fun l=>Wy l < 1073741824) (fun rec l hl hr=>by
  show Er.F rec l=some l
  unfold Er.F
  have hn:=Su l
  refine (Je l.length (fun i=>((i:Int),l.take i)) l ?_ ?_).trans ?_
  ·intro i hi
   obtain⟨e,he⟩:∃ e,l[i]?=some e:=⟨_,aBb hi⟩
   have h1:=gQ (E7 he)
   have h2:=Si e
   show Er.l1 rec l (i:Int) (l.take i)=_
   unfold Er.l1
   rw [G0 he,qM (by omega),hr e.Elements (by omega) (by omega)]
   simp only [id,aAy]
   rw [Gd (by simp; omega),Kf (by omega),M1 he]
   cases e; rfl
  ·show Er.l1 rec l (l.length:Int) (l.take l.length)=_
   unfold Er.l1
   rw [Fq,aQa]; rfl
  ·rfl) l h
theorem nS (l:List Aa) (h:Wy l < 1073741824):Dy l=some l:=
 Py bI id Wy (fun l=>Wy l < 1073741824) (fun rec l hl hr=>by
  show Dy.F rec l=some l
  unfold Dy.F
  have hn:=Su l
  refine (Je l.length (fun i=>((i:Int),l.take i)) l ?_ ?_).trans ?_
  ·intro i hi
   obtain⟨e,he⟩:∃ e,l[i]?=some e:=⟨_,aBb hi⟩
   have h1:=gQ (E7 he)
   have h2:=Si e
   show Dy.l1 rec l (i:Int) (l.take i)=_
   unfold Dy.l1
   rw [G0 he,Gd (by simp; omega)]
   simp only [aVl,aAy]
   rw [hr e.Elements (by omega) (by omega)]
   simp only [id,aAy]
   rw [Gd (by simp; omega),Kf (by omega),M1 he]
   cases e; rfl
  ·show Dy.l1 rec l (l.length:Int) (l.take l.length)=_
   unfold Dy.l1
   rw [Fq,aQa]; rfl
  ·rfl) l h
theorem uS (l:List Aa) (h:Wy l < 1073741824):Q0 l=some (.mk 48 [] true l):=by unfold Q0; rw [iL l h]; rfl
theorem aE6 (l:List Aa) (h:Wy l < 1073741824):Tm l=some (.mk 48 [] true l):=by unfold Tm; first | (rw [uS l h]; rfl) | (rw [iL l h]; rfl)
theorem Zh (l:List Aa) (h:Wy l < 1073741824):Lb l=some (.mk 48 [] true l):=by unfold Lb; rw [nS l h]; rfl
theorem kA {n:Int} (h1:1<=n) (h2:n<=255):∃ m:Fin 256,n=(m.val:Int):=⟨⟨n.toNat,by omega⟩,by simp; omega⟩
theorem aAb:∀ m:Fin 256,(!decide (W7 .i64 (m.val:Int) 31=31))=((m.val:Int) % 32 != 31):=by decide +kernel
theorem yY:∀ m:Fin 256,(!decide (W7 .i64 (m.val:Int) 32=0))=mB (m.val:Int):=by decide +kernel
theorem aA7:∀ m:Fin 256,(!decide ((m.val:Int).tmod 32=31))=((m.val:Int) % 32 != 31):=by decide +kernel
theorem aAn:∀ m:Fin 256,((cD (m.val:Int) 32).bind fun q=>(dW q 2).bind fun r=>some (decide (r=1)))=some (mB (m.val:Int)):=by decide +kernel
theorem aG4 (n:Int):Uz n=some (lI n):=by
 unfold Uz lI
 by_cases h1:1<=n
 ·by_cases h2:n<=255
  ·obtain⟨m,rfl⟩:=kA h1 h2
   rw [aAb m,aBd h1,aBd h2]; rfl
  ·simp [h1,h2]
 ·simp [h1]
theorem aAz (n:Int):Rr n=some (lI n):=by
 unfold Rr lI
 by_cases h1:1<=n
 ·by_cases h2:n<=255
  ·obtain⟨m,rfl⟩:=kA h1 h2
   rw [<- aA7 m,aBd h1,aBd h2]; rfl
  ·simp [h1,h2]
 ·simp [h1]
theorem Re {n:Int} (h:lI n=true):1<=n/\n<=255:=by
 unfold lI at h
 simp only [aF5,aU9] at h
 exact⟨h.1.1,h.1.2⟩
theorem Ux (v:Aa):v.formed=(lI v.Tag && (v.Nested == mB v.Tag) && !(v.Nested && decide (0 < v.Bytes.length)) && !(!v.Nested && decide (0 < v.Elements.length)) && Oj v.Elements):=by cases v; rw [Aa.formed]
theorem eW (l:List Aa):(!l.any fun v=>!v.formed)=Oj l:=by
 rw [V1]
 induction l with
 | nil=>rfl
 | cons v l ih=>rw [aXx,List.all_cons,<- ih]; cases v.formed <;> simp
theorem uN (v:Aa) (h:v.sz < 1073741824):Dz v=some v.formed:=
 Py fP Aa.formed Aa.sz (fun v=>v.sz < 1073741824) (fun rec v hv hr=>by
  show Dz.F rec v=some v.formed
  have hn:=Su v.Elements
  have h0:=Si v
  have hj1:Dz.j1 rec v true=some false:=rfl
  have hj2:Dz.j1 rec v false=some (Oj v.Elements):=by
   unfold Dz.j1 Ev Ci
   have hl:C7 (fun q'=>Ci.l1 v.Elements (fun x0=>H2 rec x0) q') 0=some (match v.Elements.findIdx? (fun v=>!v.formed) with | some i=>(i:Int) | none=>-1):=
    Yb v.Elements (fun i=>(i:Int)) (fun v=>!v.formed) (fun i=>(i:Int)) (-1) (fun i x hx=>by
     have h1:=Tn (E7 hx)
     have h2:=I3 hx
     unfold Ci.l1 H2
     rw [G0 hx]
     dsimp only
     rw [hr x (by omega) h1,Kf (by omega)]
     cases x.formed <;> rfl) (by unfold Ci.l1; rw [Fq]; rfl)
   rw [hl,<- eW]
   simp only [aE8,aAy]
   cases hq:v.Elements.findIdx? (fun v=>!v.formed) with
   | none=>
    have:=bA4.1 hq
    have:(v.Elements.any fun v=>!v.formed)=false:=by rw [aWz]; simpa using this
    rw [this]; rfl
   | some i=>
    have:=bD0 (xs:=v.Elements) (p:=fun v=>!v.formed)
    rw [hq] at this
    rw [<- this]
    simp
  unfold Dz.F
  rw [aG4,hj1,hj2,Ux]
  cases ht:lI v.Tag
  ·rfl
  ·obtain⟨m,hm⟩:=kA (Re ht).1 (Re ht).2
   rw [hm,yY m]
   cases v.Nested <;> cases mB (m.val:Int) <;> by_cases hb:0 < v.Bytes.length <;> by_cases he:0 < v.Elements.length <;> simp [hb,he,hj1,hj2]) v h
theorem qI (v:Aa) (h:v.sz < 1073741824):Cg v=some v.formed:=
 Py aV Aa.formed Aa.sz (fun v=>v.sz < 1073741824) (fun rec v hv hr=>by
  show Cg.F rec v=some v.formed
  have hn:=Su v.Elements
  have h0:=Si v
  have hj1:Cg.j1 rec v true=some false:=rfl
  have hj2:Cg.j1 rec v false=some (Oj v.Elements):=by
   unfold Cg.j1
   have hl:=Xk (body:=fun q'=>Cg.l2 rec v q') v.Elements (fun i=>(i:Int)) (fun v=>!v.formed) false true (fun i x hx=>by
     have h1:=Tn (E7 hx)
     have h2:=I3 hx
     unfold Cg.l2
     rw [G0 hx,hr x (by omega) h1,Kf (by omega)]
     cases x.formed <;> rfl) (by unfold Cg.l2; rw [Fq]; rfl)
   rw [aE8]
   refine Eq.trans hl ?_
   rw [<- eW]
   cases v.Elements.any fun v=>!v.formed <;> rfl
  unfold Cg.F
  rw [aAz,hj1,hj2,Ux]
  cases ht:lI v.Tag
  ·rfl
  ·obtain⟨m,hm⟩:=kA (Re ht).1 (Re ht).2
   have hq:=aAn m
   rw [hm]
   cases h1:cD (m.val:Int) 32 with
   | none=>rw [h1] at hq; cases hq
   | some q=>
    rw [h1] at hq
    simp only [aAy] at hq
    cases h2:dW q 2 with
    | none=>rw [h2] at hq; cases hq
    | some r=>
     rw [h2] at hq
     simp only [aAy,Option.some.injEq] at hq
     simp only [aAy,h2,hq]
     cases v.Nested <;> cases mB (m.val:Int) <;> by_cases hb:0 < v.Bytes.length <;> by_cases he:0 < v.Elements.length <;> simp [hb,he,hj1,hj2]) v h
theorem Xo:∀ es:List Aa,Hw es<=Wy es
 | []=>aKp _
 | v :: vs=>by
  obtain⟨t,b,n,es⟩:=v
  have h1:=Xo es
  have h2:=Xo vs
  rw [Hw,Wy,Aa.depth,Aa.sz]; omega
theorem sK (v:Aa):v.depth<=v.sz:=by
 obtain⟨t,b,n,es⟩:=v
 have:=Xo es
 rw [Aa.depth,Aa.sz]; omega
theorem tA (v:Aa):v.depth=Hw v.Elements + 1:=by cases v; rw [Aa.depth]
theorem aAc (v:Aa) (h:v.sz < 1073741824):Fb v=some (v.depth:Int):=
 Py jZ (fun v=>(v.depth:Int)) Aa.sz (fun v=>v.sz < 1073741824) (fun rec v hv hr=>by
  show Fb.F rec v=some (v.depth:Int)
  unfold Fb.F
  have hn:=Su v.Elements
  have h0:=Si v
  have hd:=sK v
  have hq:=tA v
  refine (Je v.Elements.length (fun i=>((Hw (v.Elements.take i):Int),(i:Int))) (v.depth:Int) ?_ ?_).trans ?_
  ·intro i hi
   obtain⟨e,he⟩:∃ e,v.Elements[i]?=some e:=⟨_,aBb hi⟩
   have h1:=Tn (E7 he)
   show Fb.l1 rec v (Hw (v.Elements.take i):Int) (i:Int)=_
   unfold Fb.l1
   rw [G0 he,hr e (by omega) h1,Kf (by omega),S9 he]
   simp only [aAy]
   congr 3
   omega
  ·show Fb.l1 rec v (Hw (v.Elements.take v.Elements.length):Int) (v.Elements.length:Int)=_
   unfold Fb.l1
   rw [Fq,aQa,Hh (by omega),hq]; rfl
  ·rfl) v h
theorem sJ (v:Aa) (h:v.sz < 1073741824):D9 v=some (v.depth:Int):=
 Py dZ (fun v=>(v.depth:Int)) Aa.sz (fun v=>v.sz < 1073741824) (fun rec v hv hr=>by
  show D9.F rec v=some (v.depth:Int)
  unfold D9.F
  have hn:=Su v.Elements
  have h0:=Si v
  have hd:=sK v
  have hq:=tA v
  refine (Je v.Elements.length (fun i=>((Hw (v.Elements.take i):Int),(i:Int))) (v.depth:Int) ?_ ?_).trans ?_
  ·intro i hi
   obtain⟨e,he⟩:∃ e,v.Elements[i]?=some e:=⟨_,aBb hi⟩
   have h1:=Tn (E7 he)
   show D9.l1 rec v (Hw (v.Elements.take i):Int) (i:Int)=_
   unfold D9.l1
   rw [G0 he,hr e (by omega) h1,Kf (by omega),S9 he]
   simp only [aAy]
   congr 3
   omega
  ·show D9.l1 rec v (Hw (v.Elements.take v.Elements.length):Int) (v.Elements.length:Int)=_
   unfold D9.l1
   rw [Fq,aQa,Hh (by omega),hq]; rfl
  ·rfl) v h
end
section
open Go
theorem Xp (m:Nat):u8 (m:Int)=UInt8.ofNat m:=by
 apply bCp.1
 have:=qW (m:Int)
 rw [aUr]
 omega
theorem aE2 (n:Int) (k:Nat):u8 (n / 256 ^ k)=Fv n k:=rfl
theorem oJ {k:IntKind} {x y:Int} (e:Nat) (hy:y=(e:Int)) (he:e<=k.bits):Q3 k x y=some (x / 2 ^ e):=by
 subst hy
 unfold Q3
 rw [if_neg (by omega),aQb,aY9 he,Int.fdiv_eq_ediv_of_nonneg]
 exact Int.pow_nonneg (by omega)
theorem aPd {x:Int}:Q3 .i64 x 8=some (x / 256):=oJ (k:=.i64) 8 rfl (by decide)
theorem aEx (n:Int) (k:Nat):pP n (k + 1)=pP n k ++ [UInt8.ofNat ((IntKind.u64.wrap n).toNat / 2 ^ (56 - 8 * k) % 256)]:=by
 unfold pP
 rw [List.range_succ,aUk]; rfl
theorem gH (n:Int) (k:Nat):(pP n k).length=k:=by unfold pP; simp
theorem aJr (n:Int) (e:Nat):u8 (IntKind.u64.wrap n / 2 ^ e)=UInt8.ofNat ((IntKind.u64.wrap n).toNat / 2 ^ e % 256):=by
 have h:=aC n
 obtain⟨m,hm⟩:=Int.eq_ofNat_of_zero_le h.1
 rw [hm,aQb]
 have:(m:Int) / 2 ^ e=((m / 2 ^ e:Nat):Int):=by simp
 rw [this,Xp]
 apply bCp.1
 rw [aUr,aUr]
 omega
theorem vS (x y:UInt8) (r:List UInt8):Lw (x :: y :: r)=if ((x.toNat:Int)=0/\(y.toNat:Int) < 128)\/((x.toNat:Int)=255/\(128:Int)<=(y.toNat:Int)) then Lw (y :: r) else x :: y :: r:=by
 rw [Lw]
 have e0:(x=0)↔((x.toNat:Int)=0):=by rw [<- bCp]; simp
 have e1:(x=255)↔((x.toNat:Int)=255):=by rw [<- bCp]; simp; omega
 have e2:(y < 128)↔((y.toNat:Int) < 128):=by rw [UInt8.lt_iff_toNat_lt]; simp; omega
 have e3:(128<=y)↔((128:Int)<=(y.toNat:Int)):=by rw [UInt8.le_iff_toNat_le]; simp; omega
 simp only [e0,e1,e2,e3]
theorem Y5:∀ b:List UInt8,b.length<=8->C7 (fun q'=>Dw.l2 q') b=some (.mk 2 (Lw b) false [])
 | [],_=>by rw [G8]; rfl
 | [x],_=>by rw [G8]; rfl
 | x :: y :: r,h=>by
  have ih:=Y5 (y :: r) (by simp at h ⊢; omega)
  have hl:(1:Int) < ((x :: y :: r).length:Int):=by simp; omega
  have hs:pY (x :: y :: r) 1 ((x :: y :: r).length:Int)=some (y :: r):=by
   unfold pY
   rw [if_pos ⟨by omega,by omega,by omega⟩]
   congr 1
   exact aKz (by simp; omega)
  have hg0:Bn (x :: y :: r) 0=some x:=rfl
  have hg1:Bn (x :: y :: r) 1=some y:=rfl
  have hj:Dw.j3 (x :: y :: r) true=some (.next (y :: r)):=by unfold Dw.j3; rw [hs]; rfl
  have hk:Dw.j3 (x :: y :: r) false=some (.done (.mk 2 (x :: y :: r) false [])):=rfl
  have hb:Dw.l2 (x :: y :: r)=some (if ((x.toNat:Int)=0/\(y.toNat:Int) < 128)\/((x.toNat:Int)=255/\(128:Int)<=(y.toNat:Int)) then .next (y :: r) else .done (.mk 2 (x :: y :: r) false [])):=by
   unfold Dw.l2
   rw [aBd hl,hg0,hg1]
   simp only [aHj,aAy]
   by_cases a0:(x.toNat:Int)=0
   ·have a1:¬ (x.toNat:Int)=255:=by omega
    by_cases c0:(y.toNat:Int) < 128
    ·rw [aBd a0,aBd c0,if_pos (.inl ⟨a0,c0⟩)]; simp only [aHj,aE8]; exact hj
    ·rw [aBd a0,aBc c0,aBc a1,if_neg (by omega)]; simp only [aHj,aE8]; exact hk
   ·by_cases a1:(x.toNat:Int)=255
    ·rw [aBc a0,aBd a1]
     by_cases c1:(128:Int)<=(y.toNat:Int)
     ·rw [aBd c1,if_pos (.inr ⟨a1,c1⟩)]; simp only [aHj,aE8]; exact hj
     ·rw [aBc c1,if_neg (by omega)]; simp only [aHj,aE8]; exact hk
    ·rw [aBc a0,aBc a1,if_neg (by omega)]; simp only [aHj,aE8]; exact hk
  rw [G8,vS]
  rw [hb]
  split
  ·exact ih
  ·rfl
theorem pL (n:Int):Dw n=some (Vs n):=by
 unfold Dw
 refine Je 8 (fun k=>((56 - 8 * (k:Int)),pP n k)) (Vs n) ?_ ?_
 ·intro k hk
  show Dw.l1 n (56 - 8 * (k:Int)) (pP n k)=_
  unfold Dw.l1
  rw [aBd (by omega),oJ (56 - 8 * k) (by omega) (by show 56 - 8 * k<=64; omega)]
  simp only [aHj,aAy]
  rw [Gd (by rw [gH]; simp; omega),Hh (by omega),aJr,<- aEx]
  simp only [aAy]
  congr 3
  omega
 ·show Dw.l1 n (56 - 8 * ((8:Nat):Int)) (pP n 8)=_
  unfold Dw.l1
  rw [Y5 _ (by rw [gH]; omega)]
  rfl
theorem kH (x:Int) (y:UInt8) (r:List UInt8):Dq.l1 x (y :: r)=Dq.j2 x (y :: r) (!((decide (x=0) && decide ((y.toNat:Int) < 128)) || (decide (x=-1) && decide (128<=(y.toNat:Int))))):=by
 have G:Bn (y :: r) 0=some y:=rfl
 unfold Dq.l1
 by_cases h0:x=0
 ·have h1:¬ x=-1:=by omega
  by_cases c:(y.toNat:Int) < 128
  ·have c':¬ (128:Int)<=(y.toNat:Int):=by omega
   simp [h0,G,c,c']
  ·have c':(128:Int)<=(y.toNat:Int):=by omega
   simp [h0,G,c,c']
 ·by_cases h1:x=-1
  ·by_cases c:(y.toNat:Int) < 128
   ·have c':¬ (128:Int)<=(y.toNat:Int):=by omega
    simp [h1,G,c,c']
   ·have c':(128:Int)<=(y.toNat:Int):=by omega
    simp [h1,G,c,c']
  ·simp [h0,h1]
theorem qH (n:Int) (h1:-9223372036854775808<=n) (h2:n<=9223372036854775807):∀ d k,k + d=7->(∀ j,1<=j->j<=k->Im n j=false)->C7 (fun q'=>Dq.l1 q'.1 q'.2) (n / 256 ^ (k + 1),(pP n 8).drop (7 - k))=some (Vs n):=by
 intro d
 induction d with
 | zero=>
  intro k hk hn
  obtain rfl:k=7:=by omega
  have hf:=(sC n h1 h2 7 (by omega)).1 rfl
  rw [G8]
  dsimp only
  rw [Ye n 7 (by omega),kH]
  have hs:=qZ n 7 (by omega) hn rfl
  have hc:((decide (n / 256 ^ (7 + 1)=0) && decide (((Fv n 7).toNat:Int) < 128)) || (decide (n / 256 ^ (7 + 1)=-1) && decide (128<=((Fv n 7).toNat:Int))))=true:=by simpa using hf
  rw [hc]
  show some (Aa.mk 2 (Fv n 7 :: (pP n 8).drop (8 - 7)) false [])=some (Vs n)
  unfold Vs
  rw [yM n h1 h2,hs,<- Ye n 7 (by omega)]
 | succ d ih=>
  intro k hk hn
  have FI:=sC n h1 h2 k (by omega)
  rw [G8]
  dsimp only
  rw [Ye n k (by omega),kH]
  cases hf:Im n (k + 1) with
  | true=>
   have hs:=qZ n k (by omega) hn hf
   have hc:((decide (n / 256 ^ (k + 1)=0) && decide (((Fv n k).toNat:Int) < 128)) || (decide (n / 256 ^ (k + 1)=-1) && decide (128<=((Fv n k).toNat:Int))))=true:=by simpa using FI.1 hf
   rw [hc]
   show some (Aa.mk 2 (Fv n k :: (pP n 8).drop (8 - k)) false [])=some (Vs n)
   unfold Vs
   rw [yM n h1 h2,hs,<- Ye n k (by omega),show 8 - (k + 1)=7 - k by omega]
  | false=>
   have hc:((decide (n / 256 ^ (k + 1)=0) && decide (((Fv n k).toNat:Int) < 128)) || (decide (n / 256 ^ (k + 1)=-1) && decide (128<=((Fv n k).toNat:Int))))=false:=by
    cases hq:((decide (n / 256 ^ (k + 1)=0) && decide (((Fv n k).toNat:Int) < 128)) || (decide (n / 256 ^ (k + 1)=-1) && decide (128<=((Fv n k).toNat:Int)))) with
    | false=>rfl
    | true=>
     have:=FI.2 (by simpa using hq)
     rw [hf] at this; cases this
   rw [hc]
   have e:=ih (k + 1) (by omega) fun j a b=>by
    rcases aU5 k j with h | h
    ·obtain rfl:j=k + 1:=by omega
     exact hf
    ·exact hn j a h
   rw [Ye n (k + 1) (by omega),show 8 - (k + 1)=7 - k by omega,<- aD5] at e
   unfold Dq.j2
   rw [aVw,aHj,Gd (by simp [gH]; omega),aPd,<- Ye n k (by omega)]
   exact e
theorem Rg (n:Int) (h1:-9223372036854775808<=n) (h2:n<=9223372036854775807):Dq n=some (Vs n):=by
 unfold Dq
 rw [aPd]
 have:=qH n h1 h2 7 0 (by omega) (fun j a b=>by omega)
 rw [show (pP n 8).drop (7 - 0)=[Fv n 0] by rw [be8]; rfl] at this
 rw [aAy,show u8 n=Fv n 0 by rw [<- aE2]; simp]
 exact this
theorem Vu (n:Int):(Vs n).sz<=9:=by
 unfold Vs
 rw [Si]
 have h:=rX (pP n 8)
 rw [gH] at h
 show (aBs n).length + Wy [] + 1<=9
 unfold aBs
 rw [Wy]; omega
end
section
open Go
mutual
theorem uQ:∀ v:Aa,v.sz < 67108864->v.put.length<=8 * v.sz
 | .mk t b n es,h=>by
  rw [Aa.sz] at h ⊢
  have h1:=cY es (by omega)
  rw [Aa.put]
  cases n
  ·have h2:=gW (n:=b.length) (by omega)
   simp; omega
  ·have h2:=gW (n:=(H6 es).length) (by omega)
   simp; omega
theorem cY:∀ es:List Aa,Wy es < 67108864->(H6 es).length<=8 * Wy es
 | [],_=>by simp [H6]
 | v :: vs,h=>by
  rw [Wy] at h ⊢
  have h1:=uQ v (by omega)
  have h2:=cY vs (by omega)
  rw [H6,aF3]; omega
end
theorem aEm (n k:Nat) (hk:0 < k):dW (n:Int) (k:Int)=some ((n % k:Nat):Int):=by
 unfold dW
 rw [if_neg (by omega),Int.tmod_eq_emod_of_nonneg (by omega)]; rfl
theorem aE0 (n k:Nat) (hk:0 < k) (hn:n < 4611686018427387904):cD (n:Int) (k:Int)=some ((n / k:Nat):Int):=by
 unfold cD
 have:n / k<=n:=Nat.div_le_self n k
 rw [if_neg (by omega),Int.tdiv_eq_ediv_of_nonneg (by omega),show ((n:Int) / (k:Int))=((n / k:Nat):Int) from rfl,aRd (by omega)]
theorem pZ (n:Nat):∀ (b:List UInt8),n < 281474976710656->cnt n + b.length<=1000->C7 (fun q'=>Ge.l1 q'.1 q'.2) ((n:Int),b)=some (UInt8.ofNat (128 + (be n ++ b).length) :: (be n ++ b)):=by
 induction n using Nat.strongRecOn with
 | _ n ih=>
  intro b hn hb
  rcases aLg n with h0 | h0
  ·subst h0
   refine cU ?_
   show Ge.l1 ((0:Nat):Int) b=_
   unfold Ge.l1
   rw [aBc (by omega),aE8,Hh (by omega),Gd (by simp; omega),show (128:Int) + (b.length:Int)=((128 + b.length:Nat):Int) by omega,Xp,aRs]
   rfl
  ·have hc:=aK h0
   have e:=ih (n / 256) (Nat.div_lt_self h0 (by omega)) ([UInt8.ofNat (n % 256)] ++ b) (Nat.lt_of_le_of_lt (Nat.div_le_self n 256) hn) (by simp; omega)
   refine (Ie (s':=(((n / 256:Nat):Int),[UInt8.ofNat (n % 256)] ++ b)) ?_).trans (e.trans ?_)
   ·show Ge.l1 (n:Int) b=_
    unfold Ge.l1
    rw [aBd (by omega),aHj,show (256:Int)=((256:Nat):Int) from rfl,aEm n 256 (by omega),aAy,Gd (by simp; omega),aAy,aE0 n 256 (by omega) (by omega),aAy,Xp]
   ·rw [tR h0]
    simp
theorem qA {n:Nat} (hn:n < 281474976710656):Ge (n:Int)=some (oR n):=by
 unfold Ge oR
 by_cases h:n < 128
 ·rw [aBd (by omega),if_pos h,Xp]; rfl
 ·rw [aBc (by omega),if_neg h,aE8]
  have hc:=vL 6 n (by simpa using hn)
  refine (pZ n [] hn (by simp; omega)).trans ?_
  rw [List.append_nil]; rfl
theorem aSu (n:Nat):Q3 .i64 (n:Int) 8=some ((n / 256:Nat):Int):=by rw [aPd]; rfl
theorem lR (b:List UInt8) (N:Int) (m:Nat):∀ c:Nat,m < 281474976710656->c + cnt m<=1000->
  C7 (fun q'=>Ey.l1 b N q'.1 q'.2) ((c:Int),(m:Int))=(Hc 1 b ([u8 (W (128 + ((c + cnt m:Nat):Int)))]:List UInt8)).bind fun l_2=>C7 (fun q'=>Ey.l2 N q'.1 q'.2) (W (((c + cnt m:Nat):Int) - 1),l_2):=by
 induction m using Nat.strongRecOn with
 | _ m ih=>
  intro c hm hc
  rcases aLg m with h0 | h0
  ·subst h0
   refine Mw ?_
   show Ey.l1 b N (c:Int) ((0:Nat):Int)=_
   unfold Ey.l1
   rw [aBc (by omega),aE8,wO]
   rfl
  ·have hq:=aK h0
   have e:=ih (m / 256) (Nat.div_lt_self h0 (by omega)) (c + 1) (Nat.lt_of_le_of_lt (Nat.div_le_self m 256) hm) (by omega)
   refine (Ie (s':=(((c + 1:Nat):Int),((m / 256:Nat):Int))) ?_).trans (e.trans ?_)
   ·show Ey.l1 b N (c:Int) (m:Int)=_
    unfold Ey.l1
    rw [aBd (by omega),aHj,aSu,aAy,Kf (by omega)]
   ·rw [show c + 1 + cnt (m / 256)=c + cnt m by omega]
theorem vH {b:List UInt8} {n:Nat} (hn:n < 281474976710656) (hb:b.length < 1073741824):Ey b (n:Int)=some (b ++ oR n):=by
 unfold Ey oR
 by_cases h:n < 128
 ·rw [aBd (by omega),if_pos h,Xp,Gd (by simp; omega)]; rfl
 ·rw [aBc (by omega),if_neg h,aE8]
  have hc:=vL 6 n (by simpa using hn)
  have e:=lR b (n:Int) n 0 hn (by omega)
  refine Eq.trans e ?_
  rw [aNm,Hh (by omega),show (128:Int) + ((cnt n:Nat):Int)=((128 + cnt n:Nat):Int) by omega,Xp,Gd (by simp; omega),aAy]
  have hp:0 < cnt n:=by rw [aK (by omega)]; omega
  rw [Hh (by omega)]
  refine Eq.trans (congrArg (C7 _) ?_) (Je (cnt n) (fun j=>(((cnt n:Int) - 1 - (j:Int)),b ++ [UInt8.ofNat (128 + cnt n)] ++ (be n).take j)) (b ++ UInt8.ofNat (128 + cnt n) :: be n) ?_ ?_)
  ·simp
  ·intro j hj
   have G:=aNt (cnt n) n rfl j hj
   show Ey.l2 (n:Int) ((cnt n:Int) - 1 - (j:Int)) (b ++ [UInt8.ofNat (128 + cnt n)] ++ (be n).take j)=_
   unfold Ey.l2
   have ht:((be n).take j).length<=cnt n:=by rw [aHg]; exact aRp (Nat.min_le_right _ _) (aKp _)
   rw [aBd (by omega),aHj,Hh (by omega),oJ (8 * (cnt n - 1 - j)) (by omega) (by show _<=64; omega),aAy,Gd (by simp; omega),aAy,Hh (by omega),M1 G]
   have hu:u8 ((n:Int) / 2 ^ (8 * (cnt n - 1 - j)))=UInt8.ofNat (n / 256 ^ (cnt n - 1 - j) % 256):=by
    have e1:(n:Int) / 2 ^ (8 * (cnt n - 1 - j))=((n / 2 ^ (8 * (cnt n - 1 - j)):Nat):Int):=by simp
    rw [e1,Xp,Nat.pow_mul,show 2 ^ 8=256 from rfl]
    apply bCp.1
    rw [aUr,aUr]
    omega
   rw [hu,<- aUu]
   congr 3
   omega
  ·show Ey.l2 (n:Int) ((cnt n:Int) - 1 - ((cnt n:Nat):Int)) (b ++ [UInt8.ofNat (128 + cnt n)] ++ (be n).take (cnt n))=_
   unfold Ey.l2
   rw [aBc (by omega),show (be n).take (cnt n)=be n from aKz (aKp _)]
   simp [up]
end
section
open Go
theorem iF (v:Aa):v.put=UInt8.ofNat (v.Tag.toNat % 256) :: (oR v.body.length ++ v.body):=by cases v; exact aLl _ _ _ _
theorem yB (v:Aa):v.body=if v.Nested then H6 v.Elements else v.Bytes:=by cases v; rfl
theorem wU (v:Aa) (h:v.sz < 67108864):v.body.length<=8 * v.sz:=by
 have h1:=uQ v h
 rw [iF] at h1
 simp at h1
 omega
theorem kJ {v:Aa} (h:v.formed=true):u8 v.Tag=UInt8.ofNat (v.Tag.toNat % 256):=by
 rw [Ux] at h
 simp only [aF5] at h
 obtain⟨m,hm⟩:=kA (Re h.1.1.1.1).1 (Re h.1.1.1.1).2
 rw [hm,Xp,aQb,aYa m.2]
theorem vA {v:Aa} (h:v.formed=true):v.Bytes ++ H6 v.Elements=v.body:=by
 rw [Ux] at h
 simp only [aF5] at h
 obtain⟨⟨⟨-,h1⟩,h2⟩,-⟩:=h
 rw [yB]
 cases hn:v.Nested with
 | true=>
  rw [hn] at h1
  have:v.Bytes=[]:=aF9 (by simp at h1; simpa using h1)
  rw [this]; rfl
 | false=>
  rw [hn] at h2
  have:v.Elements=[]:=aF9 (by simp at h2; simpa using h2)
  rw [this]; simp [H6]
theorem vJ {v e:Aa} (h:v.formed=true) (he:e∈v.Elements):e.formed=true:=by
 rw [Ux] at h
 simp only [aF5] at h
 have:=h.2
 rw [V1,aGo] at this
 exact this e he
def Fit (v:Aa):Prop:=v.formed=true/\v.sz < 67108864
theorem Fit.elem {v e:Aa} (h:Fit v) (he:e∈v.Elements):Fit e:=⟨vJ h.1 he,Nat.lt_trans (Tn he) h.2⟩
theorem We {v:Aa} (h:Fit v) (i:Nat):(H6 (v.Elements.take i)).length<=536870912:=by
 have h1:=jQ (es:=v.Elements) i
 have h0:=Si v
 have h2:=h.2
 have h3:=cY v.Elements (by omega)
 omega
theorem zA (v:Aa) (h:Fit v):Fc v=some v.put:=
 Py jD Aa.put Aa.sz Fit (fun rec v hv hr=>by
  show Fc.F rec v=some v.put
  unfold Fc.F
  have hn:=Su v.Elements
  have h0:=Si v
  have hz:=hv.2
  rw [Gd (by simp; omega),aVl,aAy]
  refine Eq.trans (congrArg (C7 _) ?_) (Je v.Elements.length (fun i=>((i:Int),v.Bytes ++ H6 (v.Elements.take i))) v.put ?_ ?_)
  ·simp [H6]
  ·intro i hi
   obtain⟨e,he⟩:∃ e,v.Elements[i]?=some e:=⟨_,aBb hi⟩
   have h1:=Tn (E7 he)
   have h2:=We hv i
   have h3:=uQ e (by omega)
   show Fc.l1 rec v (i:Int) (v.Bytes ++ H6 (v.Elements.take i))=_
   unfold Fc.l1
   rw [G0 he,hr e (hv.elem (E7 he)) h1,aAy,Gd (by simp; omega),Kf (by omega),Uy he,aUu]
   rfl
  ·show Fc.l1 rec v (v.Elements.length:Int) (v.Bytes ++ H6 (v.Elements.take v.Elements.length))=_
   have h4:=wU v hz
   have h5:=gW (n:=v.body.length) (by omega)
   unfold Fc.l1
   rw [Fq,aQa,vA hv.1,qA (by omega),aAy,Gd (by simp; omega),aAy,Gd (by simp; omega),aAy,kJ hv.1,iF]
   simp [up]) v h
theorem eQ {rec:Aa->Option (List UInt8)} {b:List UInt8} {v:Aa} (hr:rec v=some v.body) (hb:b.length<=536870912) (hv:Fit v):Kj rec b v=some (b ++ v.put):=by
 have h4:=wU v hv.2
 have hz:=hv.2
 have h5:=gW (n:=v.body.length) (by omega)
 unfold Kj
 rw [hr,aAy,Gd (by simp; omega),aAy,vH (by omega) (by simp; omega),aAy,Gd (by simp; omega),aAy,kJ hv.1,iF]
 simp
theorem pW (v:Aa) (h:Fit v):Dt v=some v.body:=
 Py bH Aa.body Aa.sz Fit (fun rec v hv hr=>by
  show Dt.F rec v=some v.body
  unfold Dt.F
  have hn:=Su v.Elements
  have h0:=Si v
  have hz:=hv.2
  rw [yB]
  cases hN:v.Nested with
  | false=>rfl
  | true=>
   rw [aI7,aE8,if_pos rfl]
   refine Je v.Elements.length (fun i=>((i:Int),H6 (v.Elements.take i))) (H6 v.Elements) ?_ ?_
   ·intro i hi
    obtain⟨e,he⟩:∃ e,v.Elements[i]?=some e:=⟨_,aBb hi⟩
    have h1:=Tn (E7 he)
    have h2:=We hv i
    have hf:=hv.elem (E7 he)
    show Dt.l1 rec v (i:Int) (H6 (v.Elements.take i))=_
    unfold Dt.l1
    rw [G0 he,eQ (hr e hf h1) h2 hf,Kf (by omega),Uy he]
    rfl
   ·show Dt.l1 rec v (v.Elements.length:Int) (H6 (v.Elements.take v.Elements.length))=_
    unfold Dt.l1
    rw [Fq,aQa]; rfl) v h
theorem fG (v:Aa) (h:Fit v):Nv v=some v.put:=by
 have e:=eQ (rec:=Dt) (b:=[]) (pW v h) (by simp) h
 exact e
def vY (v:Aa):List UInt8×Int:=if v.formed then (if 16 < v.depth then ([],3) else if 4096 < v.put.length then ([],3) else (v.put,0)) else ([],1)
theorem vP (v:Aa) (h:v.sz < 67108864):Oq v=some (vY v):=by
 unfold Oq vY
 rw [uN v (by omega),aAy]
 cases hf:v.formed with
 | false=>rfl
 | true=>
  rw [aI7,aE8,if_pos rfl,aAc v (by omega),aAy]
  by_cases hd:16 < v.depth
  ·rw [aBd (by omega),if_pos hd]; rfl
  ·rw [aBc (by omega),if_neg hd,aE8,fG v ⟨hf,h⟩,aAy]
   by_cases hl:4096 < v.put.length
   ·rw [aBd (by omega),if_pos hl]; rfl
   ·rw [aBc (by omega),if_neg hl]; rfl
theorem pB (v:Aa) (h:v.sz < 67108864):N0 v=some (vY v):=by
 unfold N0 vY
 rw [qI v (by omega),aAy]
 cases hf:v.formed with
 | false=>rfl
 | true=>
  rw [aI7,aE8,if_pos rfl,sJ v (by omega),aAy]
  by_cases hd:16 < v.depth
  ·rw [aBd (by omega),if_pos hd]; rfl
  ·rw [aBc (by omega),if_neg hd,aE8,zA v ⟨hf,h⟩,aAy]
   by_cases hl:4096 < v.put.length
   ·rw [aBd (by omega),if_pos hl]; rfl
   ·rw [aBc (by omega),if_neg hl]; rfl
end
end Go.Proofs.YtboglmbblmakjaaGreatDoor
