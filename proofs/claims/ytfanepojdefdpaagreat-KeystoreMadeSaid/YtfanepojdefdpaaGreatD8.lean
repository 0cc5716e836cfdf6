/- Plain texts, joined. No program is in sight here. -/
import Derived.Test.YtfanepojdefdpaaGreatP1
import Derived.WalkKit
import Derived.Test.YtfanepojdefdpaaGreatL3
set_option linter.unusedVariables false
set_option linter.unusedSimpArgs false
set_option maxRecDepth 100000
namespace Go.Proofs.YtfanepojdefdpaaGreat
section
open Go
def Va (t:Int):Bool:=decide (1<=t) && decide (t<=255) && (t % 32 != 31)
def Vg (t:Int):Bool:=t / 32 % 2 == 1
mutual
def Aa.formed:Aa->Bool
 | .mk t b n es=>Va t && (n == Vg t) && !(n && decide (0 < b.length)) && !(!n && decide (0 < es.length)) && Hw es
def Hw:List Aa->Bool
 | []=>true
 | v :: vs=>v.formed && Hw vs
end
theorem Mm:∀ es:List Aa,Hw es=es.all Aa.formed
 | []=>by simp [Hw]
 | v :: vs=>by rw [Hw,Mm vs,List.all_cons]
mutual
def Aa.depth:Aa->Nat
 | .mk _ _ _ es=>Ei es + 1
def Ei:List Aa->Nat
 | []=>0
 | v :: vs=>max v.depth (Ei vs)
end
theorem Mq:∀ a b:List Aa,Ei (a ++ b)=max (Ei a) (Ei b)
 | [],b=>by simp [Ei]
 | v :: vs,b=>by rw [yL,Ei,Ei,Mq vs b,Nat.max_assoc]
theorem Kr {es:List Aa} {k:Nat} {d:Aa} (h:es[k]?=some d):Ei (es.take (k + 1))=max (Ei (es.take k)) d.depth:=by
 obtain⟨hk,e⟩:=vM.1 h
 rw [yU hk,Mq,e,Ei,Ei,Nat.max_zero]
mutual
def Aa.same:Aa->Aa->Bool
 | .mk t b n es,.mk t' b' n' es'=>t == t' && n == n' && b == b' && bV es es'
def bV:List Aa->List Aa->Bool
 | [],[]=>true
 | v :: vs,u :: us=>v.same u && bV vs us
 | _,_=>false
end
def Gd:List UInt8->List UInt8
 | x :: y :: r=>if (x=0/\y < 128)\/(x=255/\128<=y) then Gd (y :: r) else x :: y :: r
 | l=>l
def Xm (n:Int) (k:Nat):List UInt8:=(List.range k).map fun j=>UInt8.ofNat ((IntKind.u64.wrap n).toNat / 2 ^ (56 - 8 * j) % 256)
def gA (n:Int):List UInt8:=Gd (Xm n 8)
def H3 (n:Int):Aa:=.mk 2 (gA n) false []
theorem Qj (n:Int):0<=IntKind.u64.wrap n/\IntKind.u64.wrap n < 18446744073709551616:=by
 rw [IntKind.wrap_u64]; omega
theorem X9:∀ l:List UInt8,(Gd l).length<=l.length
 | []=>by simp [Gd]
 | [_]=>by simp [Gd]
 | x :: y :: r=>by
  rw [Gd]
  split
  ·have:=X9 (y :: r); simp at this ⊢; omega
  ·simp
def Ew (n:Int):Nat->Bool
 | 1=>decide (-128<=n/\n < 128)
 | 2=>decide (-32768<=n/\n < 32768)
 | 3=>decide (-8388608<=n/\n < 8388608)
 | 4=>decide (-2147483648<=n/\n < 2147483648)
 | 5=>decide (-549755813888<=n/\n < 549755813888)
 | 6=>decide (-140737488355328<=n/\n < 140737488355328)
 | 7=>decide (-36028797018963968<=n/\n < 36028797018963968)
 | 8=>true
 | _=>false
def Nm (n:Int):Nat:=if Ew n 1 then 1 else if Ew n 2 then 2 else if Ew n 3 then 3 else if Ew n 4 then 4 else if Ew n 5 then 5 else if Ew n 6 then 6 else if Ew n 7 then 7 else 8
def Dd (n:Int) (j:Nat):UInt8:=UInt8.ofNat ((n / 256 ^ j % 256).toNat)
theorem Dr (n:Int) (j:Nat):((Dd n j).toNat:Int)=n / 256 ^ j % 256:=by
 unfold Dd
 have h:0<=n / 256 ^ j % 256/\n / 256 ^ j % 256 < 256:=by omega
 rw [xS,xC (by omega)]
 omega
theorem Xh (n:Int) (j:Nat) (hj:j<=7):(IntKind.u64.wrap n) / 2 ^ (8 * j) % 256=n / 256 ^ j % 256:=by
 rw [IntKind.wrap_u64]
 match j,hj with
 | 0,_=>simp
 | 1,_=>simp; omega
 | 2,_=>simp; omega
 | 3,_=>simp; omega
 | 4,_=>simp; omega
 | 5,_=>simp; omega
 | 6,_=>simp; omega
 | 7,_=>simp; omega
theorem uB (n:Int):Xm n 8=[Dd n 7,Dd n 6,Dd n 5,Dd n 4,Dd n 3,Dd n 2,Dd n 1,Dd n 0]:=by
 have key:∀ j,j<=7->UInt8.ofNat ((IntKind.u64.wrap n).toNat / 2 ^ (8 * j) % 256)=Dd n j:=by
  intro j hj
  have h:=Qj n
  have h2:=Xh n j hj
  unfold Dd
  rw [<- h2]
  obtain⟨m,hm⟩:=Int.eq_ofNat_of_zero_le h.1
  rw [hm]
  congr 1
 have h:=fun j hj=>key j hj
 unfold Xm
 simp only [List.range,List.range.loop,xL,List.map_nil]
 rw [<- h 7 (by omega),<- h 6 (by omega),<- h 5 (by omega),<- h 4 (by omega),<- h 3 (by omega),<- h 2 (by omega),<- h 1 (by omega),<- h 0 (by omega)]
theorem Kc {x y:UInt8} {r:List UInt8} {c:Bool} (h:(((x.toNat:Int)=0/\(y.toNat:Int) < 128)\/((x.toNat:Int)=255/\(128:Int)<=y.toNat))↔c=true):Gd (x :: y :: r)=if c then Gd (y :: r) else x :: y :: r:=by
 have h1:((x=0/\y < 128)\/(x=255/\128<=y))↔(((x.toNat:Int)=0/\(y.toNat:Int) < 128)\/((x.toNat:Int)=255/\(128:Int)<=y.toNat)):=by
  have e0:x=0↔(x.toNat:Int)=0:=⟨fun e=>by rw [e]; rfl,fun e=>UInt8.toNat.inj (by simp; omega)⟩
  have e1:x=255↔(x.toNat:Int)=255:=⟨fun e=>by rw [e]; rfl,fun e=>UInt8.toNat.inj (by simp; omega)⟩
  have e2:y < 128↔(y.toNat:Int) < 128:=by rw [UInt8.lt_iff_toNat_lt]; simp; omega
  have e3:128<=y↔(128:Int)<=y.toNat:=by rw [UInt8.le_iff_toNat_le]; simp; omega
  rw [e0,e1,e2,e3]
 rw [Gd]
 by_cases hc:c=true
 ·rw [if_pos (h1.2 (h.2 hc)),if_pos hc]
 ·rw [if_neg (fun g=>hc (h.1 (h1.1 g))),if_neg hc]
theorem jS (n:Int) (_h1:-9223372036854775808<=n) (_h2:n<=9223372036854775807) (r:List UInt8):Gd (Dd n 7 :: Dd n 6 :: r)=if Ew n 7 then Gd (Dd n 6 :: r) else Dd n 7 :: Dd n 6 :: r:=by
 refine Kc ?_
 rw [Dr,Dr]; unfold Ew; simp; omega
theorem gN (n:Int) (h:Ew n 7=true) (r:List UInt8):Gd (Dd n 6 :: Dd n 5 :: r)=if Ew n 6 then Gd (Dd n 5 :: r) else Dd n 6 :: Dd n 5 :: r:=by
 unfold Ew at h; simp at h
 refine Kc ?_
 rw [Dr,Dr]; unfold Ew; simp; omega
theorem iE (n:Int) (h:Ew n 6=true) (r:List UInt8):Gd (Dd n 5 :: Dd n 4 :: r)=if Ew n 5 then Gd (Dd n 4 :: r) else Dd n 5 :: Dd n 4 :: r:=by
 unfold Ew at h; simp at h
 refine Kc ?_
 rw [Dr,Dr]; unfold Ew; simp; omega
theorem eX (n:Int) (h:Ew n 5=true) (r:List UInt8):Gd (Dd n 4 :: Dd n 3 :: r)=if Ew n 4 then Gd (Dd n 3 :: r) else Dd n 4 :: Dd n 3 :: r:=by
 unfold Ew at h; simp at h
 refine Kc ?_
 rw [Dr,Dr]; unfold Ew; simp; omega
theorem fZ (n:Int) (h:Ew n 4=true) (r:List UInt8):Gd (Dd n 3 :: Dd n 2 :: r)=if Ew n 3 then Gd (Dd n 2 :: r) else Dd n 3 :: Dd n 2 :: r:=by
 unfold Ew at h; simp at h
 refine Kc ?_
 rw [Dr,Dr]; unfold Ew; simp; omega
theorem gY (n:Int) (h:Ew n 3=true) (r:List UInt8):Gd (Dd n 2 :: Dd n 1 :: r)=if Ew n 2 then Gd (Dd n 1 :: r) else Dd n 2 :: Dd n 1 :: r:=by
 unfold Ew at h; simp at h
 refine Kc ?_
 rw [Dr,Dr]; unfold Ew; simp; omega
theorem iG (n:Int) (h:Ew n 2=true) (r:List UInt8):Gd (Dd n 1 :: Dd n 0 :: r)=if Ew n 1 then Gd (Dd n 0 :: r) else Dd n 1 :: Dd n 0 :: r:=by
 unfold Ew at h; simp at h
 refine Kc ?_
 rw [Dr,Dr]; unfold Ew; simp; omega
theorem Dt {n:Int} {j:Nat} (hj:1<=j) (h7:j<=6) (h:¬ Ew n (j + 1)=true):¬ Ew n j=true:=by
 match j,hj,h7 with
 | 1,_,_=>unfold Ew at *; simp at *; omega
 | 2,_,_=>unfold Ew at *; simp at *; omega
 | 3,_,_=>unfold Ew at *; simp at *; omega
 | 4,_,_=>unfold Ew at *; simp at *; omega
 | 5,_,_=>unfold Ew at *; simp at *; omega
 | 6,_,_=>unfold Ew at *; simp at *; omega
theorem bB (n:Int) (h1:-9223372036854775808<=n) (h2:n<=9223372036854775807):gA n=(Xm n 8).drop (8 - Nm n):=by
 unfold gA
 rw [uB]
 by_cases f7:Ew n 7=true
 ·rw [jS n h1 h2,if_pos f7]
  by_cases f6:Ew n 6=true
  ·rw [gN n f7,if_pos f6]
   by_cases f5:Ew n 5=true
   ·rw [iE n f6,if_pos f5]
    by_cases f4:Ew n 4=true
    ·rw [eX n f5,if_pos f4]
     by_cases f3:Ew n 3=true
     ·rw [fZ n f4,if_pos f3]
      by_cases f2:Ew n 2=true
      ·rw [gY n f3,if_pos f2]
       by_cases f1:Ew n 1=true
       ·rw [iG n f2,if_pos f1]
        rw [Gd]
        ·simp [Nm,f1]
        ·intro x y r h; cases h
       ·rw [iG n f2,if_neg f1]
        simp [Nm,f1,f2]
      ·rw [gY n f3,if_neg f2]
       have f1:=Dt (j:=1) (by omega) (by omega) f2
       simp [Nm,f1,f2,f3]
     ·rw [fZ n f4,if_neg f3]
      have f2:=Dt (j:=2) (by omega) (by omega) f3
      have f1:=Dt (j:=1) (by omega) (by omega) f2
      simp [Nm,f1,f2,f3,f4]
    ·rw [eX n f5,if_neg f4]
     have f3:=Dt (j:=3) (by omega) (by omega) f4
     have f2:=Dt (j:=2) (by omega) (by omega) f3
     have f1:=Dt (j:=1) (by omega) (by omega) f2
     simp [Nm,f1,f2,f3,f4,f5]
   ·rw [iE n f6,if_neg f5]
    have f4:=Dt (j:=4) (by omega) (by omega) f5
    have f3:=Dt (j:=3) (by omega) (by omega) f4
    have f2:=Dt (j:=2) (by omega) (by omega) f3
    have f1:=Dt (j:=1) (by omega) (by omega) f2
    simp [Nm,f1,f2,f3,f4,f5,f6]
  ·rw [gN n f7,if_neg f6]
   have f5:=Dt (j:=5) (by omega) (by omega) f6
   have f4:=Dt (j:=4) (by omega) (by omega) f5
   have f3:=Dt (j:=3) (by omega) (by omega) f4
   have f2:=Dt (j:=2) (by omega) (by omega) f3
   have f1:=Dt (j:=1) (by omega) (by omega) f2
   simp [Nm,f1,f2,f3,f4,f5,f6,f7]
 ·rw [jS n h1 h2,if_neg f7]
  have f6:=Dt (j:=6) (by omega) (by omega) f7
  have f5:=Dt (j:=5) (by omega) (by omega) f6
  have f4:=Dt (j:=4) (by omega) (by omega) f5
  have f3:=Dt (j:=3) (by omega) (by omega) f4
  have f2:=Dt (j:=2) (by omega) (by omega) f3
  have f1:=Dt (j:=1) (by omega) (by omega) f2
  simp [Nm,f1,f2,f3,f4,f5,f6,f7]
theorem Yc (n:Int) (h1:-9223372036854775808<=n) (h2:n<=9223372036854775807) (k:Nat) (hk:k<=7) :
  Ew n (k + 1)=true↔(n / 256 ^ (k + 1)=0/\((Dd n k).toNat:Int) < 128)\/(n / 256 ^ (k + 1)=-1/\(128:Int)<=(Dd n k).toNat):=by
 match k,hk with
 | 0,_=>rw [Dr]; unfold Ew; simp; omega
 | 1,_=>rw [Dr]; unfold Ew; simp; omega
 | 2,_=>rw [Dr]; unfold Ew; simp; omega
 | 3,_=>rw [Dr]; unfold Ew; simp; omega
 | 4,_=>rw [Dr]; unfold Ew; simp; omega
 | 5,_=>rw [Dr]; unfold Ew; simp; omega
 | 6,_=>rw [Dr]; unfold Ew; simp; omega
 | 7,_=>rw [Dr]; unfold Ew; simp; omega
theorem Nv (n:Int) (k:Nat) (hk:k<=7):(Xm n 8).drop (7 - k)=Dd n k :: (Xm n 8).drop (8 - k):=by
 rw [uB]
 match k,hk with
 | 0,_=>rfl
 | 1,_=>rfl
 | 2,_=>rfl
 | 3,_=>rfl
 | 4,_=>rfl
 | 5,_=>rfl
 | 6,_=>rfl
 | 7,_=>rfl
theorem Yh (n:Int) (k:Nat) (hk:k<=7) (hn:∀ j,1<=j->j<=k->Ew n j=false) (hf:Ew n (k + 1)=true):Nm n=k + 1:=by
 have g:=fun j (h1:1<=j) (h2:j<=k)=>hn j h1 h2
 unfold Nm
 match k,hk,hf,g with
 | 0,_,hf,_=>simp [hf]
 | 1,_,hf,g=>simp [hf,g 1 (by omega) (by omega)]
 | 2,_,hf,g=>simp [hf,g 1 (by omega) (by omega),g 2 (by omega) (by omega)]
 | 3,_,hf,g=>simp [hf,g 1 (by omega) (by omega),g 2 (by omega) (by omega),g 3 (by omega) (by omega)]
 | 4,_,hf,g=>simp [hf,g 1 (by omega) (by omega),g 2 (by omega) (by omega),g 3 (by omega) (by omega),g 4 (by omega) (by omega)]
 | 5,_,hf,g=>simp [hf,g 1 (by omega) (by omega),g 2 (by omega) (by omega),g 3 (by omega) (by omega),g 4 (by omega) (by omega),g 5 (by omega) (by omega)]
 | 6,_,hf,g=>simp [hf,g 1 (by omega) (by omega),g 2 (by omega) (by omega),g 3 (by omega) (by omega),g 4 (by omega) (by omega),g 5 (by omega) (by omega),g 6 (by omega) (by omega)]
 | 7,_,_,g=>simp [g 1 (by omega) (by omega),g 2 (by omega) (by omega),g 3 (by omega) (by omega),g 4 (by omega) (by omega),g 5 (by omega) (by omega),g 6 (by omega) (by omega),g 7 (by omega) (by omega)]
theorem gI (n:Int) (k:Nat):n / 256 ^ (k + 1) / 256=n / 256 ^ (k + 1 + 1):=by
 rw [Int.pow_succ 256 (k + 1)]
 have h:(0:Int)<=256 ^ (k + 1):=Int.pow_nonneg (by omega)
 first | exact Int.ediv_ediv_of_nonneg h | exact Int.ediv_ediv_eq_ediv_mul _ h | (rw [Int.ediv_ediv,if_neg (by omega)]; simp)
def be (n:Nat):List UInt8:=if h:n=0 then [] else be (n / 256) ++ [UInt8.ofNat (n % 256)]
termination_by n
decreasing_by omega
theorem tG:be 0=[]:=by rw [be]; rfl
theorem Zf {n:Nat} (h:0 < n):be n=be (n / 256) ++ [UInt8.ofNat (n % 256)]:=by rw [be]; rw [dif_neg (by omega)]
def M1 (n:Nat):Nat:=(be n).length
theorem aW:M1 0=0:=by unfold M1; rw [tG]; rfl
theorem Pk {n:Nat} (h:0 < n):M1 n=M1 (n / 256) + 1:=by unfold M1; rw [Zf h]; simp
theorem oX:∀ (c n:Nat),M1 n=c->∀ j,j < c->(be n)[j]?=some (UInt8.ofNat (n / 256 ^ (c - 1 - j) % 256)):=by
 intro c
 induction c with
 | zero=>intro n _ j hj; omega
 | succ c ih=>
  intro n hn j hj
  have hpos:0 < n:=by
   rcases wJ n with h | h
   ·subst h; rw [aW] at hn; omega
   ·exact h
  have hc:M1 (n / 256)=c:=by rw [Pk hpos] at hn; omega
  rw [Zf hpos,zO]
  have hl:(be (n / 256)).length=c:=hc
  rw [hl]
  by_cases h:j < c
  ·rw [if_pos h,ih _ hc j h]
   have e:n / 256 / 256 ^ (c - 1 - j)=n / 256 ^ (c + 1 - 1 - j):=by
    rw [Nat.div_div_eq_div_mul,show c + 1 - 1 - j=(c - 1 - j) + 1 by omega,Nat.pow_succ,xW]
   rw [e]
  ·obtain rfl:j=c:=by omega
   rw [if_neg h]
   simp
theorem Z1 (k:Nat):∀ n,n < 256 ^ k->M1 n<=k:=by
 induction k with
 | zero=>
  intro n h
  have:n=0:=by simpa using h
  subst this
  rw [aW]
  omega
 | succ k ih=>
  intro n h
  rcases wJ n with h0 | h0
  ·subst h0; rw [aW]; omega
  ·rw [Pk h0]
   have:=ih (n / 256) (by rw [Nat.pow_succ] at h; exact Nat.div_lt_of_lt_mul (by rw [xW]; exact h))
   omega
def W4 (n:Nat):List UInt8:=if n < 128 then [UInt8.ofNat n] else UInt8.ofNat (128 + M1 n) :: be n
mutual
def Aa.put:Aa->List UInt8
 | .mk t b n es=>UInt8.ofNat (t.toNat % 256) :: (W4 ((if n then Em es else b).length) ++ (if n then Em es else b))
def Em:List Aa->List UInt8
 | []=>[]
 | v :: vs=>v.put ++ Em vs
end
def Aa.body:Aa->List UInt8 | .mk _ b n es=>if n then Em es else b
theorem pK (t:Int) (b:List UInt8) (n:Bool) (es:List Aa):(Aa.mk t b n es).put=UInt8.ofNat (t.toNat % 256) :: (W4 (Aa.mk t b n es).body.length ++ (Aa.mk t b n es).body):=by rw [Aa.put]; rfl
theorem Lc:∀ a b:List Aa,Em (a ++ b)=Em a ++ Em b
 | [],b=>by simp [Em]
 | v :: vs,b=>by rw [yL,Em,Em,Lc vs b,wT]
theorem L3 {es:List Aa} {k:Nat} {d:Aa} (h:es[k]?=some d):Em (es.take (k + 1))=Em (es.take k) ++ d.put:=by
 obtain⟨hk,e⟩:=vM.1 h
 rw [yU hk,Lc,e]
 simp [Em]
theorem Tt {es:List Aa} (k:Nat):(Em (es.take k)).length<=(Em es).length:=by
 have:=Lc (es.take k) (es.drop k)
 rw [yB] at this
 rw [this,vR]; omega
theorem Ss {n:Nat} (h:n < 256 ^ 6):(W4 n).length<=7:=by
 unfold W4
 split
 ·simp
 ·have:=Z1 6 n h
  unfold M1 at this
  simp; omega
end
section
open Go
end
section
open Go
mutual
def Aa.sz:Aa->Nat
 | .mk _ b _ es=>b.length + Ij es + 1
def Ij:List Aa->Nat
 | []=>0
 | v :: vs=>v.sz + Ij vs
end
theorem Jv (v:Aa):v.sz=v.Bytes.length + Ij v.Elements + 1:=by cases v; rw [Aa.sz]
theorem S6:∀ {es:List Aa} {d:Aa},d∈es->d.sz<=Ij es
 | v :: vs,d,h=>by
  rw [Ij]
  rcases wA.1 h with rfl | h
  ·omega
  ·have:=S6 h; omega
theorem I9:∀ es:List Aa,es.length<=Ij es
 | []=>wR _
 | v :: vs=>by
  have:=I9 vs
  rw [Ij,xA,Jv]; omega
theorem Ky {v d:Aa} (h:d∈v.Elements):d.sz < v.sz:=by
 have:=S6 h
 rw [Jv v]; omega
theorem Yi {b:List UInt8} (h:b.length < 1073741824):D4 b=some b:=by
 unfold D4 D4.j1
 have e:Fk 1 ([]:List UInt8) b=some b:=by rw [Dj (by simp; omega)]; rfl
 rw [e]
 unfold U8
 split
 ·rename_i h0; subst h0; simp
 ·rfl
theorem Th (l:List Aa) (h:Ij l < 1073741824):Ci l=some l:=
 Ig Sf id Ij (fun l=>Ij l < 1073741824) (fun rec l hl hr=>by
  show Ci.F rec l=some l
  unfold Ci.F
  have hn:=I9 l
  refine (D8 l.length (fun i=>((i:Int),l.take i)) l ?_ ?_).trans ?_
  ·intro i hi
   obtain⟨e,he⟩:∃ e,l[i]?=some e:=⟨_,vJ hi⟩
   have h1:=S6 (Ef he)
   have h2:=Jv e
   show Ci.l1 rec l (i:Int) (l.take i)=_
   unfold Ci.l1
   rw [Dw he,Yi (by omega),hr e.Elements (by omega) (by omega)]
   simp only [id,vI]
   rw [Dj (by simp; omega),Du (by omega),En he]
   cases e; rfl
  ·show Ci.l1 rec l (l.length:Int) (l.take l.length)=_
   unfold Ci.l1
   rw [Db,wP]; rfl
  ·rfl) l h
theorem Wg (l:List Aa) (h:Ij l < 1073741824):Bz l=some l:=
 Ig Pe id Ij (fun l=>Ij l < 1073741824) (fun rec l hl hr=>by
  show Bz.F rec l=some l
  unfold Bz.F
  have hn:=I9 l
  refine (D8 l.length (fun i=>((i:Int),l.take i)) l ?_ ?_).trans ?_
  ·intro i hi
   obtain⟨e,he⟩:∃ e,l[i]?=some e:=⟨_,vJ hi⟩
   have h1:=S6 (Ef he)
   have h2:=Jv e
   show Bz.l1 rec l (i:Int) (l.take i)=_
   unfold Bz.l1
   rw [Dw he,Dj (by simp; omega)]
   simp only [zX,vI]
   rw [hr e.Elements (by omega) (by omega)]
   simp only [id,vI]
   rw [Dj (by simp; omega),Du (by omega),En he]
   cases e; rfl
  ·show Bz.l1 rec l (l.length:Int) (l.take l.length)=_
   unfold Bz.l1
   rw [Db,wP]; rfl
  ·rfl) l h
theorem Qp (l:List Aa) (h:Ij l < 1073741824):Gg l=some (.mk 48 [] true l):=by unfold Gg; rw [Th l h]; rfl
theorem Uy (l:List Aa) (h:Ij l < 1073741824):Ib l=some (.mk 48 [] true l):=by unfold Ib; first | (rw [Qp l h]; rfl) | (rw [Th l h]; rfl)
theorem Ft (l:List Aa) (h:Ij l < 1073741824):De l=some (.mk 48 [] true l):=by unfold De; rw [Wg l h]; rfl
theorem Up {n:Int} (h1:1<=n) (h2:n<=255):∃ m:Fin 256,n=(m.val:Int):=⟨⟨n.toNat,by omega⟩,by simp; omega⟩
theorem dM:∀ m:Fin 256,(!decide (dW .i64 (m.val:Int) 31=31))=((m.val:Int) % 32 != 31):=by decide +kernel
theorem cK:∀ m:Fin 256,(!decide (dW .i64 (m.val:Int) 32=0))=Vg (m.val:Int):=by decide +kernel
theorem dL:∀ m:Fin 256,(!decide ((m.val:Int).tmod 32=31))=((m.val:Int) % 32 != 31):=by decide +kernel
theorem dO:∀ m:Fin 256,((Qq (m.val:Int) 32).bind fun q=>(Qy q 2).bind fun r=>some (decide (r=1)))=some (Vg (m.val:Int)):=by decide +kernel
theorem lJ (n:Int):Lr n=some (Va n):=by
 unfold Lr Va
 by_cases h1:1<=n
 ·by_cases h2:n<=255
  ·obtain⟨m,rfl⟩:=Up h1 h2
   rw [dM m,vL h1,vL h2]; rfl
  ·simp [h1,h2]
 ·simp [h1]
theorem dB (n:Int):Jd n=some (Va n):=by
 unfold Jd Va
 by_cases h1:1<=n
 ·by_cases h2:n<=255
  ·obtain⟨m,rfl⟩:=Up h1 h2
   rw [<- dL m,vL h1,vL h2]; rfl
  ·simp [h1,h2]
 ·simp [h1]
theorem I5 {n:Int} (h:Va n=true):1<=n/\n<=255:=by
 unfold Va at h
 simp only [vN,xF] at h
 exact⟨h.1.1,h.1.2⟩
theorem Lv (v:Aa):v.formed=(Va v.Tag && (v.Nested == Vg v.Tag) && !(v.Nested && decide (0 < v.Bytes.length)) && !(!v.Nested && decide (0 < v.Elements.length)) && Hw v.Elements):=by cases v; rw [Aa.formed]
theorem Ry (l:List Aa):(!l.any fun v=>!v.formed)=Hw l:=by
 rw [Mm]
 induction l with
 | nil=>rfl
 | cons v l ih=>rw [xY,List.all_cons,<- ih]; cases v.formed <;> simp
theorem Zw (v:Aa) (h:v.sz < 1073741824):B2 v=some v.formed:=
 Ig Sd Aa.formed Aa.sz (fun v=>v.sz < 1073741824) (fun rec v hv hr=>by
  show B2.F rec v=some v.formed
  have hn:=I9 v.Elements
  have h0:=Jv v
  have hj1:B2.j1 rec v true=some false:=rfl
  have hj2:B2.j1 rec v false=some (Hw v.Elements):=by
   unfold B2.j1 Cq Bc
   have hl:C5 (fun q'=>Bc.l1 v.Elements (fun x0=>El rec x0) q') 0=some (match v.Elements.findIdx? (fun v=>!v.formed) with | some i=>(i:Int) | none=>-1):=
    L5 v.Elements (fun i=>(i:Int)) (fun v=>!v.formed) (fun i=>(i:Int)) (-1) (fun i x hx=>by
     have h1:=Ky (Ef hx)
     have h2:=Jc hx
     unfold Bc.l1 El
     rw [Dw hx]
     dsimp only
     rw [hr x (by omega) h1,Du (by omega)]
     cases x.formed <;> rfl) (by unfold Bc.l1; rw [Db]; rfl)
   rw [hl,<- Ry]
   simp only [vQ,vI]
   cases hq:v.Elements.findIdx? (fun v=>!v.formed) with
   | none=>
    have:=zP.1 hq
    have:(v.Elements.any fun v=>!v.formed)=false:=by rw [yF]; simpa using this
    rw [this]; rfl
   | some i=>
    have:=List.findIdx?_isSome (xs:=v.Elements) (p:=fun v=>!v.formed)
    rw [hq] at this
    rw [<- this]
    simp
  unfold B2.F
  rw [lJ,hj1,hj2,Lv]
  cases ht:Va v.Tag
  ·rfl
  ·obtain⟨m,hm⟩:=Up (I5 ht).1 (I5 ht).2
   rw [hm,cK m]
   cases v.Nested <;> cases Vg (m.val:Int) <;> by_cases hb:0 < v.Bytes.length <;> by_cases he:0 < v.Elements.length <;> simp [hb,he,hj1,hj2]) v h
theorem Wd (v:Aa) (h:v.sz < 1073741824):Bb v=some v.formed:=
 Ig P9 Aa.formed Aa.sz (fun v=>v.sz < 1073741824) (fun rec v hv hr=>by
  show Bb.F rec v=some v.formed
  have hn:=I9 v.Elements
  have h0:=Jv v
  have hj1:Bb.j1 rec v true=some false:=rfl
  have hj2:Bb.j1 rec v false=some (Hw v.Elements):=by
   unfold Bb.j1
   have hl:=Px (body:=fun q'=>Bb.l2 rec v q') v.Elements (fun i=>(i:Int)) (fun v=>!v.formed) false true (fun i x hx=>by
     have h1:=Ky (Ef hx)
     have h2:=Jc hx
     unfold Bb.l2
     rw [Dw hx,hr x (by omega) h1,Du (by omega)]
     cases x.formed <;> rfl) (by unfold Bb.l2; rw [Db]; rfl)
   rw [vQ]
   refine Eq.trans hl ?_
   rw [<- Ry]
   cases v.Elements.any fun v=>!v.formed <;> rfl
  unfold Bb.F
  rw [dB,hj1,hj2,Lv]
  cases ht:Va v.Tag
  ·rfl
  ·obtain⟨m,hm⟩:=Up (I5 ht).1 (I5 ht).2
   have hq:=dO m
   rw [hm]
   cases h1:Qq (m.val:Int) 32 with
   | none=>rw [h1] at hq; cases hq
   | some q=>
    rw [h1] at hq
    simp only [vI] at hq
    cases h2:Qy q 2 with
    | none=>rw [h2] at hq; cases hq
    | some r=>
     rw [h2] at hq
     simp only [vI,Option.some.injEq] at hq
     simp only [vI,h2,hq]
     cases v.Nested <;> cases Vg (m.val:Int) <;> by_cases hb:0 < v.Bytes.length <;> by_cases he:0 < v.Elements.length <;> simp [hb,he,hj1,hj2]) v h
theorem Nn:∀ es:List Aa,Ei es<=Ij es
 | []=>wR _
 | v :: vs=>by
  obtain⟨t,b,n,es⟩:=v
  have h1:=Nn es
  have h2:=Nn vs
  rw [Ei,Ij,Aa.depth,Aa.sz]; omega
theorem Xp (v:Aa):v.depth<=v.sz:=by
 obtain⟨t,b,n,es⟩:=v
 have:=Nn es
 rw [Aa.depth,Aa.sz]; omega
theorem X7 (v:Aa):v.depth=Ei v.Elements + 1:=by cases v; rw [Aa.depth]
theorem cT (v:Aa) (h:v.sz < 1073741824):Ct v=some (v.depth:Int):=
 Ig Ts (fun v=>(v.depth:Int)) Aa.sz (fun v=>v.sz < 1073741824) (fun rec v hv hr=>by
  show Ct.F rec v=some (v.depth:Int)
  unfold Ct.F
  have hn:=I9 v.Elements
  have h0:=Jv v
  have hd:=Xp v
  have hq:=X7 v
  refine (D8 v.Elements.length (fun i=>((Ei (v.Elements.take i):Int),(i:Int))) (v.depth:Int) ?_ ?_).trans ?_
  ·intro i hi
   obtain⟨e,he⟩:∃ e,v.Elements[i]?=some e:=⟨_,vJ hi⟩
   have h1:=Ky (Ef he)
   show Ct.l1 rec v (Ei (v.Elements.take i):Int) (i:Int)=_
   unfold Ct.l1
   rw [Dw he,hr e (by omega) h1,Du (by omega),Kr he]
   simp only [vI]
   congr 3
   omega
  ·show Ct.l1 rec v (Ei (v.Elements.take v.Elements.length):Int) (v.Elements.length:Int)=_
   unfold Ct.l1
   rw [Db,wP,Hy (by omega),hq]; rfl
  ·rfl) v h
theorem Yl (v:Aa) (h:v.sz < 1073741824):Ca v=some (v.depth:Int):=
 Ig Rl (fun v=>(v.depth:Int)) Aa.sz (fun v=>v.sz < 1073741824) (fun rec v hv hr=>by
  show Ca.F rec v=some (v.depth:Int)
  unfold Ca.F
  have hn:=I9 v.Elements
  have h0:=Jv v
  have hd:=Xp v
  have hq:=X7 v
  refine (D8 v.Elements.length (fun i=>((Ei (v.Elements.take i):Int),(i:Int))) (v.depth:Int) ?_ ?_).trans ?_
  ·intro i hi
   obtain⟨e,he⟩:∃ e,v.Elements[i]?=some e:=⟨_,vJ hi⟩
   have h1:=Ky (Ef he)
   show Ca.l1 rec v (Ei (v.Elements.take i):Int) (i:Int)=_
   unfold Ca.l1
   rw [Dw he,hr e (by omega) h1,Du (by omega),Kr he]
   simp only [vI]
   congr 3
   omega
  ·show Ca.l1 rec v (Ei (v.Elements.take v.Elements.length):Int) (v.Elements.length:Int)=_
   unfold Ca.l1
   rw [Db,wP,Hy (by omega),hq]; rfl
  ·rfl) v h
end
section
open Go
theorem No (m:Nat):u8 (m:Int)=UInt8.ofNat m:=by
 apply yX.1
 have:=Yb (m:Int)
 rw [xS]
 omega
theorem jN (n:Int) (k:Nat):u8 (n / 256 ^ k)=Dd n k:=rfl
theorem Wv {k:IntKind} {x y:Int} (e:Nat) (hy:y=(e:Int)) (he:e<=k.bits):M3 k x y=some (x / 2 ^ e):=by
 subst hy
 unfold M3
 rw [if_neg (by omega),yY,zS he,zN]
 exact Int.pow_nonneg (by omega)
theorem pS {x:Int}:M3 .i64 x 8=some (x / 256):=Wv (k:=.i64) 8 rfl (by decide)
theorem gD (n:Int) (k:Nat):Xm n (k + 1)=Xm n k ++ [UInt8.ofNat ((IntKind.u64.wrap n).toNat / 2 ^ (56 - 8 * k) % 256)]:=by
 unfold Xm
 rw [List.range_succ,xK]; rfl
theorem S4 (n:Int) (k:Nat):(Xm n k).length=k:=by unfold Xm; simp
theorem kX (n:Int) (e:Nat):u8 (IntKind.u64.wrap n / 2 ^ e)=UInt8.ofNat ((IntKind.u64.wrap n).toNat / 2 ^ e % 256):=by
 have h:=Qj n
 obtain⟨m,hm⟩:=Int.eq_ofNat_of_zero_le h.1
 rw [hm,yY]
 have:(m:Int) / 2 ^ e=((m / 2 ^ e:Nat):Int):=by simp
 rw [this,No]
 apply yX.1
 rw [xS,xS]
 omega
theorem Z6 (x y:UInt8) (r:List UInt8):Gd (x :: y :: r)=if ((x.toNat:Int)=0/\(y.toNat:Int) < 128)\/((x.toNat:Int)=255/\(128:Int)<=(y.toNat:Int)) then Gd (y :: r) else x :: y :: r:=by
 rw [Gd]
 have e0:(x=0)↔((x.toNat:Int)=0):=by rw [<- yX]; simp
 have e1:(x=255)↔((x.toNat:Int)=255):=by rw [<- yX]; simp; omega
 have e2:(y < 128)↔((y.toNat:Int) < 128):=by rw [UInt8.lt_iff_toNat_lt]; simp; omega
 have e3:(128<=y)↔((128:Int)<=(y.toNat:Int)):=by rw [UInt8.le_iff_toNat_le]; simp; omega
 simp only [e0,e1,e2,e3]
theorem Oi:∀ b:List UInt8,b.length<=8->C5 (fun q'=>By.l2 q') b=some (.mk 2 (Gd b) false [])
 | [],_=>by rw [E9]; rfl
 | [x],_=>by rw [E9]; rfl
 | x :: y :: r,h=>by
  have ih:=Oi (y :: r) (by simp at h ⊢; omega)
  have hl:(1:Int) < ((x :: y :: r).length:Int):=by simp; omega
  have hs:rD (x :: y :: r) 1 ((x :: y :: r).length:Int)=some (y :: r):=by
   unfold rD
   rw [if_pos ⟨by omega,by omega,by omega⟩]
   congr 1
   exact wO (by simp; omega)
  have hg0:C2 (x :: y :: r) 0=some x:=rfl
  have hg1:C2 (x :: y :: r) 1=some y:=rfl
  have hj:By.j3 (x :: y :: r) true=some (.next (y :: r)):=by unfold By.j3; rw [hs]; rfl
  have hk:By.j3 (x :: y :: r) false=some (.done (.mk 2 (x :: y :: r) false [])):=rfl
  have hb:By.l2 (x :: y :: r)=some (if ((x.toNat:Int)=0/\(y.toNat:Int) < 128)\/((x.toNat:Int)=255/\(128:Int)<=(y.toNat:Int)) then .next (y :: r) else .done (.mk 2 (x :: y :: r) false [])):=by
   unfold By.l2
   rw [vL hl,hg0,hg1]
   simp only [wD,vI]
   by_cases a0:(x.toNat:Int)=0
   ·have a1:¬ (x.toNat:Int)=255:=by omega
    by_cases c0:(y.toNat:Int) < 128
    ·rw [vL a0,vL c0,if_pos (.inl ⟨a0,c0⟩)]; simp only [wD,vQ]; exact hj
    ·rw [vL a0,vK c0,vK a1,if_neg (by omega)]; simp only [wD,vQ]; exact hk
   ·by_cases a1:(x.toNat:Int)=255
    ·rw [vK a0,vL a1]
     by_cases c1:(128:Int)<=(y.toNat:Int)
     ·rw [vL c1,if_pos (.inr ⟨a1,c1⟩)]; simp only [wD,vQ]; exact hj
     ·rw [vK c1,if_neg (by omega)]; simp only [wD,vQ]; exact hk
    ·rw [vK a0,vK a1,if_neg (by omega)]; simp only [wD,vQ]; exact hk
  rw [E9,Z6]
  rw [hb]
  split
  ·exact ih
  ·rfl
theorem N4 (n:Int):By n=some (H3 n):=by
 unfold By
 refine D8 8 (fun k=>((56 - 8 * (k:Int)),Xm n k)) (H3 n) ?_ ?_
 ·intro k hk
  show By.l1 n (56 - 8 * (k:Int)) (Xm n k)=_
  unfold By.l1
  rw [vL (by omega),Wv (56 - 8 * k) (by omega) (by show 56 - 8 * k<=64; omega)]
  simp only [wD,vI]
  rw [Dj (by rw [S4]; simp; omega),Hy (by omega),kX,<- gD]
  simp only [vI]
  congr 3
  omega
 ·show By.l1 n (56 - 8 * ((8:Nat):Int)) (Xm n 8)=_
  unfold By.l1
  rw [Oi _ (by rw [S4]; omega)]
  rfl
theorem T8 (x:Int) (y:UInt8) (r:List UInt8):Bm.l1 x (y :: r)=Bm.j2 x (y :: r) (!((decide (x=0) && decide ((y.toNat:Int) < 128)) || (decide (x=-1) && decide (128<=(y.toNat:Int))))):=by
 have D:C2 (y :: r) 0=some y:=rfl
 unfold Bm.l1
 by_cases h0:x=0
 ·have h1:¬ x=-1:=by omega
  by_cases c:(y.toNat:Int) < 128
  ·have c':¬ (128:Int)<=(y.toNat:Int):=by omega
   simp [h0,D,c,c']
  ·have c':(128:Int)<=(y.toNat:Int):=by omega
   simp [h0,D,c,c']
 ·by_cases h1:x=-1
  ·by_cases c:(y.toNat:Int) < 128
   ·have c':¬ (128:Int)<=(y.toNat:Int):=by omega
    simp [h1,D,c,c']
   ·have c':(128:Int)<=(y.toNat:Int):=by omega
    simp [h1,D,c,c']
  ·simp [h0,h1]
theorem W1 (n:Int) (h1:-9223372036854775808<=n) (h2:n<=9223372036854775807):∀ d k,k + d=7->(∀ j,1<=j->j<=k->Ew n j=false)->C5 (fun q'=>Bm.l1 q'.1 q'.2) (n / 256 ^ (k + 1),(Xm n 8).drop (7 - k))=some (H3 n):=by
 intro d
 induction d with
 | zero=>
  intro k hk hn
  obtain rfl:k=7:=by omega
  have hf:=(Yc n h1 h2 7 (by omega)).1 rfl
  rw [E9]
  dsimp only
  rw [Nv n 7 (by omega),T8]
  have hs:=Yh n 7 (by omega) hn rfl
  have hc:((decide (n / 256 ^ (7 + 1)=0) && decide (((Dd n 7).toNat:Int) < 128)) || (decide (n / 256 ^ (7 + 1)=-1) && decide (128<=((Dd n 7).toNat:Int))))=true:=by simpa using hf
  rw [hc]
  show some (Aa.mk 2 (Dd n 7 :: (Xm n 8).drop (8 - 7)) false [])=some (H3 n)
  unfold H3
  rw [bB n h1 h2,hs,<- Nv n 7 (by omega)]
 | succ d ih=>
  intro k hk hn
  have FI:=Yc n h1 h2 k (by omega)
  rw [E9]
  dsimp only
  rw [Nv n k (by omega),T8]
  cases hf:Ew n (k + 1) with
  | true=>
   have hs:=Yh n k (by omega) hn hf
   have hc:((decide (n / 256 ^ (k + 1)=0) && decide (((Dd n k).toNat:Int) < 128)) || (decide (n / 256 ^ (k + 1)=-1) && decide (128<=((Dd n k).toNat:Int))))=true:=by simpa using FI.1 hf
   rw [hc]
   show some (Aa.mk 2 (Dd n k :: (Xm n 8).drop (8 - k)) false [])=some (H3 n)
   unfold H3
   rw [bB n h1 h2,hs,<- Nv n k (by omega),show 8 - (k + 1)=7 - k by omega]
  | false=>
   have hc:((decide (n / 256 ^ (k + 1)=0) && decide (((Dd n k).toNat:Int) < 128)) || (decide (n / 256 ^ (k + 1)=-1) && decide (128<=((Dd n k).toNat:Int))))=false:=by
    cases hq:((decide (n / 256 ^ (k + 1)=0) && decide (((Dd n k).toNat:Int) < 128)) || (decide (n / 256 ^ (k + 1)=-1) && decide (128<=((Dd n k).toNat:Int)))) with
    | false=>rfl
    | true=>
     have:=FI.2 (by simpa using hq)
     rw [hf] at this; cases this
   rw [hc]
   have e:=ih (k + 1) (by omega) fun j a b=>by
    rcases xN k j with h | h
    ·obtain rfl:j=k + 1:=by omega
     exact hf
    ·exact hn j a h
   rw [Nv n (k + 1) (by omega),show 8 - (k + 1)=7 - k by omega,<- gI] at e
   unfold Bm.j2
   rw [xD,wD,Dj (by simp [S4]; omega),pS,<- Nv n k (by omega)]
   exact e
theorem Et (n:Int) (h1:-9223372036854775808<=n) (h2:n<=9223372036854775807):Bm n=some (H3 n):=by
 unfold Bm
 rw [pS]
 have:=W1 n h1 h2 7 0 (by omega) (fun j a b=>by omega)
 rw [show (Xm n 8).drop (7 - 0)=[Dd n 0] by rw [uB]; rfl] at this
 rw [vI,show u8 n=Dd n 0 by rw [<- jN]; simp]
 exact this
theorem J0 (n:Int):(H3 n).sz<=9:=by
 unfold H3
 rw [Jv]
 have h:=X9 (Xm n 8)
 rw [S4] at h
 show (gA n).length + Ij [] + 1<=9
 unfold gA
 rw [Ij]; omega
end
section
open Go
mutual
theorem Zv:∀ v:Aa,v.sz < 67108864->v.put.length<=8 * v.sz
 | .mk t b n es,h=>by
  rw [Aa.sz] at h ⊢
  have h1:=Ro es (by omega)
  rw [Aa.put]
  cases n
  ·have h2:=Ss (n:=b.length) (by omega)
   simp; omega
  ·have h2:=Ss (n:=(Em es).length) (by omega)
   simp; omega
theorem Ro:∀ es:List Aa,Ij es < 67108864->(Em es).length<=8 * Ij es
 | [],_=>by simp [Em]
 | v :: vs,h=>by
  rw [Ij] at h ⊢
  have h1:=Zv v (by omega)
  have h2:=Ro vs (by omega)
  rw [Em,vR]; omega
end
theorem fH (n k:Nat) (hk:0 < k):Qy (n:Int) (k:Int)=some ((n % k:Nat):Int):=by
 unfold Qy
 rw [if_neg (by omega),Int.tmod_eq_emod_of_nonneg (by omega)]; rfl
theorem jG (n k:Nat) (hk:0 < k) (hn:n < 4611686018427387904):Qq (n:Int) (k:Int)=some ((n / k:Nat):Int):=by
 unfold Qq
 have:n / k<=n:=Nat.div_le_self n k
 rw [if_neg (by omega),Int.tdiv_eq_ediv_of_nonneg (by omega),show ((n:Int) / (k:Int))=((n / k:Nat):Int) from rfl,sK (by omega)]
theorem We (n:Nat):∀ (b:List UInt8),n < 281474976710656->M1 n + b.length<=1000->C5 (fun q'=>Dk.l1 q'.1 q'.2) ((n:Int),b)=some (UInt8.ofNat (128 + (be n ++ b).length) :: (be n ++ b)):=by
 induction n using Nat.strongRecOn with
 | _ n ih=>
  intro b hn hb
  rcases wJ n with h0 | h0
  ·subst h0
   refine Q7 ?_
   show Dk.l1 ((0:Nat):Int) b=_
   unfold Dk.l1
   rw [vK (by omega),vQ,Hy (by omega),Dj (by simp; omega),show (128:Int) + (b.length:Int)=((128 + b.length:Nat):Int) by omega,No,tG]
   rfl
  ·have hc:=Pk h0
   have e:=ih (n / 256) (Nat.div_lt_self h0 (by omega)) ([UInt8.ofNat (n % 256)] ++ b) (xQ (Nat.div_le_self n 256) hn) (by simp; omega)
   refine (Gk (s':=(((n / 256:Nat):Int),[UInt8.ofNat (n % 256)] ++ b)) ?_).trans (e.trans ?_)
   ·show Dk.l1 (n:Int) b=_
    unfold Dk.l1
    rw [vL (by omega),wD,show (256:Int)=((256:Nat):Int) from rfl,fH n 256 (by omega),vI,Dj (by simp; omega),vI,jG n 256 (by omega) (by omega),vI,No]
   ·rw [Zf h0]
    simp
theorem Xa {n:Nat} (hn:n < 281474976710656):Dk (n:Int)=some (W4 n):=by
 unfold Dk W4
 by_cases h:n < 128
 ·rw [vL (by omega),if_pos h,No]; rfl
 ·rw [vK (by omega),if_neg h,vQ]
  have hc:=Z1 6 n (by simpa using hn)
  refine (We n [] hn (by simp; omega)).trans ?_
  rw [zY]; rfl
theorem sG (n:Nat):M3 .i64 (n:Int) 8=some ((n / 256:Nat):Int):=by rw [pS]; rfl
theorem Vd (b:List UInt8) (N:Int) (m:Nat):∀ c:Nat,m < 281474976710656->c + M1 m<=1000->
  C5 (fun q'=>Ch.l1 b N q'.1 q'.2) ((c:Int),(m:Int))=(Fk 1 b ([u8 (W (128 + ((c + M1 m:Nat):Int)))]:List UInt8)).bind fun l_2=>C5 (fun q'=>Ch.l2 N q'.1 q'.2) (W (((c + M1 m:Nat):Int) - 1),l_2):=by
 induction m using Nat.strongRecOn with
 | _ m ih=>
  intro c hm hc
  rcases wJ m with h0 | h0
  ·subst h0
   refine K6 ?_
   show Ch.l1 b N (c:Int) ((0:Nat):Int)=_
   unfold Ch.l1
   rw [vK (by omega),vQ,aW]
   rfl
  ·have hq:=Pk h0
   have e:=ih (m / 256) (Nat.div_lt_self h0 (by omega)) (c + 1) (xQ (Nat.div_le_self m 256) hm) (by omega)
   refine (Gk (s':=(((c + 1:Nat):Int),((m / 256:Nat):Int))) ?_).trans (e.trans ?_)
   ·show Ch.l1 b N (c:Int) (m:Int)=_
    unfold Ch.l1
    rw [vL (by omega),wD,sG,vI,Du (by omega)]
   ·rw [show c + 1 + M1 (m / 256)=c + M1 m by omega]
theorem Zo {b:List UInt8} {n:Nat} (hn:n < 281474976710656) (hb:b.length < 1073741824):Ch b (n:Int)=some (b ++ W4 n):=by
 unfold Ch W4
 by_cases h:n < 128
 ·rw [vL (by omega),if_pos h,No,Dj (by simp; omega)]; rfl
 ·rw [vK (by omega),if_neg h,vQ]
  have hc:=Z1 6 n (by simpa using hn)
  have e:=Vd b (n:Int) n 0 hn (by omega)
  refine Eq.trans e ?_
  rw [wU,Hy (by omega),show (128:Int) + ((M1 n:Nat):Int)=((128 + M1 n:Nat):Int) by omega,No,Dj (by simp; omega),vI]
  have hp:0 < M1 n:=by rw [Pk (by omega)]; omega
  rw [Hy (by omega)]
  refine Eq.trans (congrArg (C5 _) ?_) (D8 (M1 n) (fun j=>(((M1 n:Int) - 1 - (j:Int)),b ++ [UInt8.ofNat (128 + M1 n)] ++ (be n).take j)) (b ++ UInt8.ofNat (128 + M1 n) :: be n) ?_ ?_)
  ·simp
  ·intro j hj
   have D:=oX (M1 n) n rfl j hj
   show Ch.l2 (n:Int) ((M1 n:Int) - 1 - (j:Int)) (b ++ [UInt8.ofNat (128 + M1 n)] ++ (be n).take j)=_
   unfold Ch.l2
   have ht:((be n).take j).length<=M1 n:=by rw [vU]; exact wZ (Nat.min_le_right _ _) (wR _)
   rw [vL (by omega),wD,Hy (by omega),Wv (8 * (M1 n - 1 - j)) (by omega) (by show _<=64; omega),vI,Dj (by simp; omega),vI,Hy (by omega),En D]
   have hu:u8 ((n:Int) / 2 ^ (8 * (M1 n - 1 - j)))=UInt8.ofNat (n / 256 ^ (M1 n - 1 - j) % 256):=by
    have e1:(n:Int) / 2 ^ (8 * (M1 n - 1 - j))=((n / 2 ^ (8 * (M1 n - 1 - j)):Nat):Int):=by simp
    rw [e1,No,Nat.pow_mul,show 2 ^ 8=256 from rfl]
    apply yX.1
    rw [xS,xS]
    omega
   rw [hu,<- wT]
   congr 3
   omega
  ·show Ch.l2 (n:Int) ((M1 n:Int) - 1 - ((M1 n:Nat):Int)) (b ++ [UInt8.ofNat (128 + M1 n)] ++ (be n).take (M1 n))=_
   unfold Ch.l2
   rw [vK (by omega),show (be n).take (M1 n)=be n from wO (wR _)]
   simp [up]
end
section
open Go
theorem Un (v:Aa):v.put=UInt8.ofNat (v.Tag.toNat % 256) :: (W4 v.body.length ++ v.body):=by cases v; exact pK _ _ _ _
theorem bS (v:Aa):v.body=if v.Nested then Em v.Elements else v.Bytes:=by cases v; rfl
theorem bM (v:Aa) (h:v.sz < 67108864):v.body.length<=8 * v.sz:=by
 have h1:=Zv v h
 rw [Un] at h1
 simp at h1
 omega
theorem Ui {v:Aa} (h:v.formed=true):u8 v.Tag=UInt8.ofNat (v.Tag.toNat % 256):=by
 rw [Lv] at h
 simp only [vN] at h
 obtain⟨m,hm⟩:=Up (I5 h.1.1.1.1).1 (I5 h.1.1.1.1).2
 rw [hm,No,yY,xC m.2]
theorem Zp {v:Aa} (h:v.formed=true):v.Bytes ++ Em v.Elements=v.body:=by
 rw [Lv] at h
 simp only [vN] at h
 obtain⟨⟨⟨-,h1⟩,h2⟩,-⟩:=h
 rw [bS]
 cases hn:v.Nested with
 | true=>
  rw [hn] at h1
  have:v.Bytes=[]:=vV (by simp at h1; simpa using h1)
  rw [this]; rfl
 | false=>
  rw [hn] at h2
  have:v.Elements=[]:=vV (by simp at h2; simpa using h2)
  rw [this]; simp [Em]
theorem Zq {v e:Aa} (h:v.formed=true) (he:e∈v.Elements):e.formed=true:=by
 rw [Lv] at h
 simp only [vN] at h
 have:=h.2
 rw [Mm,vY] at this
 exact this e he
def jU (v:Aa):Prop:=v.formed=true/\v.sz < 67108864
theorem jU.elem {v e:Aa} (h:jU v) (he:e∈v.Elements):jU e:=⟨Zq h.1 he,Nat.lt_trans (Ky he) h.2⟩
theorem Mt {v:Aa} (h:jU v) (i:Nat):(Em (v.Elements.take i)).length<=536870912:=by
 have h1:=Tt (es:=v.Elements) i
 have h0:=Jv v
 have h2:=h.2
 have h3:=Ro v.Elements (by omega)
 omega
theorem dY (v:Aa) (h:jU v):Cw v=some v.put:=
 Ig Tz Aa.put Aa.sz jU (fun rec v hv hr=>by
  show Cw.F rec v=some v.put
  unfold Cw.F
  have hn:=I9 v.Elements
  have h0:=Jv v
  have hz:=hv.2
  rw [Dj (by simp; omega),zX,vI]
  refine Eq.trans (congrArg (C5 _) ?_) (D8 v.Elements.length (fun i=>((i:Int),v.Bytes ++ Em (v.Elements.take i))) v.put ?_ ?_)
  ·simp [Em]
  ·intro i hi
   obtain⟨e,he⟩:∃ e,v.Elements[i]?=some e:=⟨_,vJ hi⟩
   have h1:=Ky (Ef he)
   have h2:=Mt hv i
   have h3:=Zv e (by omega)
   show Cw.l1 rec v (i:Int) (v.Bytes ++ Em (v.Elements.take i))=_
   unfold Cw.l1
   rw [Dw he,hr e (hv.elem (Ef he)) h1,vI,Dj (by simp; omega),Du (by omega),L3 he,wT]
   rfl
  ·show Cw.l1 rec v (v.Elements.length:Int) (v.Bytes ++ Em (v.Elements.take v.Elements.length))=_
   have h4:=bM v hz
   have h5:=Ss (n:=v.body.length) (by omega)
   unfold Cw.l1
   rw [Db,wP,Zp hv.1,Xa (by omega),vI,Dj (by simp; omega),vI,Dj (by simp; omega),vI,Ui hv.1,Un]
   simp [up]) v h
theorem Rx {rec:Aa->Option (List UInt8)} {b:List UInt8} {v:Aa} (hr:rec v=some v.body) (hb:b.length<=536870912) (hv:jU v):Fp rec b v=some (b ++ v.put):=by
 have h4:=bM v hv.2
 have hz:=hv.2
 have h5:=Ss (n:=v.body.length) (by omega)
 unfold Fp
 rw [hr,vI,Dj (by simp; omega),vI,Zo (by omega) (by simp; omega),vI,Dj (by simp; omega),vI,Ui hv.1,Un]
 simp
theorem Xc (v:Aa) (h:jU v):Bw v=some v.body:=
 Ig Qe Aa.body Aa.sz jU (fun rec v hv hr=>by
  show Bw.F rec v=some v.body
  unfold Bw.F
  have hn:=I9 v.Elements
  have h0:=Jv v
  have hz:=hv.2
  rw [bS]
  cases hN:v.Nested with
  | false=>rfl
  | true=>
   rw [wM,vQ,if_pos rfl]
   refine D8 v.Elements.length (fun i=>((i:Int),Em (v.Elements.take i))) (Em v.Elements) ?_ ?_
   ·intro i hi
    obtain⟨e,he⟩:∃ e,v.Elements[i]?=some e:=⟨_,vJ hi⟩
    have h1:=Ky (Ef he)
    have h2:=Mt hv i
    have hf:=hv.elem (Ef he)
    show Bw.l1 rec v (i:Int) (Em (v.Elements.take i))=_
    unfold Bw.l1
    rw [Dw he,Rx (hr e hf h1) h2 hf,Du (by omega),L3 he]
    rfl
   ·show Bw.l1 rec v (v.Elements.length:Int) (Em (v.Elements.take v.Elements.length))=_
    unfold Bw.l1
    rw [Db,wP]; rfl) v h
theorem Se (v:Aa) (h:jU v):Hg v=some v.put:=by
 have e:=Rx (rec:=Bw) (b:=[]) (Xc v h) (by simp) h
 exact e
def Yu (v:Aa):List UInt8×Int:=if v.formed then (if 16 < v.depth then ([],3) else if 4096 < v.put.length then ([],3) else (v.put,0)) else ([],1)
theorem aF (v:Aa) (h:v.sz < 67108864):Hx v=some (Yu v):=by
 unfold Hx Yu
 rw [Zw v (by omega),vI]
 cases hf:v.formed with
 | false=>rfl
 | true=>
  rw [wM,vQ,if_pos rfl,cT v (by omega),vI]
  by_cases hd:16 < v.depth
  ·rw [vL (by omega),if_pos hd]; rfl
  ·rw [vK (by omega),if_neg hd,vQ,Se v ⟨hf,h⟩,vI]
   by_cases hl:4096 < v.put.length
   ·rw [vL (by omega),if_pos hl]; rfl
   ·rw [vK (by omega),if_neg hl]; rfl
theorem Pl (v:Aa) (h:v.sz < 67108864):Fw v=some (Yu v):=by
 unfold Fw Yu
 rw [Wd v (by omega),vI]
 cases hf:v.formed with
 | false=>rfl
 | true=>
  rw [wM,vQ,if_pos rfl,Yl v (by omega),vI]
  by_cases hd:16 < v.depth
  ·rw [vL (by omega),if_pos hd]; rfl
  ·rw [vK (by omega),if_neg hd,vQ,dY v ⟨hf,h⟩,vI]
   by_cases hl:4096 < v.put.length
   ·rw [vL (by omega),if_pos hl]; rfl
   ·rw [vK (by omega),if_neg hl]; rfl
end
section
open Go
section
variable {x y z:UInt8} {r:List UInt8}
end
end
end Go.Proofs.YtfanepojdefdpaaGreat
