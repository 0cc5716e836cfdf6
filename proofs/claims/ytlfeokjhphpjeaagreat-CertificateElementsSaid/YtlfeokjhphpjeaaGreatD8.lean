/- Plain texts, joined. No program is in sight here. -/
import Derived.Test.YtlfeokjhphpjeaaGreatP1
import Derived.WalkKit
import Derived.Test.YtlfeokjhphpjeaaGreatL3
set_option linter.unusedVariables false
set_option linter.unusedSimpArgs false
set_option maxRecDepth 100000
namespace Go.Proofs.YtlfeokjhphpjeaaGreat
section
open Go
def Ob (t:Int):Bool:=decide (1<=t) && decide (t<=255) && (t % 32 != 31)
def Nd (t:Int):Bool:=t / 32 % 2 == 1
mutual
def Aa.formed:Aa->Bool
 | .mk t b n es=>Ob t && (n == Nd t) && !(n && decide (0 < b.length)) && !(!n && decide (0 < es.length)) && Cr es
def Cr:List Aa->Bool
 | []=>true
 | v :: vs=>v.formed && Cr vs
end
theorem Oc:∀ es:List Aa,Cr es=es.all Aa.formed
 | []=>by simp [Cr]
 | v :: vs=>by rw [Cr,Oc vs,List.all_cons]
mutual
def Aa.depth:Aa->Nat
 | .mk _ _ _ es=>Dp es + 1
def Dp:List Aa->Nat
 | []=>0
 | v :: vs=>max v.depth (Dp vs)
end
theorem Oj:∀ a b:List Aa,Dp (a ++ b)=max (Dp a) (Dp b)
 | [],b=>by simp [Dp]
 | v :: vs,b=>by rw [aB1,Dp,Dp,Oj vs b,Nat.max_assoc]
theorem Mg {es:List Aa} {k:Nat} {d:Aa} (h:es[k]?=some d):Dp (es.take (k + 1))=max (Dp (es.take k)) d.depth:=by
 obtain⟨hk,e⟩:=List.getElem?_eq_some_iff.1 h
 rw [List.take_succ_eq_append_getElem hk,Oj,e,Dp,Dp,Nat.max_zero]
def Gh:List UInt8->List UInt8
 | x :: y :: r=>if (x=0/\y < 128)\/(x=255/\128<=y) then Gh (y :: r) else x :: y :: r
 | l=>l
def Xo (n:Int) (k:Nat):List UInt8:=(List.range k).map fun j=>UInt8.ofNat ((IntKind.u64.wrap n).toNat / 2 ^ (56 - 8 * j) % 256)
def Nz (n:Int):List UInt8:=Gh (Xo n 8)
def I0 (n:Int):Aa:=.mk 2 (Nz n) false []
theorem Sj (n:Int):0<=IntKind.u64.wrap n/\IntKind.u64.wrap n < 18446744073709551616:=by
 rw [IntKind.wrap_u64]; omega
theorem Wz:∀ l:List UInt8,(Gh l).length<=l.length
 | []=>by simp [Gh]
 | [_]=>by simp [Gh]
 | x :: y :: r=>by
  rw [Gh]
  split
  ·have:=Wz (y :: r); simp at this ⊢; omega
  ·simp
def E4 (n:Int):Nat->Bool
 | 1=>decide (-128<=n/\n < 128)
 | 2=>decide (-32768<=n/\n < 32768)
 | 3=>decide (-8388608<=n/\n < 8388608)
 | 4=>decide (-2147483648<=n/\n < 2147483648)
 | 5=>decide (-549755813888<=n/\n < 549755813888)
 | 6=>decide (-140737488355328<=n/\n < 140737488355328)
 | 7=>decide (-36028797018963968<=n/\n < 36028797018963968)
 | 8=>true
 | _=>false
def Pf (n:Int):Nat:=if E4 n 1 then 1 else if E4 n 2 then 2 else if E4 n 3 then 3 else if E4 n 4 then 4 else if E4 n 5 then 5 else if E4 n 6 then 6 else if E4 n 7 then 7 else 8
def Ct (n:Int) (j:Nat):UInt8:=UInt8.ofNat ((n / 256 ^ j % 256).toNat)
theorem Du (n:Int) (j:Nat):((Ct n j).toNat:Int)=n / 256 ^ j % 256:=by
 unfold Ct
 have h:0<=n / 256 ^ j % 256/\n / 256 ^ j % 256 < 256:=by omega
 rw [aB4,aBv (by omega)]
 omega
theorem Zo (n:Int) (j:Nat) (hj:j<=7):(IntKind.u64.wrap n) / 2 ^ (8 * j) % 256=n / 256 ^ j % 256:=by
 rw [IntKind.wrap_u64]
 match j,hj with
 | 0,_=>simp
 | 1,_=>simp; omega
 | 2,_=>simp; omega
 | 3,_=>simp; omega
 | 4,_=>simp; omega
 | 5,_=>simp; omega
 | 6,_=>simp; omega
 | 7,_=>simp; omega
theorem zC (n:Int):Xo n 8=[Ct n 7,Ct n 6,Ct n 5,Ct n 4,Ct n 3,Ct n 2,Ct n 1,Ct n 0]:=by
 have key:∀ j,j<=7->UInt8.ofNat ((IntKind.u64.wrap n).toNat / 2 ^ (8 * j) % 256)=Ct n j:=by
  intro j hj
  have h:=Sj n
  have h2:=Zo n j hj
  unfold Ct
  rw [<- h2]
  obtain⟨m,hm⟩:=Int.eq_ofNat_of_zero_le h.1
  rw [hm]
  congr 1
 have h:=fun j hj=>key j hj
 unfold Xo
 simp only [List.range,List.range.loop,aB2,List.map_nil]
 rw [<- h 7 (by omega),<- h 6 (by omega),<- h 5 (by omega),<- h 4 (by omega),<- h 3 (by omega),<- h 2 (by omega),<- h 1 (by omega),<- h 0 (by omega)]
theorem Lx {x y:UInt8} {r:List UInt8} {c:Bool} (h:(((x.toNat:Int)=0/\(y.toNat:Int) < 128)\/((x.toNat:Int)=255/\(128:Int)<=y.toNat))↔c=true):Gh (x :: y :: r)=if c then Gh (y :: r) else x :: y :: r:=by
 have h1:((x=0/\y < 128)\/(x=255/\128<=y))↔(((x.toNat:Int)=0/\(y.toNat:Int) < 128)\/((x.toNat:Int)=255/\(128:Int)<=y.toNat)):=by
  have e0:x=0↔(x.toNat:Int)=0:=⟨fun e=>by rw [e]; rfl,fun e=>UInt8.toNat.inj (by simp; omega)⟩
  have e1:x=255↔(x.toNat:Int)=255:=⟨fun e=>by rw [e]; rfl,fun e=>UInt8.toNat.inj (by simp; omega)⟩
  have e2:y < 128↔(y.toNat:Int) < 128:=by rw [UInt8.lt_iff_toNat_lt]; simp; omega
  have e3:128<=y↔(128:Int)<=y.toNat:=by rw [UInt8.le_iff_toNat_le]; simp; omega
  rw [e0,e1,e2,e3]
 rw [Gh]
 by_cases hc:c=true
 ·rw [if_pos (h1.2 (h.2 hc)),if_pos hc]
 ·rw [if_neg (fun g=>hc (h.1 (h1.1 g))),if_neg hc]
theorem oU (n:Int) (_h1:-9223372036854775808<=n) (_h2:n<=9223372036854775807) (r:List UInt8):Gh (Ct n 7 :: Ct n 6 :: r)=if E4 n 7 then Gh (Ct n 6 :: r) else Ct n 7 :: Ct n 6 :: r:=by
 refine Lx ?_
 rw [Du,Du]; unfold E4; simp; omega
theorem kB (n:Int) (h:E4 n 7=true) (r:List UInt8):Gh (Ct n 6 :: Ct n 5 :: r)=if E4 n 6 then Gh (Ct n 5 :: r) else Ct n 6 :: Ct n 5 :: r:=by
 unfold E4 at h; simp at h
 refine Lx ?_
 rw [Du,Du]; unfold E4; simp; omega
theorem mA (n:Int) (h:E4 n 6=true) (r:List UInt8):Gh (Ct n 5 :: Ct n 4 :: r)=if E4 n 5 then Gh (Ct n 4 :: r) else Ct n 5 :: Ct n 4 :: r:=by
 unfold E4 at h; simp at h
 refine Lx ?_
 rw [Du,Du]; unfold E4; simp; omega
theorem lE (n:Int) (h:E4 n 5=true) (r:List UInt8):Gh (Ct n 4 :: Ct n 3 :: r)=if E4 n 4 then Gh (Ct n 3 :: r) else Ct n 4 :: Ct n 3 :: r:=by
 unfold E4 at h; simp at h
 refine Lx ?_
 rw [Du,Du]; unfold E4; simp; omega
theorem mK (n:Int) (h:E4 n 4=true) (r:List UInt8):Gh (Ct n 3 :: Ct n 2 :: r)=if E4 n 3 then Gh (Ct n 2 :: r) else Ct n 3 :: Ct n 2 :: r:=by
 unfold E4 at h; simp at h
 refine Lx ?_
 rw [Du,Du]; unfold E4; simp; omega
theorem nC (n:Int) (h:E4 n 3=true) (r:List UInt8):Gh (Ct n 2 :: Ct n 1 :: r)=if E4 n 2 then Gh (Ct n 1 :: r) else Ct n 2 :: Ct n 1 :: r:=by
 unfold E4 at h; simp at h
 refine Lx ?_
 rw [Du,Du]; unfold E4; simp; omega
theorem lK (n:Int) (h:E4 n 2=true) (r:List UInt8):Gh (Ct n 1 :: Ct n 0 :: r)=if E4 n 1 then Gh (Ct n 0 :: r) else Ct n 1 :: Ct n 0 :: r:=by
 unfold E4 at h; simp at h
 refine Lx ?_
 rw [Du,Du]; unfold E4; simp; omega
theorem D6 {n:Int} {j:Nat} (hj:1<=j) (h7:j<=6) (h:¬ E4 n (j + 1)=true):¬ E4 n j=true:=by
 match j,hj,h7 with
 | 1,_,_=>unfold E4 at *; simp at *; omega
 | 2,_,_=>unfold E4 at *; simp at *; omega
 | 3,_,_=>unfold E4 at *; simp at *; omega
 | 4,_,_=>unfold E4 at *; simp at *; omega
 | 5,_,_=>unfold E4 at *; simp at *; omega
 | 6,_,_=>unfold E4 at *; simp at *; omega
theorem fV (n:Int) (h1:-9223372036854775808<=n) (h2:n<=9223372036854775807):Nz n=(Xo n 8).drop (8 - Pf n):=by
 unfold Nz
 rw [zC]
 by_cases f7:E4 n 7=true
 ·rw [oU n h1 h2,if_pos f7]
  by_cases f6:E4 n 6=true
  ·rw [kB n f7,if_pos f6]
   by_cases f5:E4 n 5=true
   ·rw [mA n f6,if_pos f5]
    by_cases f4:E4 n 4=true
    ·rw [lE n f5,if_pos f4]
     by_cases f3:E4 n 3=true
     ·rw [mK n f4,if_pos f3]
      by_cases f2:E4 n 2=true
      ·rw [nC n f3,if_pos f2]
       by_cases f1:E4 n 1=true
       ·rw [lK n f2,if_pos f1]
        rw [Gh]
        ·simp [Pf,f1]
        ·intro x y r h; cases h
       ·rw [lK n f2,if_neg f1]
        simp [Pf,f1,f2]
      ·rw [nC n f3,if_neg f2]
       have f1:=D6 (j:=1) (by omega) (by omega) f2
       simp [Pf,f1,f2,f3]
     ·rw [mK n f4,if_neg f3]
      have f2:=D6 (j:=2) (by omega) (by omega) f3
      have f1:=D6 (j:=1) (by omega) (by omega) f2
      simp [Pf,f1,f2,f3,f4]
    ·rw [lE n f5,if_neg f4]
     have f3:=D6 (j:=3) (by omega) (by omega) f4
     have f2:=D6 (j:=2) (by omega) (by omega) f3
     have f1:=D6 (j:=1) (by omega) (by omega) f2
     simp [Pf,f1,f2,f3,f4,f5]
   ·rw [mA n f6,if_neg f5]
    have f4:=D6 (j:=4) (by omega) (by omega) f5
    have f3:=D6 (j:=3) (by omega) (by omega) f4
    have f2:=D6 (j:=2) (by omega) (by omega) f3
    have f1:=D6 (j:=1) (by omega) (by omega) f2
    simp [Pf,f1,f2,f3,f4,f5,f6]
  ·rw [kB n f7,if_neg f6]
   have f5:=D6 (j:=5) (by omega) (by omega) f6
   have f4:=D6 (j:=4) (by omega) (by omega) f5
   have f3:=D6 (j:=3) (by omega) (by omega) f4
   have f2:=D6 (j:=2) (by omega) (by omega) f3
   have f1:=D6 (j:=1) (by omega) (by omega) f2
   simp [Pf,f1,f2,f3,f4,f5,f6,f7]
 ·rw [oU n h1 h2,if_neg f7]
  have f6:=D6 (j:=6) (by omega) (by omega) f7
  have f5:=D6 (j:=5) (by omega) (by omega) f6
  have f4:=D6 (j:=4) (by omega) (by omega) f5
  have f3:=D6 (j:=3) (by omega) (by omega) f4
  have f2:=D6 (j:=2) (by omega) (by omega) f3
  have f1:=D6 (j:=1) (by omega) (by omega) f2
  simp [Pf,f1,f2,f3,f4,f5,f6,f7]
theorem bG (n:Int) (h1:-9223372036854775808<=n) (h2:n<=9223372036854775807) (k:Nat) (hk:k<=7) :
  E4 n (k + 1)=true↔(n / 256 ^ (k + 1)=0/\((Ct n k).toNat:Int) < 128)\/(n / 256 ^ (k + 1)=-1/\(128:Int)<=(Ct n k).toNat):=by
 match k,hk with
 | 0,_=>rw [Du]; unfold E4; simp; omega
 | 1,_=>rw [Du]; unfold E4; simp; omega
 | 2,_=>rw [Du]; unfold E4; simp; omega
 | 3,_=>rw [Du]; unfold E4; simp; omega
 | 4,_=>rw [Du]; unfold E4; simp; omega
 | 5,_=>rw [Du]; unfold E4; simp; omega
 | 6,_=>rw [Du]; unfold E4; simp; omega
 | 7,_=>rw [Du]; unfold E4; simp; omega
theorem Pv (n:Int) (k:Nat) (hk:k<=7):(Xo n 8).drop (7 - k)=Ct n k :: (Xo n 8).drop (8 - k):=by
 rw [zC]
 match k,hk with
 | 0,_=>rfl
 | 1,_=>rfl
 | 2,_=>rfl
 | 3,_=>rfl
 | 4,_=>rfl
 | 5,_=>rfl
 | 6,_=>rfl
 | 7,_=>rfl
theorem cB (n:Int) (k:Nat) (hk:k<=7) (hn:∀ j,1<=j->j<=k->E4 n j=false) (hf:E4 n (k + 1)=true):Pf n=k + 1:=by
 have g:=fun j (h1:1<=j) (h2:j<=k)=>hn j h1 h2
 unfold Pf
 match k,hk,hf,g with
 | 0,_,hf,_=>simp [hf]
 | 1,_,hf,g=>simp [hf,g 1 (by omega) (by omega)]
 | 2,_,hf,g=>simp [hf,g 1 (by omega) (by omega),g 2 (by omega) (by omega)]
 | 3,_,hf,g=>simp [hf,g 1 (by omega) (by omega),g 2 (by omega) (by omega),g 3 (by omega) (by omega)]
 | 4,_,hf,g=>simp [hf,g 1 (by omega) (by omega),g 2 (by omega) (by omega),g 3 (by omega) (by omega),g 4 (by omega) (by omega)]
 | 5,_,hf,g=>simp [hf,g 1 (by omega) (by omega),g 2 (by omega) (by omega),g 3 (by omega) (by omega),g 4 (by omega) (by omega),g 5 (by omega) (by omega)]
 | 6,_,hf,g=>simp [hf,g 1 (by omega) (by omega),g 2 (by omega) (by omega),g 3 (by omega) (by omega),g 4 (by omega) (by omega),g 5 (by omega) (by omega),g 6 (by omega) (by omega)]
 | 7,_,_,g=>simp [g 1 (by omega) (by omega),g 2 (by omega) (by omega),g 3 (by omega) (by omega),g 4 (by omega) (by omega),g 5 (by omega) (by omega),g 6 (by omega) (by omega),g 7 (by omega) (by omega)]
theorem kX (n:Int) (k:Nat):n / 256 ^ (k + 1) / 256=n / 256 ^ (k + 1 + 1):=by
 rw [Int.pow_succ 256 (k + 1)]
 have h:(0:Int)<=256 ^ (k + 1):=Int.pow_nonneg (by omega)
 first | exact Int.ediv_ediv_of_nonneg h | exact Int.ediv_ediv_eq_ediv_mul _ h | (rw [Int.ediv_ediv,if_neg (by omega)]; simp)
def be (n:Nat):List UInt8:=if h:n=0 then [] else be (n / 256) ++ [UInt8.ofNat (n % 256)]
termination_by n
decreasing_by omega
theorem rJ:be 0=[]:=by rw [be]; rfl
theorem Tc {n:Nat} (h:0 < n):be n=be (n / 256) ++ [UInt8.ofNat (n % 256)]:=by rw [be]; rw [dif_neg (by omega)]
def N9 (n:Nat):Nat:=(be n).length
theorem fR:N9 0=0:=by unfold N9; rw [rJ]; rfl
theorem R7 {n:Nat} (h:0 < n):N9 n=N9 (n / 256) + 1:=by unfold N9; rw [Tc h]; simp
theorem vF:∀ (c n:Nat),N9 n=c->∀ j,j < c->(be n)[j]?=some (UInt8.ofNat (n / 256 ^ (c - 1 - j) % 256)):=by
 intro c
 induction c with
 | zero=>intro n _ j hj; omega
 | succ c ih=>
  intro n hn j hj
  have hpos:0 < n:=by
   rcases Nat.eq_zero_or_pos n with h | h
   ·subst h; rw [fR] at hn; omega
   ·exact h
  have hc:N9 (n / 256)=c:=by rw [R7 hpos] at hn; omega
  rw [Tc hpos,aDv]
  have hl:(be (n / 256)).length=c:=hc
  rw [hl]
  by_cases h:j < c
  ·rw [if_pos h,ih _ hc j h]
   have e:n / 256 / 256 ^ (c - 1 - j)=n / 256 ^ (c + 1 - 1 - j):=by
    rw [Nat.div_div_eq_div_mul,show c + 1 - 1 - j=(c - 1 - j) + 1 by omega,Nat.pow_succ,aC6]
   rw [e]
  ·obtain rfl:j=c:=by omega
   rw [if_neg h]
   simp
theorem eF (k:Nat):∀ n,n < 256 ^ k->N9 n<=k:=by
 induction k with
 | zero=>
  intro n h
  have:n=0:=by simpa using h
  subst this
  rw [fR]
  omega
 | succ k ih=>
  intro n h
  rcases Nat.eq_zero_or_pos n with h0 | h0
  ·subst h0; rw [fR]; omega
  ·rw [R7 h0]
   have:=ih (n / 256) (by rw [Nat.pow_succ] at h; exact Nat.div_lt_of_lt_mul (by rw [aC6]; exact h))
   omega
def Kx (n:Nat):List UInt8:=if n < 128 then [UInt8.ofNat n] else UInt8.ofNat (128 + N9 n) :: be n
mutual
def Aa.put:Aa->List UInt8
 | .mk t b n es=>UInt8.ofNat (t.toNat % 256) :: (Kx ((if n then C8 es else b).length) ++ (if n then C8 es else b))
def C8:List Aa->List UInt8
 | []=>[]
 | v :: vs=>v.put ++ C8 vs
end
def Aa.body:Aa->List UInt8 | .mk _ b n es=>if n then C8 es else b
theorem V1 (t:Int) (b:List UInt8) (n:Bool) (es:List Aa):(Aa.mk t b n es).put=UInt8.ofNat (t.toNat % 256) :: (Kx (Aa.mk t b n es).body.length ++ (Aa.mk t b n es).body):=by rw [Aa.put]; rfl
theorem M3:∀ a b:List Aa,C8 (a ++ b)=C8 a ++ C8 b
 | [],b=>by simp [C8]
 | v :: vs,b=>by rw [aB1,C8,C8,M3 vs b,aB3]
theorem M6 {es:List Aa} {k:Nat} {d:Aa} (h:es[k]?=some d):C8 (es.take (k + 1))=C8 (es.take k) ++ d.put:=by
 obtain⟨hk,e⟩:=List.getElem?_eq_some_iff.1 h
 rw [List.take_succ_eq_append_getElem hk,M3,e]
 simp [C8]
theorem V7 {es:List Aa} (k:Nat):(C8 (es.take k)).length<=(C8 es).length:=by
 have:=M3 (es.take k) (es.drop k)
 rw [aB0] at this
 rw [this,List.length_append]; omega
theorem U4 {n:Nat} (h:n < 256 ^ 6):(Kx n).length<=7:=by
 unfold Kx
 split
 ·simp
 ·have:=eF 6 n h
  unfold N9 at this
  simp; omega
end
section
open Go
def F4:List UInt8->Option (Nat×Nat)
 | []=>none
 | x :: r=>if x.toNat < 128 then some (x.toNat,1)
  else if x.toNat=129 then match r with | y :: _=>if y.toNat < 128 then none else some (y.toNat,2) | []=>none
  else if x.toNat=130 then match r with | y :: z :: _=>if y.toNat=0 then none else some (y.toNat * 256 + z.toNat,3) | _=>none
  else none
def X1:List UInt8->Option (Nat×Nat×Nat)
 | []=>none
 | t :: r=>if Ob t.toNat=false then none else match F4 r with
  | none=>none
  | some (n,c)=>if r.length - c < n then none else some (t.toNat,1 + c,n)
theorem cN {r:List UInt8} {n c:Nat} (h:F4 r=some (n,c)):1<=c/\c<=r.length/\c<=3/\n<=65535:=by
 unfold F4 at h
 match r,h with
 | x :: r,h=>
  dsimp only at h
  have hx:=x.toNat_lt
  split at h
  ·simp at h; simp; omega
  ·split at h
   ·match r,h with
    | y :: r',h=>
     have hy:=y.toNat_lt
     dsimp only at h
     split at h
     ·cases h
     ·simp at h; simp; omega
   ·split at h
    ·match r,h with
     | [y],h=>cases h
     | y :: z :: r',h=>
      have hy:=y.toNat_lt
      have hz:=z.toNat_lt
      dsimp only at h
      split at h
      ·cases h
      ·simp at h; simp; omega
    ·cases h
theorem Vd {l:List UInt8} {t o n:Nat} (h:X1 l=some (t,o,n)):2<=o/\o + n<=l.length/\Ob t=true/\t<=255/\n<=65535/\o<=4:=by
 unfold X1 at h
 match l,h with
 | x :: r,h=>
  dsimp only at h
  have hx:=x.toNat_lt
  split at h
  ·cases h
  ·rename_i ht
   cases hs:F4 r with
   | none=>rw [hs] at h; cases h
   | some p=>
    obtain⟨m,c⟩:=p
    rw [hs] at h
    have hb:=cN hs
    dsimp only at h
    split at h
    ·cases h
    ·simp at h
     obtain⟨rfl,rfl,rfl⟩:=h
     simp only [List.length_cons]
     refine⟨by omega,by omega,by simpa using ht,by omega,by omega,by omega⟩
def Ec (l:List UInt8):Option (List Aa):=
 if l=[] then some [] else
 match h:X1 l with
 | none=>none
 | some (t,o,n)=>
  match (if Nd t then (Ec ((l.drop o).take n)).map fun es=>Aa.mk t [] true es else some (Aa.mk t ((l.drop o).take n) false [])) with
  | none=>none
  | some v=>(Ec (l.drop (o + n))).map (v :: ·)
termination_by l.length
decreasing_by
 ·have:=Vd h
  rw [List.length_take,List.length_drop]; omega
 ·have:=Vd h
  rw [List.length_drop]; omega
def Fo (l:List UInt8):Option (Aa×Nat):=
 match X1 l with
 | none=>none
 | some (t,o,n)=>(if Nd t then (Ec ((l.drop o).take n)).map fun es=>Aa.mk t [] true es else some (Aa.mk t ((l.drop o).take n) false [])).map fun v=>(v,o + n)
theorem Jh:Ec []=some []:=by rw [Ec]; rfl
theorem Kh {l:List UInt8} (h:l≠[]):Ec l=match Fo l with | none=>none | some (v,m)=>(Ec (l.drop m)).map (v :: ·):=by
 rw [Ec,if_neg h]
 unfold Fo
 split
 ·rename_i h1; rw [h1]
 ·rename_i t o n h1
  rw [h1]
  dsimp only
  cases (if Nd t then (Ec ((l.drop o).take n)).map fun es=>Aa.mk t [] true es else some (Aa.mk t ((l.drop o).take n) false [])) with
  | none=>rfl
  | some v=>rfl
theorem L9 {l:List UInt8} {t o n:Nat} (h:X1 l=some (t,o,n)):Fo l=(if Nd t then (Ec ((l.drop o).take n)).map fun es=>Aa.mk t [] true es else some (Aa.mk t ((l.drop o).take n) false [])).map fun v=>(v,o + n):=by
 unfold Fo; rw [h]
theorem Jp {l:List UInt8} (h:X1 l=none):Fo l=none:=by unfold Fo; rw [h]
theorem P1 {l:List UInt8} {v:Aa} {m:Nat} (h:Fo l=some (v,m)):2<=m/\m<=l.length:=by
 cases hh:X1 l with
 | none=>rw [Jp hh] at h; cases h
 | some p=>
  obtain⟨t,o,n⟩:=p
  rw [L9 hh] at h
  have:=Vd hh
  simp only [aBi] at h
  obtain⟨a,_,h⟩:=h
  injection h with _ h
  omega
theorem fH {n:Nat} (h:n < 128):Kx n=[UInt8.ofNat n]:=by unfold Kx; rw [if_pos h]
theorem fM {n:Nat} (h:128<=n) (h2:n < 256):Kx n=[129,UInt8.ofNat n]:=by
 have e:be n=[UInt8.ofNat n]:=by rw [Tc (by omega),show n / 256=0 by omega,rJ,show n % 256=n by omega]; rfl
 unfold Kx N9
 rw [if_neg (by omega),e]
 rfl
theorem dE {n:Nat} (h:256<=n) (h2:n < 65536):Kx n=[130,UInt8.ofNat (n / 256),UInt8.ofNat (n % 256)]:=by
 have e:be n=[UInt8.ofNat (n / 256),UInt8.ofNat (n % 256)]:=by
  rw [Tc (by omega),Tc (n:=n / 256) (by omega),show n / 256 / 256=0 by omega,rJ,show n / 256 % 256=n / 256 by omega]; rfl
 unfold Kx N9
 rw [if_neg (by omega),e]
 rfl
theorem nZ {n:Nat} (h:n < 256):(UInt8.ofNat n).toNat=n:=by rw [aB4,aBv h]
theorem U7 (x:UInt8):UInt8.ofNat x.toNat=x:=by simp
theorem eU (n:Nat) (h:n<=65535) (r:List UInt8):F4 (Kx n ++ r)=some (n,(Kx n).length):=by
 by_cases h1:n < 128
 ·rw [fH h1]
  simp [F4,nZ (show n < 256 by omega),h1]
 ·by_cases h2:n < 256
  ·rw [fM (by omega) h2]
   have e:(129:UInt8).toNat=129:=rfl
   simp [F4,nZ h2,h1]
  ·rw [dE (by omega) (by omega)]
   simp [F4,nZ (show n / 256 < 256 by omega),nZ (show n % 256 < 256 by omega)]
   omega
theorem eY {r:List UInt8} {n c:Nat} (h:F4 r=some (n,c)):r.take c=Kx n/\(Kx n).length=c:=by
 unfold F4 at h
 match r,h with
 | x :: r,h=>
  dsimp only at h
  have hx:=x.toNat_lt
  split at h
  ·rename_i h1
   simp at h
   obtain⟨rfl,rfl⟩:=h
   rw [fH h1]
   simp
  ·split at h
   ·rename_i h1 h2
    match r,h with
    | y :: r',h=>
     have hy:=y.toNat_lt
     dsimp only at h
     split at h
     ·cases h
     ·simp at h
      obtain⟨rfl,rfl⟩:=h
      rw [fM (by omega) (by omega),U7]
      have e:x=129:=by apply aCb.1; rw [h2]; rfl
      subst e
      simp
   ·split at h
    ·rename_i h1 h0 h2
     match r,h with
     | [y],h=>cases h
     | y :: z :: r',h=>
      have hy:=y.toNat_lt
      have hz:=z.toNat_lt
      dsimp only at h
      split at h
      ·cases h
      ·simp at h
       obtain⟨rfl,rfl⟩:=h
       rw [dE (by omega) (by omega),show (y.toNat * 256 + z.toNat) / 256=y.toNat by omega,show (y.toNat * 256 + z.toNat) % 256=z.toNat by omega,U7,U7]
       have e:x=130:=by apply aCb.1; rw [h2]; rfl
       subst e
       simp
    ·cases h
theorem S9 {t:Int} (h:Ob t=true):1<=t/\t<=255:=by
 unfold Ob at h
 simp at h
 omega
theorem qT {t:Int} (ht:Ob t=true) (B r:List UInt8) (hB:B.length<=65535):X1 (UInt8.ofNat (t.toNat % 256) :: (Kx B.length ++ B) ++ r)=some (t.toNat,1 + (Kx B.length).length,B.length):=by
 have hr:=S9 ht
 have e:(UInt8.ofNat (t.toNat % 256)).toNat=t.toNat:=by rw [nZ (by omega)]; omega
 have e2:((t.toNat:Nat):Int)=t:=by omega
 rw [aB1,X1,e,e2,ht,aB3,eU _ hB]
 simp
theorem oG {x:UInt8} (L B r:List UInt8):((x :: (L ++ B) ++ r).drop (1 + L.length)).take B.length=B:=by
 rw [aDt 1,aB1,List.drop_succ_cons,aB3,aDp,List.take_left]
mutual
theorem V8:∀ (d:Aa),d.formed=true->d.put.length<=65535->∀ r,Fo (d.put ++ r)=some (d,d.put.length)
 | .mk t b n es,hf,hl,r=>by
  rw [Aa.formed] at hf
  simp only [Bool.and_eq_true,aCe,beq_iff_eq] at hf
  obtain⟨⟨⟨⟨ht,hn⟩,h1⟩,h2⟩,h3⟩:=hf
  rw [V1] at hl ⊢
  have hB:(Aa.mk t b n es).body.length<=65535:=by simp at hl; omega
  have hr:=S9 ht
  have e2:((t.toNat:Nat):Int)=t:=by omega
  rw [L9 (qT ht _ r hB),oG,e2]
  have hlen:(UInt8.ofNat (t.toNat % 256) :: (Kx (Aa.mk t b n es).body.length ++ (Aa.mk t b n es).body)).length=1 + (Kx (Aa.mk t b n es).body.length).length + (Aa.mk t b n es).body.length:=by simp; omega
  cases n with
  | true=>
   have hb:b=[]:=by simpa using h1
   subst hb
   have hbody:(Aa.mk t [] true es).body=C8 es:=by simp [Aa.body]
   rw [if_pos hn.symm,hbody,Wv es h3 (by rw [hbody] at hB; exact hB),<- hbody,hlen]
   rfl
  | false=>
   have he:es=[]:=by simpa using h2
   subst he
   have hbody:(Aa.mk t b false []).body=b:=by simp [Aa.body]
   rw [if_neg (by rw [<- hn]; decide),hlen,hbody]
   rfl
theorem Wv:∀ (es:List Aa),Cr es=true->(C8 es).length<=65535->Ec (C8 es)=some es
 | [],_,_=>by rw [C8,Jh]
 | d :: ds,hf,hl=>by
  rw [Cr,Bool.and_eq_true] at hf
  rw [C8] at hl ⊢
  rw [List.length_append] at hl
  have h1:=V8 d hf.1 (by omega) (C8 ds)
  have hne:d.put ++ C8 ds≠[]:=by
   intro e
   have h2:=(P1 h1).1
   have h3:(d.put ++ C8 ds).length=0:=by rw [e]; rfl
   rw [List.length_append] at h3
   omega
  rw [Kh hne,h1]
  dsimp only
  rw [aDp,Wv ds hf.2 (by omega)]
  rfl
end
theorem bI:∀ (N:Nat) (l:List UInt8),l.length<=N->∀ es,Ec l=some es->C8 es=l/\Cr es=true:=by
 intro N
 induction N with
 | zero=>
  intro l hl es h
  have:l=[]:=List.eq_nil_of_length_eq_zero (by omega)
  subst this
  rw [Jh] at h
  injection h with h
  subst h
  exact⟨by rw [C8],by rw [Cr]⟩
 | succ N ih=>
  intro l hl es h
  by_cases hn:l=[]
  ·subst hn
   rw [Jh] at h
   injection h with h
   subst h
   exact⟨by rw [C8],by rw [Cr]⟩
  rw [Kh hn] at h
  cases ho:Fo l with
  | none=>rw [ho] at h; cases h
  | some p=>
   obtain⟨d,m⟩:=p
   rw [ho] at h
   dsimp only at h
   obtain⟨es',h1,rfl⟩:=aBi.1 h
   have hm:=P1 ho
   have h2:=ih (l.drop m) (by rw [List.length_drop]; omega) es' h1
   have h3:d.put=l.take m/\d.formed=true:=by
    cases hh:X1 l with
    | none=>rw [Jp hh] at ho; cases ho
    | some q=>
     obtain⟨t,o,n⟩:=q
     rw [L9 hh] at ho
     have hb:=Vd hh
     obtain⟨a,ha,hq⟩:=aBi.1 ho
     injection hq with hq hq2
     subst hq
     match l,hh with
     | x :: r,hh=>
      unfold X1 at hh
      dsimp only at hh
      split at hh
      ·cases hh
      ·cases hs:F4 r with
       | none=>rw [hs] at hh; cases hh
       | some p=>
        obtain⟨m2,c⟩:=p
        rw [hs] at hh
        dsimp only at hh
        have hsb:=eY hs
        split at hh
        ·cases hh
        ·simp at hh
         obtain⟨rfl,rfl,rfl⟩:=hh
         have hxl:=x.toNat_lt
         have hB:∀ B:List UInt8,(List.drop (1 + c) (x :: r)).take m2=B->B.length=m2->UInt8.ofNat (((x.toNat:Nat):Int).toNat % 256) :: (Kx B.length ++ B)=(x :: r).take m:=by
          intro B e1 e2
          rw [e2,<- hsb.1,<- hq2,aDt 1 c,aDy,aDt 1 m2,<- aDy,List.take_succ_cons,List.take_add,Int.toNat_natCast,aBv (by omega),U7]
          rw [aDt 1 c,List.drop_succ_cons] at e1
          rw [e1]
         have hBl:((List.drop (1 + c) (x :: r)).take m2).length=m2:=by rw [List.length_take,List.length_drop]; omega
         split at ha
         ·rename_i hnest
          obtain⟨es2,h4,rfl⟩:=aBi.1 ha
          have h5:=ih (((x :: r).drop (1 + c)).take m2) (by omega) es2 h4
          refine⟨?_,?_⟩
          ·rw [V1]
           have hbody:(Aa.mk (x.toNat:Nat) [] true es2).body=C8 es2:=by simp [Aa.body]
           rw [hbody]
           exact hB _ h5.1.symm (by rw [h5.1]; exact hBl)
          ·rw [Aa.formed,hb.2.2.1,hnest,h5.2]; simp
         ·rename_i hnest
          injection ha with ha
          subst ha
          refine⟨?_,?_⟩
          ·rw [V1]
           have hbody:(Aa.mk (x.toNat:Nat) (((x :: r).drop (1 + c)).take m2) false []).body=((x :: r).drop (1 + c)).take m2:=by simp [Aa.body]
           rw [hbody]
           exact hB _ rfl hBl
          ·rw [Aa.formed,hb.2.2.1,Cr]; simp at hnest; simp [hnest]
   exact⟨by rw [C8,h3.1,h2.1,aB0],by rw [Cr,h3.2,h2.2]; rfl⟩
theorem O6 {l:List UInt8} {d:Aa} {m:Nat} (h:Fo l=some (d,m)) (hm:m=l.length):d.put=l/\d.formed=true:=by
 have hne:l≠[]:=by rintro rfl; cases h
 have h1:Ec l=some [d]:=by
  rw [Kh hne,h]
  dsimp only
  rw [hm,List.drop_length,Jh]
  rfl
 obtain⟨h2,h3⟩:=bI _ l (aBk _) [d] h1
 rw [C8,C8,aD1] at h2
 rw [Cr,Bool.and_eq_true] at h3
 exact⟨h2,h3.1⟩
end
section
open Go
mutual
def Aa.sz:Aa->Nat
 | .mk _ b _ es=>b.length + Fz es + 1
def Fz:List Aa->Nat
 | []=>0
 | v :: vs=>v.sz + Fz vs
end
theorem Ha (v:Aa):v.sz=v.Bytes.length + Fz v.Elements + 1:=by cases v; rw [Aa.sz]
theorem Kn:∀ {es:List Aa} {d:Aa},d∈es->d.sz<=Fz es
 | v :: vs,d,h=>by
  rw [Fz]
  rcases List.mem_cons.1 h with rfl | h
  ·omega
  ·have:=Kn h; omega
theorem Hc:∀ es:List Aa,es.length<=Fz es
 | []=>aBk _
 | v :: vs=>by
  have:=Hc vs
  rw [Fz,List.length_cons,Ha]; omega
theorem L3:∀ a b:List Aa,Fz (a ++ b)=Fz a + Fz b
 | [],b=>by simp [Fz]
 | v :: vs,b=>by rw [aB1,Fz,Fz,L3 vs b]; omega
theorem Lv {v d:Aa} (h:d∈v.Elements):d.sz < v.sz:=by
 have:=Kn h
 rw [Ha v]; omega
theorem T2 {b:List UInt8} (h:b.length < 1073741824):D7 b=some b:=by
 unfold D7 D7.j1
 have e:Gn 1 ([]:List UInt8) b=some b:=by rw [D5 (by simp; omega)]; rfl
 rw [e]
 unfold X4
 split
 ·rename_i h0; subst h0; simp
 ·rfl
theorem Qw (l:List Aa) (h:Fz l < 1073741824):Cg l=some l:=
 Jn Ul id Fz (fun l=>Fz l < 1073741824) (fun rec l hl hr=>by
  show Cg.F rec l=some l
  unfold Cg.F
  have hn:=Hc l
  refine (Fy l.length (fun i=>((i:Int),l.take i)) l ?_ ?_).trans ?_
  ·intro i hi
   obtain⟨e,he⟩:∃ e,l[i]?=some e:=⟨_,List.getElem?_eq_getElem hi⟩
   have h1:=Kn (I3 he)
   have h2:=Ha e
   show Cg.l1 rec l (i:Int) (l.take i)=_
   unfold Cg.l1
   rw [Fs he,T2 (by omega),hr e.Elements (by omega) (by omega)]
   simp only [id,Option.bind_some]
   rw [D5 (by simp; omega),Gp (by omega),Fm he]
   cases e; rfl
  ·show Cg.l1 rec l (l.length:Int) (l.take l.length)=_
   unfold Cg.l1
   rw [Ej,aBm]; rfl
  ·rfl) l h
theorem Oe (l:List Aa) (h:Fz l < 1073741824):Bs l=some l:=
 Jn R9 id Fz (fun l=>Fz l < 1073741824) (fun rec l hl hr=>by
  show Bs.F rec l=some l
  unfold Bs.F
  have hn:=Hc l
  refine (Fy l.length (fun i=>((i:Int),l.take i)) l ?_ ?_).trans ?_
  ·intro i hi
   obtain⟨e,he⟩:∃ e,l[i]?=some e:=⟨_,List.getElem?_eq_getElem hi⟩
   have h1:=Kn (I3 he)
   have h2:=Ha e
   show Bs.l1 rec l (i:Int) (l.take i)=_
   unfold Bs.l1
   rw [Fs he,D5 (by simp; omega)]
   simp only [aC8,Option.bind_some]
   rw [hr e.Elements (by omega) (by omega)]
   simp only [id,Option.bind_some]
   rw [D5 (by simp; omega),Gp (by omega),Fm he]
   cases e; rfl
  ·show Bs.l1 rec l (l.length:Int) (l.take l.length)=_
   unfold Bs.l1
   rw [Ej,aBm]; rfl
  ·rfl) l h
theorem Wu (l:List Aa) (h:Fz l < 1073741824):Ib l=some (.mk 48 [] true l):=by unfold Ib; rw [Qw l h]; rfl
theorem lL (l:List Aa) (h:Fz l < 1073741824):Mf l=some (.mk 48 [] true l):=by unfold Mf; first | (rw [Wu l h]; rfl) | (rw [Qw l h]; rfl)
theorem Ki (l:List Aa) (h:Fz l < 1073741824):Fr l=some (.mk 48 [] true l):=by unfold Fr; rw [Oe l h]; rfl
theorem Vo {n:Int} (h1:1<=n) (h2:n<=255):∃ m:Fin 256,n=(m.val:Int):=⟨⟨n.toNat,by omega⟩,by simp; omega⟩
theorem iF:∀ m:Fin 256,(!decide (Wf .i64 (m.val:Int) 31=31))=((m.val:Int) % 32 != 31):=by decide +kernel
theorem Yj:∀ m:Fin 256,(!decide (Wf .i64 (m.val:Int) 32=0))=Nd (m.val:Int):=by decide +kernel
theorem iW:∀ m:Fin 256,(!decide ((m.val:Int).tmod 32=31))=((m.val:Int) % 32 != 31):=by decide +kernel
theorem Yc:∀ m:Fin 256,((Rb (m.val:Int) 32).bind fun q=>(Rj q 2).bind fun r=>some (decide (r=1)))=some (Nd (m.val:Int)):=by decide +kernel
theorem gD (n:Int):Lq n=some (Ob n):=by
 unfold Lq Ob
 by_cases h1:1<=n
 ·by_cases h2:n<=255
  ·obtain⟨m,rfl⟩:=Vo h1 h2
   rw [iF m,decide_eq_true h1,decide_eq_true h2]; rfl
  ·simp [h1,h2]
 ·simp [h1]
theorem Yu (n:Int):Jm n=some (Ob n):=by
 unfold Jm Ob
 by_cases h1:1<=n
 ·by_cases h2:n<=255
  ·obtain⟨m,rfl⟩:=Vo h1 h2
   rw [<- iW m,decide_eq_true h1,decide_eq_true h2]; rfl
  ·simp [h1,h2]
 ·simp [h1]
theorem Kk {n:Int} (h:Ob n=true):1<=n/\n<=255:=by
 unfold Ob at h
 simp only [Bool.and_eq_true,aDa] at h
 exact⟨h.1.1,h.1.2⟩
theorem Iu (v:Aa):v.formed=(Ob v.Tag && (v.Nested == Nd v.Tag) && !(v.Nested && decide (0 < v.Bytes.length)) && !(!v.Nested && decide (0 < v.Elements.length)) && Cr v.Elements):=by cases v; rw [Aa.formed]
theorem Ts (l:List Aa):(!l.any fun v=>!v.formed)=Cr l:=by
 rw [Oc]
 induction l with
 | nil=>rfl
 | cons v l ih=>rw [List.any_cons,List.all_cons,<- ih]; cases v.formed <;> simp
theorem Xk (v:Aa) (h:v.sz < 1073741824):B1 v=some v.formed:=
 Jn Ut Aa.formed Aa.sz (fun v=>v.sz < 1073741824) (fun rec v hv hr=>by
  show B1.F rec v=some v.formed
  have hn:=Hc v.Elements
  have h0:=Ha v
  have hj1:B1.j1 rec v true=some false:=rfl
  have hj2:B1.j1 rec v false=some (Cr v.Elements):=by
   unfold B1.j1 Cy A8
   have hl:Dl (fun q'=>A8.l1 v.Elements (fun x0=>Ew rec x0) q') 0=some (match v.Elements.findIdx? (fun v=>!v.formed) with | some i=>(i:Int) | none=>-1):=
    P2 v.Elements (fun i=>(i:Int)) (fun v=>!v.formed) (fun i=>(i:Int)) (-1) (fun i x hx=>by
     have h1:=Lv (I3 hx)
     have h2:=Rx hx
     unfold A8.l1 Ew
     rw [Fs hx]
     dsimp only
     rw [hr x (by omega) h1,Gp (by omega)]
     cases x.formed <;> rfl) (by unfold A8.l1; rw [Ej]; rfl)
   rw [hl,<- Ts]
   simp only [cond_false,Option.bind_some]
   cases hq:v.Elements.findIdx? (fun v=>!v.formed) with
   | none=>
    have:=List.findIdx?_eq_none_iff.1 hq
    have:(v.Elements.any fun v=>!v.formed)=false:=by rw [List.any_eq_false]; simpa using this
    rw [this]; rfl
   | some i=>
    have:=List.findIdx?_isSome (xs:=v.Elements) (p:=fun v=>!v.formed)
    rw [hq] at this
    rw [<- this]
    simp
  unfold B1.F
  rw [gD,hj1,hj2,Iu]
  cases ht:Ob v.Tag
  ·rfl
  ·obtain⟨m,hm⟩:=Vo (Kk ht).1 (Kk ht).2
   rw [hm,Yj m]
   cases v.Nested <;> cases Nd (m.val:Int) <;> by_cases hb:0 < v.Bytes.length <;> by_cases he:0 < v.Elements.length <;> simp [hb,he,hj1,hj2]) v h
theorem Se (v:Aa) (h:v.sz < 1073741824):A6 v=some v.formed:=
 Jn Rm Aa.formed Aa.sz (fun v=>v.sz < 1073741824) (fun rec v hv hr=>by
  show A6.F rec v=some v.formed
  have hn:=Hc v.Elements
  have h0:=Ha v
  have hj1:A6.j1 rec v true=some false:=rfl
  have hj2:A6.j1 rec v false=some (Cr v.Elements):=by
   unfold A6.j1
   have hl:=R2 (body:=fun q'=>A6.l2 rec v q') v.Elements (fun i=>(i:Int)) (fun v=>!v.formed) false true (fun i x hx=>by
     have h1:=Lv (I3 hx)
     have h2:=Rx hx
     unfold A6.l2
     rw [Fs hx,hr x (by omega) h1,Gp (by omega)]
     cases x.formed <;> rfl) (by unfold A6.l2; rw [Ej]; rfl)
   rw [cond_false]
   refine Eq.trans hl ?_
   rw [<- Ts]
   cases v.Elements.any fun v=>!v.formed <;> rfl
  unfold A6.F
  rw [Yu,hj1,hj2,Iu]
  cases ht:Ob v.Tag
  ·rfl
  ·obtain⟨m,hm⟩:=Vo (Kk ht).1 (Kk ht).2
   have hq:=Yc m
   rw [hm]
   cases h1:Rb (m.val:Int) 32 with
   | none=>rw [h1] at hq; cases hq
   | some q=>
    rw [h1] at hq
    simp only [Option.bind_some] at hq
    cases h2:Rj q 2 with
    | none=>rw [h2] at hq; cases hq
    | some r=>
     rw [h2] at hq
     simp only [Option.bind_some,Option.some.injEq] at hq
     simp only [Option.bind_some,h2,hq]
     cases v.Nested <;> cases Nd (m.val:Int) <;> by_cases hb:0 < v.Bytes.length <;> by_cases he:0 < v.Elements.length <;> simp [hb,he,hj1,hj2]) v h
theorem Pe:∀ es:List Aa,Dp es<=Fz es
 | []=>aBk _
 | v :: vs=>by
  obtain⟨t,b,n,es⟩:=v
  have h1:=Pe es
  have h2:=Pe vs
  rw [Dp,Fz,Aa.depth,Aa.sz]; omega
theorem bS (v:Aa):v.depth<=v.sz:=by
 obtain⟨t,b,n,es⟩:=v
 have:=Pe es
 rw [Aa.depth,Aa.sz]; omega
theorem Nh (v:Aa):v.depth=Dp v.Elements + 1:=by cases v; rw [Aa.depth]
theorem Yz (v:Aa) (h:v.sz < 1073741824):Cu v=some (v.depth:Int):=
 Jn Vs (fun v=>(v.depth:Int)) Aa.sz (fun v=>v.sz < 1073741824) (fun rec v hv hr=>by
  show Cu.F rec v=some (v.depth:Int)
  unfold Cu.F
  have hn:=Hc v.Elements
  have h0:=Ha v
  have hd:=bS v
  have hq:=Nh v
  refine (Fy v.Elements.length (fun i=>((Dp (v.Elements.take i):Int),(i:Int))) (v.depth:Int) ?_ ?_).trans ?_
  ·intro i hi
   obtain⟨e,he⟩:∃ e,v.Elements[i]?=some e:=⟨_,List.getElem?_eq_getElem hi⟩
   have h1:=Lv (I3 he)
   show Cu.l1 rec v (Dp (v.Elements.take i):Int) (i:Int)=_
   unfold Cu.l1
   rw [Fs he,hr e (by omega) h1,Gp (by omega),Mg he]
   simp only [Option.bind_some]
   congr 3
   omega
  ·show Cu.l1 rec v (Dp (v.Elements.take v.Elements.length):Int) (v.Elements.length:Int)=_
   unfold Cu.l1
   rw [Ej,aBm,Fv (by omega),hq]; rfl
  ·rfl) v h
theorem Tz (v:Aa) (h:v.sz < 1073741824):B6 v=some (v.depth:Int):=
 Jn Tf (fun v=>(v.depth:Int)) Aa.sz (fun v=>v.sz < 1073741824) (fun rec v hv hr=>by
  show B6.F rec v=some (v.depth:Int)
  unfold B6.F
  have hn:=Hc v.Elements
  have h0:=Ha v
  have hd:=bS v
  have hq:=Nh v
  refine (Fy v.Elements.length (fun i=>((Dp (v.Elements.take i):Int),(i:Int))) (v.depth:Int) ?_ ?_).trans ?_
  ·intro i hi
   obtain⟨e,he⟩:∃ e,v.Elements[i]?=some e:=⟨_,List.getElem?_eq_getElem hi⟩
   have h1:=Lv (I3 he)
   show B6.l1 rec v (Dp (v.Elements.take i):Int) (i:Int)=_
   unfold B6.l1
   rw [Fs he,hr e (by omega) h1,Gp (by omega),Mg he]
   simp only [Option.bind_some]
   congr 3
   omega
  ·show B6.l1 rec v (Dp (v.Elements.take v.Elements.length):Int) (v.Elements.length:Int)=_
   unfold B6.l1
   rw [Ej,aBm,Fv (by omega),hq]; rfl
  ·rfl) v h
end
section
open Go
theorem Pi (m:Nat):u8 (m:Int)=UInt8.ofNat m:=by
 apply aCb.1
 have:=bT (m:Int)
 rw [aB4]
 omega
theorem oF (n:Int) (k:Nat):u8 (n / 256 ^ k)=Ct n k:=rfl
theorem aP {k:IntKind} {x y:Int} (e:Nat) (hy:y=(e:Int)) (he:e<=k.bits):Up k x y=some (x / 2 ^ e):=by
 subst hy
 unfold Up
 rw [if_neg (by omega),Int.toNat_natCast,aC4 he,Int.fdiv_eq_ediv_of_nonneg]
 exact Int.pow_nonneg (by omega)
theorem tP {x:Int}:Up .i64 x 8=some (x / 256):=aP (k:=.i64) 8 rfl (by decide)
theorem lZ (n:Int) (k:Nat):Xo n (k + 1)=Xo n k ++ [UInt8.ofNat ((IntKind.u64.wrap n).toNat / 2 ^ (56 - 8 * k) % 256)]:=by
 unfold Xo
 rw [List.range_succ,aCh]; rfl
theorem U6 (n:Int) (k:Nat):(Xo n k).length=k:=by unfold Xo; simp
theorem qH (n:Int) (e:Nat):u8 (IntKind.u64.wrap n / 2 ^ e)=UInt8.ofNat ((IntKind.u64.wrap n).toNat / 2 ^ e % 256):=by
 have h:=Sj n
 obtain⟨m,hm⟩:=Int.eq_ofNat_of_zero_le h.1
 rw [hm,Int.toNat_natCast]
 have:(m:Int) / 2 ^ e=((m / 2 ^ e:Nat):Int):=by simp
 rw [this,Pi]
 apply aCb.1
 rw [aB4,aB4]
 omega
theorem eH (x y:UInt8) (r:List UInt8):Gh (x :: y :: r)=if ((x.toNat:Int)=0/\(y.toNat:Int) < 128)\/((x.toNat:Int)=255/\(128:Int)<=(y.toNat:Int)) then Gh (y :: r) else x :: y :: r:=by
 rw [Gh]
 have e0:(x=0)↔((x.toNat:Int)=0):=by rw [<- aCb]; simp
 have e1:(x=255)↔((x.toNat:Int)=255):=by rw [<- aCb]; simp; omega
 have e2:(y < 128)↔((y.toNat:Int) < 128):=by rw [UInt8.lt_iff_toNat_lt]; simp; omega
 have e3:(128<=y)↔((128:Int)<=(y.toNat:Int)):=by rw [UInt8.le_iff_toNat_le]; simp; omega
 simp only [e0,e1,e2,e3]
theorem Ql:∀ b:List UInt8,b.length<=8->Dl (fun q'=>Bz.l2 q') b=some (.mk 2 (Gh b) false [])
 | [],_=>by rw [Fg]; rfl
 | [x],_=>by rw [Fg]; rfl
 | x :: y :: r,h=>by
  have ih:=Ql (y :: r) (by simp at h ⊢; omega)
  have hl:(1:Int) < ((x :: y :: r).length:Int):=by simp; omega
  have hs:Q7 (x :: y :: r) 1 ((x :: y :: r).length:Int)=some (y :: r):=by
   unfold Q7
   rw [if_pos ⟨by omega,by omega,by omega⟩]
   congr 1
   exact aBl (by simp; omega)
  have hg0:Dd (x :: y :: r) 0=some x:=rfl
  have hg1:Dd (x :: y :: r) 1=some y:=rfl
  have hj:Bz.j3 (x :: y :: r) true=some (.next (y :: r)):=by unfold Bz.j3; rw [hs]; rfl
  have hk:Bz.j3 (x :: y :: r) false=some (.done (.mk 2 (x :: y :: r) false [])):=rfl
  have hb:Bz.l2 (x :: y :: r)=some (if ((x.toNat:Int)=0/\(y.toNat:Int) < 128)\/((x.toNat:Int)=255/\(128:Int)<=(y.toNat:Int)) then .next (y :: r) else .done (.mk 2 (x :: y :: r) false [])):=by
   unfold Bz.l2
   rw [decide_eq_true hl,hg0,hg1]
   simp only [cond_true,Option.bind_some]
   by_cases a0:(x.toNat:Int)=0
   ·have a1:¬ (x.toNat:Int)=255:=by omega
    by_cases c0:(y.toNat:Int) < 128
    ·rw [decide_eq_true a0,decide_eq_true c0,if_pos (.inl ⟨a0,c0⟩)]; simp only [cond_true,cond_false]; exact hj
    ·rw [decide_eq_true a0,decide_eq_false c0,decide_eq_false a1,if_neg (by omega)]; simp only [cond_true,cond_false]; exact hk
   ·by_cases a1:(x.toNat:Int)=255
    ·rw [decide_eq_false a0,decide_eq_true a1]
     by_cases c1:(128:Int)<=(y.toNat:Int)
     ·rw [decide_eq_true c1,if_pos (.inr ⟨a1,c1⟩)]; simp only [cond_true,cond_false]; exact hj
     ·rw [decide_eq_false c1,if_neg (by omega)]; simp only [cond_true,cond_false]; exact hk
    ·rw [decide_eq_false a0,decide_eq_false a1,if_neg (by omega)]; simp only [cond_true,cond_false]; exact hk
  rw [Fg,eH]
  rw [hb]
  split
  ·exact ih
  ·rfl
theorem P4 (n:Int):Bz n=some (I0 n):=by
 unfold Bz
 refine Fy 8 (fun k=>((56 - 8 * (k:Int)),Xo n k)) (I0 n) ?_ ?_
 ·intro k hk
  show Bz.l1 n (56 - 8 * (k:Int)) (Xo n k)=_
  unfold Bz.l1
  rw [decide_eq_true (by omega),aP (56 - 8 * k) (by omega) (by show 56 - 8 * k<=64; omega)]
  simp only [cond_true,Option.bind_some]
  rw [D5 (by rw [U6]; simp; omega),Fv (by omega),qH,<- lZ]
  simp only [Option.bind_some]
  congr 3
  omega
 ·show Bz.l1 n (56 - 8 * ((8:Nat):Int)) (Xo n 8)=_
  unfold Bz.l1
  rw [Ql _ (by rw [U6]; omega)]
  rfl
theorem Wl (x:Int) (y:UInt8) (r:List UInt8):Bf.l1 x (y :: r)=Bf.j2 x (y :: r) (!((decide (x=0) && decide ((y.toNat:Int) < 128)) || (decide (x=-1) && decide (128<=(y.toNat:Int))))):=by
 have D:Dd (y :: r) 0=some y:=rfl
 unfold Bf.l1
 by_cases h0:x=0
 ·have h1:¬ x=-1:=by omega
  by_cases c:(y.toNat:Int) < 128
  ·have c':¬ (128:Int)<=(y.toNat:Int):=by omega
   simp [h0,D,c,c']
  ·have c':(128:Int)<=(y.toNat:Int):=by omega
   simp [h0,D,c,c']
 ·by_cases h1:x=-1
  ·by_cases c:(y.toNat:Int) < 128
   ·have c':¬ (128:Int)<=(y.toNat:Int):=by omega
    simp [h1,D,c,c']
   ·have c':(128:Int)<=(y.toNat:Int):=by omega
    simp [h1,D,c,c']
  ·simp [h0,h1]
theorem aC (n:Int) (h1:-9223372036854775808<=n) (h2:n<=9223372036854775807):∀ d k,k + d=7->(∀ j,1<=j->j<=k->E4 n j=false)->Dl (fun q'=>Bf.l1 q'.1 q'.2) (n / 256 ^ (k + 1),(Xo n 8).drop (7 - k))=some (I0 n):=by
 intro d
 induction d with
 | zero=>
  intro k hk hn
  obtain rfl:k=7:=by omega
  have hf:=(bG n h1 h2 7 (by omega)).1 rfl
  rw [Fg]
  dsimp only
  rw [Pv n 7 (by omega),Wl]
  have hs:=cB n 7 (by omega) hn rfl
  have hc:((decide (n / 256 ^ (7 + 1)=0) && decide (((Ct n 7).toNat:Int) < 128)) || (decide (n / 256 ^ (7 + 1)=-1) && decide (128<=((Ct n 7).toNat:Int))))=true:=by simpa using hf
  rw [hc]
  show some (Aa.mk 2 (Ct n 7 :: (Xo n 8).drop (8 - 7)) false [])=some (I0 n)
  unfold I0
  rw [fV n h1 h2,hs,<- Pv n 7 (by omega)]
 | succ d ih=>
  intro k hk hn
  have FI:=bG n h1 h2 k (by omega)
  rw [Fg]
  dsimp only
  rw [Pv n k (by omega),Wl]
  cases hf:E4 n (k + 1) with
  | true=>
   have hs:=cB n k (by omega) hn hf
   have hc:((decide (n / 256 ^ (k + 1)=0) && decide (((Ct n k).toNat:Int) < 128)) || (decide (n / 256 ^ (k + 1)=-1) && decide (128<=((Ct n k).toNat:Int))))=true:=by simpa using FI.1 hf
   rw [hc]
   show some (Aa.mk 2 (Ct n k :: (Xo n 8).drop (8 - k)) false [])=some (I0 n)
   unfold I0
   rw [fV n h1 h2,hs,<- Pv n k (by omega),show 8 - (k + 1)=7 - k by omega]
  | false=>
   have hc:((decide (n / 256 ^ (k + 1)=0) && decide (((Ct n k).toNat:Int) < 128)) || (decide (n / 256 ^ (k + 1)=-1) && decide (128<=((Ct n k).toNat:Int))))=false:=by
    cases hq:((decide (n / 256 ^ (k + 1)=0) && decide (((Ct n k).toNat:Int) < 128)) || (decide (n / 256 ^ (k + 1)=-1) && decide (128<=((Ct n k).toNat:Int)))) with
    | false=>rfl
    | true=>
     have:=FI.2 (by simpa using hq)
     rw [hf] at this; cases this
   rw [hc]
   have e:=ih (k + 1) (by omega) fun j a b=>by
    rcases aCf k j with h | h
    ·obtain rfl:j=k + 1:=by omega
     exact hf
    ·exact hn j a h
   rw [Pv n (k + 1) (by omega),show 8 - (k + 1)=7 - k by omega,<- kX] at e
   unfold Bf.j2
   rw [aDe,cond_true,D5 (by simp [U6]; omega),tP,<- Pv n k (by omega)]
   exact e
theorem Ez (n:Int) (h1:-9223372036854775808<=n) (h2:n<=9223372036854775807):Bf n=some (I0 n):=by
 unfold Bf
 rw [tP]
 have:=aC n h1 h2 7 0 (by omega) (fun j a b=>by omega)
 rw [show (Xo n 8).drop (7 - 0)=[Ct n 0] by rw [zC]; rfl] at this
 rw [Option.bind_some,show u8 n=Ct n 0 by rw [<- oF]; simp]
 exact this
theorem Hf (n:Int):(I0 n).sz<=9:=by
 unfold I0
 rw [Ha]
 have h:=Wz (Xo n 8)
 rw [U6] at h
 show (Nz n).length + Fz [] + 1<=9
 unfold Nz
 rw [Fz]; omega
end
section
open Go
mutual
theorem fF:∀ v:Aa,v.sz < 67108864->v.put.length<=8 * v.sz
 | .mk t b n es,h=>by
  rw [Aa.sz] at h ⊢
  have h1:=Sx es (by omega)
  rw [Aa.put]
  cases n
  ·have h2:=U4 (n:=b.length) (by omega)
   simp; omega
  ·have h2:=U4 (n:=(C8 es).length) (by omega)
   simp; omega
theorem Sx:∀ es:List Aa,Fz es < 67108864->(C8 es).length<=8 * Fz es
 | [],_=>by simp [C8]
 | v :: vs,h=>by
  rw [Fz] at h ⊢
  have h1:=fF v (by omega)
  have h2:=Sx vs (by omega)
  rw [C8,List.length_append]; omega
end
theorem mX (n k:Nat) (hk:0 < k):Rj (n:Int) (k:Int)=some ((n % k:Nat):Int):=by
 unfold Rj
 rw [if_neg (by omega),Int.tmod_eq_emod_of_nonneg (by omega)]; rfl
theorem oM (n k:Nat) (hk:0 < k) (hn:n < 4611686018427387904):Rb (n:Int) (k:Int)=some ((n / k:Nat):Int):=by
 unfold Rb
 have:n / k<=n:=Nat.div_le_self n k
 rw [if_neg (by omega),Int.tdiv_eq_ediv_of_nonneg (by omega),show ((n:Int) / (k:Int))=((n / k:Nat):Int) from rfl,yE (by omega)]
theorem Z6 (n:Nat):∀ (b:List UInt8),n < 281474976710656->N9 n + b.length<=1000->Dl (fun q'=>Do.l1 q'.1 q'.2) ((n:Int),b)=some (UInt8.ofNat (128 + (be n ++ b).length) :: (be n ++ b)):=by
 induction n using Nat.strongRecOn with
 | _ n ih=>
  intro b hn hb
  rcases Nat.eq_zero_or_pos n with h0 | h0
  ·subst h0
   refine S6 ?_
   show Do.l1 ((0:Nat):Int) b=_
   unfold Do.l1
   rw [decide_eq_false (by omega),cond_false,Fv (by omega),D5 (by simp; omega),show (128:Int) + (b.length:Int)=((128 + b.length:Nat):Int) by omega,Pi,rJ]
   rfl
  ·have hc:=R7 h0
   have e:=ih (n / 256) (Nat.div_lt_self h0 (by omega)) ([UInt8.ofNat (n % 256)] ++ b) (aCj (Nat.div_le_self n 256) hn) (by simp; omega)
   refine (H2 (s':=(((n / 256:Nat):Int),[UInt8.ofNat (n % 256)] ++ b)) ?_).trans (e.trans ?_)
   ·show Do.l1 (n:Int) b=_
    unfold Do.l1
    rw [decide_eq_true (by omega),cond_true,show (256:Int)=((256:Nat):Int) from rfl,mX n 256 (by omega),Option.bind_some,D5 (by simp; omega),Option.bind_some,oM n 256 (by omega) (by omega),Option.bind_some,Pi]
   ·rw [Tc h0]
    simp
theorem aD {n:Nat} (hn:n < 281474976710656):Do (n:Int)=some (Kx n):=by
 unfold Do Kx
 by_cases h:n < 128
 ·rw [decide_eq_true (by omega),if_pos h,Pi]; rfl
 ·rw [decide_eq_false (by omega),if_neg h,cond_false]
  have hc:=eF 6 n (by simpa using hn)
  refine (Z6 n [] hn (by simp; omega)).trans ?_
  rw [aD1]; rfl
theorem zA (n:Nat):Up .i64 (n:Int) 8=some ((n / 256:Nat):Int):=by rw [tP]; rfl
theorem X3 (b:List UInt8) (N:Int) (m:Nat):∀ c:Nat,m < 281474976710656->c + N9 m<=1000->
  Dl (fun q'=>Cj.l1 b N q'.1 q'.2) ((c:Int),(m:Int))=(Gn 1 b ([u8 (W (128 + ((c + N9 m:Nat):Int)))]:List UInt8)).bind fun l_2=>Dl (fun q'=>Cj.l2 N q'.1 q'.2) (W (((c + N9 m:Nat):Int) - 1),l_2):=by
 induction m using Nat.strongRecOn with
 | _ m ih=>
  intro c hm hc
  rcases Nat.eq_zero_or_pos m with h0 | h0
  ·subst h0
   refine R3 ?_
   show Cj.l1 b N (c:Int) ((0:Nat):Int)=_
   unfold Cj.l1
   rw [decide_eq_false (by omega),cond_false,fR]
   rfl
  ·have hq:=R7 h0
   have e:=ih (m / 256) (Nat.div_lt_self h0 (by omega)) (c + 1) (aCj (Nat.div_le_self m 256) hm) (by omega)
   refine (H2 (s':=(((c + 1:Nat):Int),((m / 256:Nat):Int))) ?_).trans (e.trans ?_)
   ·show Cj.l1 b N (c:Int) (m:Int)=_
    unfold Cj.l1
    rw [decide_eq_true (by omega),cond_true,zA,Option.bind_some,Gp (by omega)]
   ·rw [show c + 1 + N9 (m / 256)=c + N9 m by omega]
theorem dR {b:List UInt8} {n:Nat} (hn:n < 281474976710656) (hb:b.length < 1073741824):Cj b (n:Int)=some (b ++ Kx n):=by
 unfold Cj Kx
 by_cases h:n < 128
 ·rw [decide_eq_true (by omega),if_pos h,Pi,D5 (by simp; omega)]; rfl
 ·rw [decide_eq_false (by omega),if_neg h,cond_false]
  have hc:=eF 6 n (by simpa using hn)
  have e:=X3 b (n:Int) n 0 hn (by omega)
  refine Eq.trans e ?_
  rw [aBj,Fv (by omega),show (128:Int) + ((N9 n:Nat):Int)=((128 + N9 n:Nat):Int) by omega,Pi,D5 (by simp; omega),Option.bind_some]
  have hp:0 < N9 n:=by rw [R7 (by omega)]; omega
  rw [Fv (by omega)]
  refine Eq.trans (congrArg (Dl _) ?_) (Fy (N9 n) (fun j=>(((N9 n:Int) - 1 - (j:Int)),b ++ [UInt8.ofNat (128 + N9 n)] ++ (be n).take j)) (b ++ UInt8.ofNat (128 + N9 n) :: be n) ?_ ?_)
  ·simp
  ·intro j hj
   have D:=vF (N9 n) n rfl j hj
   show Cj.l2 (n:Int) ((N9 n:Int) - 1 - (j:Int)) (b ++ [UInt8.ofNat (128 + N9 n)] ++ (be n).take j)=_
   unfold Cj.l2
   have ht:((be n).take j).length<=N9 n:=by rw [List.length_take]; exact aBo (Nat.min_le_right _ _) (aBk _)
   rw [decide_eq_true (by omega),cond_true,Fv (by omega),aP (8 * (N9 n - 1 - j)) (by omega) (by show _<=64; omega),Option.bind_some,D5 (by simp; omega),Option.bind_some,Fv (by omega),Fm D]
   have hu:u8 ((n:Int) / 2 ^ (8 * (N9 n - 1 - j)))=UInt8.ofNat (n / 256 ^ (N9 n - 1 - j) % 256):=by
    have e1:(n:Int) / 2 ^ (8 * (N9 n - 1 - j))=((n / 2 ^ (8 * (N9 n - 1 - j)):Nat):Int):=by simp
    rw [e1,Pi,Nat.pow_mul,show 2 ^ 8=256 from rfl]
    apply aCb.1
    rw [aB4,aB4]
    omega
   rw [hu,<- aB3]
   congr 3
   omega
  ·show Cj.l2 (n:Int) ((N9 n:Int) - 1 - ((N9 n:Nat):Int)) (b ++ [UInt8.ofNat (128 + N9 n)] ++ (be n).take (N9 n))=_
   unfold Cj.l2
   rw [decide_eq_false (by omega),show (be n).take (N9 n)=be n from aBl (aBk _)]
   simp [up]
end
section
open Go
theorem V2 (v:Aa):v.put=UInt8.ofNat (v.Tag.toNat % 256) :: (Kx v.body.length ++ v.body):=by cases v; exact V1 _ _ _ _
theorem gZ (v:Aa):v.body=if v.Nested then C8 v.Elements else v.Bytes:=by cases v; rfl
theorem gM (v:Aa) (h:v.sz < 67108864):v.body.length<=8 * v.sz:=by
 have h1:=fF v h
 rw [V2] at h1
 simp at h1
 omega
theorem Vn {v:Aa} (h:v.formed=true):u8 v.Tag=UInt8.ofNat (v.Tag.toNat % 256):=by
 rw [Iu] at h
 simp only [Bool.and_eq_true] at h
 obtain⟨m,hm⟩:=Vo (Kk h.1.1.1.1).1 (Kk h.1.1.1.1).2
 rw [hm,Pi,Int.toNat_natCast,aBv m.2]
theorem dC {v:Aa} (h:v.formed=true):v.Bytes ++ C8 v.Elements=v.body:=by
 rw [Iu] at h
 simp only [Bool.and_eq_true] at h
 obtain⟨⟨⟨-,h1⟩,h2⟩,-⟩:=h
 rw [gZ]
 cases hn:v.Nested with
 | true=>
  rw [hn] at h1
  have:v.Bytes=[]:=List.eq_nil_of_length_eq_zero (by simp at h1; simpa using h1)
  rw [this]; rfl
 | false=>
  rw [hn] at h2
  have:v.Elements=[]:=List.eq_nil_of_length_eq_zero (by simp at h2; simpa using h2)
  rw [this]; simp [C8]
theorem eE {v e:Aa} (h:v.formed=true) (he:e∈v.Elements):e.formed=true:=by
 rw [Iu] at h
 simp only [Bool.and_eq_true] at h
 have:=h.2
 rw [Oc,List.all_eq_true] at this
 exact this e he
def oZ (v:Aa):Prop:=v.formed=true/\v.sz < 67108864
theorem oZ.elem {v e:Aa} (h:oZ v) (he:e∈v.Elements):oZ e:=⟨eE h.1 he,Nat.lt_trans (Lv he) h.2⟩
theorem Oi {v:Aa} (h:oZ v) (i:Nat):(C8 (v.Elements.take i)).length<=536870912:=by
 have h1:=V7 (es:=v.Elements) i
 have h0:=Ha v
 have h2:=h.2
 have h3:=Sx v.Elements (by omega)
 omega
theorem iC (v:Aa) (h:oZ v):C2 v=some v.put:=
 Jn Xe Aa.put Aa.sz oZ (fun rec v hv hr=>by
  show C2.F rec v=some v.put
  unfold C2.F
  have hn:=Hc v.Elements
  have h0:=Ha v
  have hz:=hv.2
  rw [D5 (by simp; omega),aC8,Option.bind_some]
  refine Eq.trans (congrArg (Dl _) ?_) (Fy v.Elements.length (fun i=>((i:Int),v.Bytes ++ C8 (v.Elements.take i))) v.put ?_ ?_)
  ·simp [C8]
  ·intro i hi
   obtain⟨e,he⟩:∃ e,v.Elements[i]?=some e:=⟨_,List.getElem?_eq_getElem hi⟩
   have h1:=Lv (I3 he)
   have h2:=Oi hv i
   have h3:=fF e (by omega)
   show C2.l1 rec v (i:Int) (v.Bytes ++ C8 (v.Elements.take i))=_
   unfold C2.l1
   rw [Fs he,hr e (hv.elem (I3 he)) h1,Option.bind_some,D5 (by simp; omega),Gp (by omega),M6 he,aB3]
   rfl
  ·show C2.l1 rec v (v.Elements.length:Int) (v.Bytes ++ C8 (v.Elements.take v.Elements.length))=_
   have h4:=gM v hz
   have h5:=U4 (n:=v.body.length) (by omega)
   unfold C2.l1
   rw [Ej,aBm,dC hv.1,aD (by omega),Option.bind_some,D5 (by simp; omega),Option.bind_some,D5 (by simp; omega),Option.bind_some,Vn hv.1,V2]
   simp [up]) v h
theorem Tp {rec:Aa->Option (List UInt8)} {b:List UInt8} {v:Aa} (hr:rec v=some v.body) (hb:b.length<=536870912) (hv:oZ v):Gg rec b v=some (b ++ v.put):=by
 have h4:=gM v hv.2
 have hz:=hv.2
 have h5:=U4 (n:=v.body.length) (by omega)
 unfold Gg
 rw [hr,Option.bind_some,D5 (by simp; omega),Option.bind_some,dR (by omega) (by simp; omega),Option.bind_some,D5 (by simp; omega),Option.bind_some,Vn hv.1,V2]
 simp
theorem aA (v:Aa) (h:oZ v):Bx v=some v.body:=
 Jn Sn Aa.body Aa.sz oZ (fun rec v hv hr=>by
  show Bx.F rec v=some v.body
  unfold Bx.F
  have hn:=Hc v.Elements
  have h0:=Ha v
  have hz:=hv.2
  rw [gZ]
  cases hN:v.Nested with
  | false=>rfl
  | true=>
   rw [Bool.not_true,cond_false,if_pos rfl]
   refine Fy v.Elements.length (fun i=>((i:Int),C8 (v.Elements.take i))) (C8 v.Elements) ?_ ?_
   ·intro i hi
    obtain⟨e,he⟩:∃ e,v.Elements[i]?=some e:=⟨_,List.getElem?_eq_getElem hi⟩
    have h1:=Lv (I3 he)
    have h2:=Oi hv i
    have hf:=hv.elem (I3 he)
    show Bx.l1 rec v (i:Int) (C8 (v.Elements.take i))=_
    unfold Bx.l1
    rw [Fs he,Tp (hr e hf h1) h2 hf,Gp (by omega),M6 he]
    rfl
   ·show Bx.l1 rec v (v.Elements.length:Int) (C8 (v.Elements.take v.Elements.length))=_
    unfold Bx.l1
    rw [Ej,aBm]; rfl) v h
theorem Un (v:Aa) (h:oZ v):H5 v=some v.put:=by
 have e:=Tp (rec:=Bx) (b:=[]) (aA v h) (by simp) h
 exact e
def Wh (v:Aa):List UInt8×Int:=if v.formed then (if 16 < v.depth then ([],3) else if 4096 < v.put.length then ([],3) else (v.put,0)) else ([],1)
theorem Wn (v:Aa) (h:v.sz < 67108864):Is v=some (Wh v):=by
 unfold Is Wh
 rw [Xk v (by omega),Option.bind_some]
 cases hf:v.formed with
 | false=>rfl
 | true=>
  rw [Bool.not_true,cond_false,if_pos rfl,Yz v (by omega),Option.bind_some]
  by_cases hd:16 < v.depth
  ·rw [decide_eq_true (by omega),if_pos hd]; rfl
  ·rw [decide_eq_false (by omega),if_neg hd,cond_false,Un v ⟨hf,h⟩,Option.bind_some]
   by_cases hl:4096 < v.put.length
   ·rw [decide_eq_true (by omega),if_pos hl]; rfl
   ·rw [decide_eq_false (by omega),if_neg hl]; rfl
theorem Re (v:Aa) (h:v.sz < 67108864):Hl v=some (Wh v):=by
 unfold Hl Wh
 rw [Se v (by omega),Option.bind_some]
 cases hf:v.formed with
 | false=>rfl
 | true=>
  rw [Bool.not_true,cond_false,if_pos rfl,Tz v (by omega),Option.bind_some]
  by_cases hd:16 < v.depth
  ·rw [decide_eq_true (by omega),if_pos hd]; rfl
  ·rw [decide_eq_false (by omega),if_neg hd,cond_false,iC v ⟨hf,h⟩,Option.bind_some]
   by_cases hl:4096 < v.put.length
   ·rw [decide_eq_true (by omega),if_pos hl]; rfl
   ·rw [decide_eq_false (by omega),if_neg hl]; rfl
end
section
open Go
theorem vT (x:Int):bM .i64 x 8=some (IntKind.i64.wrap (x * 256)):=rfl
theorem fP (a y:Nat) (h:a % 256=0) (hy:y < 256):a ||| y=a + y:=by
 obtain⟨q,rfl⟩:∃ q,a=256 * q:=⟨a / 256,by omega⟩
 have:=Nat.shiftLeft_add_eq_or_of_lt (i:=8) (b:=y) (by simpa using hy) q
 rw [Nat.shiftLeft_eq] at this
 rw [aC6 256 q]
 simpa using this.symm
theorem Ta (a:Nat) (y:UInt8) (h:a < 65536):Xq .i64 (IntKind.i64.wrap ((a:Int) * 256)) (y.toNat:Int)=((a * 256 + y.toNat:Nat):Int):=by
 have hy:=y.toNat_lt
 have e:IntKind.i64.wrap ((a:Int) * 256)=((a * 256:Nat):Int):=by rw [IntKind.wrap_i64]; omega
 unfold Xq
 rw [e]
 have b1:(BitVec.ofInt IntKind.i64.bits ((a * 256:Nat):Int)).toNat=a * 256:=by
  rw [BitVec.ofInt_natCast,BitVec.toNat_ofNat]
  exact aBv (show a * 256 < 2 ^ 64 by omega)
 have b2:(BitVec.ofInt IntKind.i64.bits (y.toNat:Int)).toNat=y.toNat:=by
  rw [BitVec.ofInt_natCast,BitVec.toNat_ofNat]
  exact aBv (show y.toNat < 2 ^ 64 by omega)
 rw [BitVec.toNat_or,b1,b2,fP _ _ (by omega) hy,IntKind.wrap_i64]
 omega
section
variable {x y z:UInt8} {r:List UInt8}
theorem sN (h:x.toNat < 128):F4 (x :: r)=some (x.toNat,1):=by simp [F4,h]
theorem Vm (h:x.toNat=128\/130 < x.toNat):F4 (x :: r)=none:=by
 unfold F4
 dsimp only
 rw [if_neg (by omega),if_neg (by omega),if_neg (by omega)]
theorem rZ (h:x.toNat=129):F4 [x]=none:=by simp [F4,h]
theorem pK (h:x.toNat=129):F4 (x :: y :: r)=if y.toNat < 128 then none else some (y.toNat,2):=by simp [F4,h]
theorem rV (h:x.toNat=130):F4 [x]=none:=by simp [F4,h]
theorem kQ (h:x.toNat=130):F4 [x,y]=none:=by simp [F4,h]
theorem tT (h:x.toNat=130):F4 (x :: y :: z :: r)=if y.toNat=0 then none else some (y.toNat * 256 + z.toNat,3):=by simp [F4,h]
theorem lo1 {α:Type} (a:α):Lo [a]:=by unfold Lo; simp
theorem lo2 {α:Type} (a b:α):Lo [a,b]:=by unfold Lo; simp
end
def kG (b:List UInt8) (y:Int×Int×Bool):Prop:=match F4 b with
 | some (n,c)=>y=((n:Int),(c:Int),true)
 | none=>y.2.2=false
theorem lW (b:List UInt8) (hb:b.length < 1073741824):Ok (Ck b) (kG b):=by
 unfold Ck kG
 cases b with
 | nil=>exact Ok.ret rfl
 | cons x r=>
  have hx:=x.toNat_lt
  rw [List.length_cons] at hb
  rw [decide_eq_false (by rw [List.length_cons]; omega),cond_false,N5]
  refine Ok.bindE (a:=x) rfl ?_
  rw [Fv (by omega)]
  have J:∀ {Q:Int×Int×Bool->Prop},Q (0,0,false)->Ok (Ck.j1 (x :: r) x true) Q:=fun h=>Ok.ret h
  by_cases h1:x.toNat < 128
  ·rw [decide_eq_true (by omega)]
   refine Ok.ret ?_
   rw [sN h1]
   rfl
  rw [decide_eq_false (by omega),cond_false]
  by_cases h2:x.toNat=128
  ·rw [decide_eq_true (by omega)]
   refine J ?_
   rw [Vm (.inl h2)]
  rw [decide_eq_false (by omega),cond_false]
  by_cases h3:130 < x.toNat
  ·rw [decide_eq_true (by omega)]
   refine J ?_
   rw [Vm (.inr h3)]
  rw [decide_eq_false (by omega),cond_false]
  by_cases h4:x.toNat=129
  ·cases r with
   | nil=>
    rw [decide_eq_true (by simp; omega)]
    refine J ?_
    rw [rZ h4]
   | cons y r=>
    have hy:=y.toNat_lt
    rw [decide_eq_false (by simp; omega),cond_false]
    refine Ok.bindE (a:=y) rfl ?_
    have e0:F4 (x :: y :: r)=if y.toNat < 128 then none else some (y.toNat,2):=pK h4
    rw [e0]
    by_cases h5:y.toNat=0
    ·rw [decide_eq_true (by omega),if_pos (by omega)]
     exact J rfl
    rw [decide_eq_false (by omega)]
    unfold Ck.j1
    rw [cond_false,Fv (x:=(x.toNat:Int) - 128) (by omega),Fv (by omega)]
    refine Ok.bindE (a:=[y]) ?_ ?_
    ·unfold Q7
     rw [if_pos (by simp only [List.length_cons]; omega),h4]
     rfl
    ·refine Ok.of (M7 (body:=fun q'=>Ck.l2 x [y] q'.1 q'.2) [y] (fun s e=>Xq .i64 (IntKind.i64.wrap (s * 256)) (e.toNat:Int)) 0 (fun n=>(n,W (1 + (W ((x.toNat:Int) - 128))),decide (128<=n))) (lo1 _) (fun i e s he=>?_) (fun s=>?_)) ?_
     ·show Ck.l2 x [y] s (i:Int)=_
      unfold Ck.l2
      rw [Fs he,vT,Option.bind_some]
     ·show Ck.l2 x [y] s ([y].length:Int)=_
      unfold Ck.l2
      rw [Ej]; rfl
     ·have e:=Ta 0 y (by omega)
      rw [aCs,aBj] at e
      have e':List.foldl (fun (s:Int) (e:UInt8)=>Xq .i64 (IntKind.i64.wrap (s * 256)) (e.toNat:Int)) 0 [y]=(y.toNat:Int):=e
      rw [e',Fv (x:=(x.toNat:Int) - 128) (by omega),Fv (x:=1 + ((x.toNat:Int) - 128)) (by omega)]
      by_cases h6:y.toNat < 128
      ·rw [if_pos h6]
       show decide _=false
       rw [decide_eq_false (by omega)]
      ·rw [if_neg h6]
       show (_,_,_)=(_,_,_)
       rw [decide_eq_true (by omega),h4]
       simp
  ·have h4':x.toNat=130:=by omega
   match r with
   | []=>
    rw [decide_eq_true (by simp; omega)]
    refine J ?_
    rw [rV h4']
   | [y]=>
    rw [decide_eq_true (by simp; omega)]
    refine J ?_
    rw [kQ h4']
   | y :: z :: r=>
    have hy:=y.toNat_lt
    have hz:=z.toNat_lt
    rw [decide_eq_false (by simp; omega),cond_false]
    refine Ok.bindE (a:=y) rfl ?_
    have e0:F4 (x :: y :: z :: r)=if y.toNat=0 then none else some (y.toNat * 256 + z.toNat,3):=tT h4'
    rw [e0]
    by_cases h5:y.toNat=0
    ·rw [decide_eq_true (by omega),if_pos h5]
     exact J rfl
    rw [decide_eq_false (by omega),if_neg h5]
    unfold Ck.j1
    rw [cond_false,Fv (x:=(x.toNat:Int) - 128) (by omega),Fv (by omega)]
    refine Ok.bindE (a:=[y,z]) ?_ ?_
    ·unfold Q7
     rw [if_pos (by simp only [List.length_cons]; omega),h4']
     rfl
    ·refine Ok.of (M7 (body:=fun q'=>Ck.l2 x [y,z] q'.1 q'.2) [y,z] (fun s e=>Xq .i64 (IntKind.i64.wrap (s * 256)) (e.toNat:Int)) 0 (fun n=>(n,W (1 + (W ((x.toNat:Int) - 128))),decide (128<=n))) (lo2 _ _) (fun i e s he=>?_) (fun s=>?_)) ?_
     ·show Ck.l2 x [y,z] s (i:Int)=_
      unfold Ck.l2
      rw [Fs he,vT,Option.bind_some]
     ·show Ck.l2 x [y,z] s ([y,z].length:Int)=_
      unfold Ck.l2
      rw [Ej]; rfl
     ·have e:=Ta 0 y (by omega)
      have e2:=Ta y.toNat z (by omega)
      rw [aCs,aBj] at e
      have e':List.foldl (fun (s:Int) (e:UInt8)=>Xq .i64 (IntKind.i64.wrap (s * 256)) (e.toNat:Int)) 0 [y,z]=((y.toNat * 256 + z.toNat:Nat):Int):=by
       rw [<- e2,<- e]; rfl
      rw [e',Fv (x:=(x.toNat:Int) - 128) (by omega),Fv (x:=1 + ((x.toNat:Int) - 128)) (by omega)]
      show (_,_,_)=(_,_,_)
      rw [decide_eq_true (by omega),h4']
      simp
def Nj (b:List UInt8) (y:Aa×Int×Bool):Prop:=match Fo b with
 | some (v,m)=>y=(v,(m:Int),true)
 | none=>y.2.2=false
def R8 (b:List UInt8) (y:List Aa×Bool):Prop:=match Ec b with
 | some l=>y=(l,true)
 | none=>y.2=false
theorem Yp {l:List UInt8} {k:Nat} {es0:List Aa} (h:Ec l=(Ec (l.drop k)).map (es0 ++ ·)) (hk:k < l.length) {d:Aa} {m:Nat} (hd:Fo (l.drop k)=some (d,m)):Ec l=(Ec (l.drop (k + m))).map ((es0 ++ [d]) ++ ·):=by
 rw [h,Kh (l:=l.drop k) (fun e=>by have:=List.drop_eq_nil_iff.1 e; omega),hd]
 dsimp only
 rw [aC2]
 cases Ec (l.drop (k + m)) <;> simp
theorem T1 {l:List UInt8} {k:Nat} {es0:List Aa} (h:Ec l=(Ec (l.drop k)).map (es0 ++ ·)) (hk:k < l.length) (hd:Fo (l.drop k)=none):Ec l=none:=by
 rw [h,Kh (l:=l.drop k) (fun e=>by have:=List.drop_eq_nil_iff.1 e; omega),hd]; rfl
theorem T5 {l:List UInt8} {es0:List Aa} (h:Ec l=(Ec (l.drop l.length)).map (es0 ++ ·)):Ec l=some es0:=by
 rw [h,List.drop_length,Jh]; simp
theorem eQ {α:Type} {l:List α} {k:Nat} (h:k<=l.length):Q7 l (k:Int) (l.length:Int)=some (l.drop k):=by
 unfold Q7
 rw [if_pos (by omega)]
 simp only [Int.toNat_natCast]
 rw [<- List.length_drop,aBm]
theorem fB (rec:List UInt8->Option (Aa×Int×Bool)) (b:List UInt8) (hb:b.length < 1073741824) (hr:∀ c,c.length<=b.length->Ok (rec c) (Nj c)):Ok (E3 rec b) (R8 b):=by
 unfold E3
 refine Ok.loop (fun s=>∃ k:Nat,s.1=(k:Int)/\k<=b.length/\s.2.length<=k/\Ec b=(Ec (b.drop k)).map (s.2 ++ ·)) (fun s=>b.length - s.1.toNat) (fun s hs=>?_) ⟨0,rfl,aBt _,aBk _,by rw [aDn]; simp⟩
 obtain⟨at_,out⟩:=s
 obtain⟨k,rfl,hk,ho,hd⟩:=hs
 dsimp only at hd ho
 show Ok (E3.l1 rec b (k:Int) out) _
 unfold E3.l1
 refine Ok.cond (fun hc=>?_) fun hc=>?_
 ·have hc:=aBw hc
  refine Ok.bindE (eQ hk) ?_
  refine Ok.bind (hr (b.drop k) (by rw [List.length_drop]; omega)) fun y hy=>?_
  unfold Nj at hy
  cases hn:Fo (b.drop k) with
  | none=>
   rw [hn] at hy
   dsimp only at hy
   rw [hy,aDe,cond_true]
   refine Ok.up (Ok.ret ?_)
   unfold R8
   rw [T1 hd (by omega) hn]
  | some p=>
   obtain⟨v,m⟩:=p
   rw [hn] at hy
   dsimp only at hy
   subst hy
   have hm:=P1 hn
   rw [List.length_drop] at hm
   rw [Bool.not_true,cond_false]
   refine Ok.bindE (D5 (by rw [aBg]; omega)) ?_
   rw [Fv (by dsimp only; omega)]
   refine Ok.ret ⟨⟨k + m,by dsimp only; omega,by omega,by rw [List.length_append,aBg]; omega,Yp hd (by omega) hn⟩,?_⟩
   dsimp only
   omega
 ·have hc:=of_decide_eq_false hc
  have:k=b.length:=by omega
  subst this
  refine Ok.up (Ok.ret ?_)
  unfold R8
  rw [T5 hd]
theorem Js (x:UInt8) (r:List UInt8):X1 (x :: r)=if Ob x.toNat=false then none else match F4 r with
  | none=>none
  | some (n,c)=>if r.length - c < n then none else some (x.toNat,1 + c,n):=rfl
theorem tJ (x:UInt8) (h:Ob x.toNat=true):(!decide (Wf .i64 (x.toNat:Int) 32=0))=Nd x.toNat:=by
 have h1:=S9 h
 exact Yj ⟨x.toNat,x.toNat_lt⟩
theorem dT (rec:List UInt8->Option (Aa×Int×Bool)) (b:List UInt8) (hb:b.length < 1073741824) (hr:∀ c,c.length < b.length->Ok (rec c) (Nj c)):Ok (B2.F rec b) (Nj b):=by
 unfold B2.F
 have J1:Fo b=none->Ok (B2.j1 rec b true) (Nj b):=fun h=>Ok.ret (by unfold Nj; rw [h])
 have J2:∀ y,Fo b=none->Ok (B2.j2 rec b y true) (Nj b):=fun y h=>Ok.ret (by unfold Nj; rw [h])
 cases b with
 | nil=>exact J1 rfl
 | cons x r=>
  have hx:=x.toNat_lt
  rw [List.length_cons] at hb
  rw [decide_eq_false (by rw [List.length_cons]; omega),cond_false,N5]
  refine Ok.bindE (a:=x) rfl (Ok.bindE (gD _) ?_)
  cases ht:Ob x.toNat with
  | false=>exact J1 (Jp (by rw [Js,if_pos ht]))
  | true=>
   unfold B2.j1
   rw [Bool.not_true,cond_false]
   refine Ok.bindE (a:=r) (eQ (k:=1) (l:=x :: r) (by simp)) ?_
   refine Ok.bind (lW r (by omega)) fun y hy=>?_
   unfold kG at hy
   cases hs:F4 r with
   | none=>
    rw [hs] at hy
    dsimp only at hy
    rw [hy]
    exact J2 y (Jp (by rw [Js,hs]; simp))
   | some p=>
    obtain⟨n,c⟩:=p
    rw [hs] at hy
    dsimp only at hy
    subst hy
    have hl:=cN hs
    dsimp only
    rw [Bool.not_true,cond_false,List.length_cons,Fv (x:=1 + (c:Int)) (by omega),Fv (by omega)]
    by_cases hlong:r.length - c < n
    ·rw [decide_eq_true (by omega)]
     exact J2 _ (Jp (by rw [Js,hs]; simp [hlong]))
    ·rw [decide_eq_false (by omega)]
     have hh:X1 (x :: r)=some (x.toNat,1 + c,n):=by rw [Js,hs]; simp [ht,hlong]
     unfold B2.j2
     rw [cond_false,N5]
     refine Ok.bindE (a:=x) rfl ?_
     rw [tJ x ht]
     dsimp only
     rw [Fv (x:=1 + (c:Int)) (by omega),Fv (by omega)]
     have hsl:Q7 (x :: r) (1 + (c:Int)) (1 + (c:Int) + (n:Int))=some (((x :: r).drop (1 + c)).take n):=by
      unfold Q7
      rw [if_pos (by rw [List.length_cons]; omega)]
      congr 2 <;> omega
     have hone:=L9 hh
     have hlen:(((x :: r).drop (1 + c)).take n).length=n:=by rw [List.length_take,List.length_drop,List.length_cons]; omega
     cases hnst:Nd x.toNat with
     | true=>
      rw [cond_true]
      refine Ok.bindE hsl ?_
      refine Ok.bind (fB rec _ (by omega) fun d hd=>hr d (by rw [List.length_cons]; omega)) fun y3 h3=>?_
      refine Ok.ret ?_
      unfold R8 at h3
      unfold Nj
      rw [hone,hnst,if_pos rfl]
      cases hd:Ec (((x :: r).drop (1 + c)).take n) with
      | none=>rw [hd] at h3; exact h3
      | some es=>
       rw [hd] at h3
       dsimp only at h3
       subst h3
       show (_,_,_)=(_,_,_)
       simp
     | false=>
      rw [cond_false]
      refine Ok.bindE hsl (Ok.bindE (T2 (by omega)) (Ok.ret ?_))
      unfold Nj
      rw [hone,hnst,if_neg (by simp)]
      show (_,_,_)=(_,_,_)
      simp
theorem lU (b:List UInt8) (hb:b.length < 1073741824):Ok (B2 b) (Nj b):=
 gH X0 List.length (fun b=>b.length < 1073741824) Nj (fun rec a ha hr=>dT rec a ha fun c hc=>hr c (by omega) hc) b hb
def Vh (b:List UInt8) (k:Nat) (y:Int×Int×Int×Bool):Prop:=match X1 (b.drop k) with
 | some (t,o,n)=>y=((t:Int),((k + o:Nat):Int),((k + o + n:Nat):Int),true)
 | none=>y.2.2.2=false
theorem dJ (b:List UInt8) (k:Nat) (hb:b.length<=4096) (hk:k<=b.length):Ok (Ba b (k:Int)) (Vh b k):=by
 unfold Ba
 have J1:X1 (b.drop k)=none->Ok (Ba.j1 b (k:Int) true) (Vh b k):=fun h=>Ok.ret (by unfold Vh; rw [h])
 have J2:∀ e,X1 (b.drop k)=none->Ok (Ba.j2 b (k:Int) e true) (Vh b k):=fun e h=>Ok.ret (by unfold Vh; rw [h])
 rw [Fv (by omega)]
 refine Ok.cond (fun hq=>?_) fun hq=>?_
 ·have h2:=aBw hq
  refine J1 ?_
  match hd:b.drop k with
  | []=>rfl
  | [x]=>rw [Js]; simp [F4]
  | x :: y :: r=>
   have:=congrArg List.length hd
   rw [List.length_drop] at this
   simp at this
   omega
 have h2:=of_decide_eq_false hq
 obtain⟨x,y,r,hd⟩:∃ x y r,b.drop k=x :: y :: r:=by
  match hd:b.drop k with
  | []=>have:=congrArg List.length hd; rw [List.length_drop] at this; simp at this; omega
  | [x]=>have:=congrArg List.length hd; rw [List.length_drop] at this; simp at this; omega
  | x :: y :: r=>exact⟨x,y,r,rfl⟩
 have hlen:b.length=k + 2 + r.length:=by
  have:=congrArg List.length hd
  rw [List.length_drop] at this
  simp at this
  omega
 have at_:∀ j,b[k + j]?=(x :: y :: r)[j]?:=fun j=>by rw [<- hd,List.getElem?_drop]
 have g0:Dd b (k:Int)=some x:=by rw [Hu]; exact at_ 0
 have g1:Dd b ((k + 1:Nat):Int)=some y:=by rw [Hu]; exact at_ 1
 have gj:∀ j,Dd b ((k + 2 + j:Nat):Int)=r[j]?:=fun j=>by rw [Hu,aDy,at_,aDt 2 j]; rfl
 have hx:=x.toNat_lt
 have hy:=y.toNat_lt
 refine Ok.bindE g0 (Ok.bindE (Yu _) ?_)
 unfold Vh at *
 rw [hd] at J1 J2 ⊢
 cases ht:Ob x.toNat with
 | false=>exact J1 (by rw [Js,if_pos ht])
 | true=>
  unfold Ba.j1
  rw [Bool.not_true,cond_false,Fv (x:=(k:Int) + 1) (by omega)]
  refine Ok.bindE g1 ?_
  rw [Fv (x:=(k:Int) + 2) (by omega)]
  have J4:∀ (n f:Nat),n<=100000000->f<=100000->F4 (y :: r)=some (n,f)->k + 1 + f<=b.length->Ok (Ba.j4 b (k:Int) (n:Int) ((k + 1 + f:Nat):Int)) (fun y_1=>match X1 (x :: y :: r) with
    | some (t,o,n)=>y_1=((t:Int),((k + o:Nat):Int),((k + o + n:Nat):Int),true)
    | none=>y_1.2.2.2=false):=by
   intro n f hn hf hs hle
   unfold Ba.j4
   rw [Fv (x:=(b.length:Int) - ((k + 1 + f:Nat):Int)) (by omega),Fv (by omega)]
   by_cases hl:b.length - (k + 1 + f) < n
   ·rw [decide_eq_true (by omega)]
    refine Ok.ret ?_
    rw [Js,hs]
    dsimp only
    rw [if_neg (by simp [ht]),if_pos (by simp only [List.length_cons]; omega)]
   ·rw [decide_eq_false (by omega),cond_false]
    refine Ok.bindE g0 (Ok.ret ?_)
    rw [Js,hs]
    dsimp only
    rw [if_neg (by simp [ht]),if_neg (by simp only [List.length_cons]; omega)]
    dsimp only
    congr 1
    congr 1
    ·omega
    ·congr 1; omega
  by_cases h3:y.toNat < 128
  ·rw [decide_eq_false (by omega),cond_false]
   have:=J4 y.toNat 1 (by omega) (by omega) (sN h3) (by omega)
   rw [show ((k + 1 + 1:Nat):Int)=(k:Int) + 2 by omega] at this
   exact this
  rw [decide_eq_true (by omega),cond_true,Fv (x:=(y.toNat:Int) - 128) (by omega)]
  have hno:F4 (y :: r)=none->X1 (x :: y :: r)=none:=fun h=>by rw [Js,h]; simp
  by_cases h4:y.toNat=128
  ·rw [decide_eq_true (by omega)]
   exact J2 y (hno (Vm (.inl h4)))
  rw [decide_eq_false (by omega),cond_false]
  by_cases h5:131 < y.toNat
  ·rw [decide_eq_true (by omega)]
   exact J2 y (hno (Vm (.inr (by omega))))
  rw [decide_eq_false (by omega),cond_false,Fv (x:=(b.length:Int) - ((k:Int) + 2)) (by omega)]
  by_cases h6:r.length < y.toNat - 128
  ·rw [decide_eq_true (by omega)]
   refine J2 y (hno ?_)
   by_cases h7:y.toNat=129
   ·cases r with
    | nil=>exact rZ h7
    | cons z r=>simp at h6; omega
   ·by_cases h8:y.toNat=130
    ·match r with
     | []=>exact rV h8
     | [z]=>exact kQ h8
     | z :: u :: r=>simp at h6; omega
    ·exact Vm (.inr (by omega))
  rw [decide_eq_false (by omega),cond_false]
  obtain⟨z,hz⟩:∃ z,r[0]?=some z:=⟨_,List.getElem?_eq_getElem (by omega)⟩
  have hzl:=z.toNat_lt
  have g2:=gj 0
  rw [hz,show ((k + 2 + 0:Nat):Int)=(k:Int) + 2 by omega] at g2
  refine Ok.bindE g2 ?_
  by_cases h7:z.toNat=0
  ·rw [decide_eq_true (by omega)]
   refine J2 y (hno ?_)
   cases r with
   | nil=>cases hz
   | cons z' r=>
    injection hz with hz
    subst hz
    by_cases h8:y.toNat=129
    ·rw [pK h8,if_pos (by omega)]
    ·by_cases h9:y.toNat=130
     ·cases r with
      | nil=>exact kQ h9
      | cons u r=>rw [tT h9,if_pos h7]
     ·exact Vm (.inr (by omega))
  rw [decide_eq_false (by omega)]
  unfold Ba.j2
  rw [cond_false]
  have L:Dl (fun q'=>Ba.l3 b (k:Int) y q'.1 q'.2) (0,0)=(cond (decide (((r.take (y.toNat - 128)).foldl (fun (s:Int) (e:UInt8)=>s * 256 + (e.toNat:Int)) 0) < 128)) (some (0,0,0,false)) (Ba.j4 b (k:Int) ((r.take (y.toNat - 128)).foldl (fun (s:Int) (e:UInt8)=>s * 256 + (e.toNat:Int)) 0) ((k:Int) + 2 + ((y.toNat:Int) - 128)))):=by
   have step:∀ (i:Nat) (s:Int),i < y.toNat - 128->0<=s->s < 100000000->Ba.l3 b (k:Int) y s (i:Int)=(r[i]?).bind fun e=>some (.next (s * 256 + (e.toNat:Int),((i + 1:Nat):Int))):=by
    intro i s hi hs0 hs1
    unfold Ba.l3
    rw [Fv (x:=(y.toNat:Int) - 128) (by omega),decide_eq_true (by omega),cond_true,Fv (x:=(k:Int) + 2) (by omega),Fv (x:=(k:Int) + 2 + (i:Int)) (by omega)]
    have:=gj i
    rw [show ((k + 2 + i:Nat):Int)=(k:Int) + 2 + (i:Int) by omega] at this
    rw [this]
    cases r[i]? with
    | none=>rfl
    | some e=>
     have he:=e.toNat_lt
     rw [Option.bind_some,Option.bind_some,Fv (x:=s * 256) (by omega),Fv (by omega),Gp (by omega)]
   have fin:∀ (s:Int),Ba.l3 b (k:Int) y s ((y.toNat - 128:Nat):Int)=up (cond (decide (s < 128)) (some (0,0,0,false)) (Ba.j4 b (k:Int) s ((k:Int) + 2 + ((y.toNat:Int) - 128)))):=by
    intro s
    unfold Ba.l3
    rw [Fv (x:=(y.toNat:Int) - 128) (by omega),decide_eq_false (by omega),cond_false,Fv (x:=(k:Int) + 2) (by omega),Fv (x:=(k:Int) + 2 + ((y.toNat:Int) - 128)) (by omega)]
   have hc:y.toNat - 128=1\/y.toNat - 128=2\/y.toNat - 128=3:=by omega
   rcases hc with hc | hc | hc
   ·obtain⟨a,r',rfl⟩:∃ a r',r=a :: r':=by
     cases r with
     | nil=>cases hz
     | cons a r'=>exact⟨a,r',rfl⟩
    have ha:=a.toNat_lt
    have s0:=step 0 0 (by omega) (by omega) (by omega)
    rw [H2 (s':=((0:Int) * 256 + (a.toNat:Int),((0 + 1:Nat):Int))) s0]
    rw [hc] at fin ⊢
    rw [R3 (fin _)]
    rfl
   ·obtain⟨a,c,r',rfl⟩:∃ a c r',r=a :: c :: r':=by
     match r,h6 with
     | a :: c :: r',_=>exact⟨a,c,r',rfl⟩
     | [a],h6=>simp at h6; omega
     | [],h6=>simp at h6; omega
    have ha:=a.toNat_lt
    have hc':=c.toNat_lt
    have s0:=step 0 0 (by omega) (by omega) (by omega)
    have s1:=step 1 ((0:Int) * 256 + (a.toNat:Int)) (by omega) (by omega) (by omega)
    rw [H2 (s':=((0:Int) * 256 + (a.toNat:Int),((0 + 1:Nat):Int))) s0]
    rw [H2 (s':=(((0:Int) * 256 + (a.toNat:Int)) * 256 + (c.toNat:Int),((1 + 1:Nat):Int))) s1]
    rw [hc] at fin ⊢
    rw [R3 (fin _)]
    rfl
   ·obtain⟨a,c,d,r',rfl⟩:∃ a c d r',r=a :: c :: d :: r':=by
     match r,h6 with
     | a :: c :: d :: r',_=>exact⟨a,c,d,r',rfl⟩
     | [a,c],h6=>simp at h6; omega
     | [a],h6=>simp at h6; omega
     | [],h6=>simp at h6; omega
    have ha:=a.toNat_lt
    have hc':=c.toNat_lt
    have hd':=d.toNat_lt
    have s0:=step 0 0 (by omega) (by omega) (by omega)
    have s1:=step 1 ((0:Int) * 256 + (a.toNat:Int)) (by omega) (by omega) (by omega)
    have s2:=step 2 (((0:Int) * 256 + (a.toNat:Int)) * 256 + (c.toNat:Int)) (by omega) (by omega) (by omega)
    rw [H2 (s':=((0:Int) * 256 + (a.toNat:Int),((0 + 1:Nat):Int))) s0]
    rw [H2 (s':=(((0:Int) * 256 + (a.toNat:Int)) * 256 + (c.toNat:Int),((1 + 1:Nat):Int))) s1]
    rw [H2 (s':=((((0:Int) * 256 + (a.toNat:Int)) * 256 + (c.toNat:Int)) * 256 + (d.toNat:Int),((2 + 1:Nat):Int))) s2]
    rw [hc] at fin ⊢
    rw [R3 (fin _)]
    rfl
  rw [L]
  have hc:y.toNat=129\/y.toNat=130\/y.toNat=131:=by omega
  rcases hc with hc | hc | hc
  ·obtain⟨a,r',rfl⟩:∃ a r',r=a :: r':=by
    cases r with
    | nil=>cases hz
    | cons a r'=>exact⟨a,r',rfl⟩
   injection hz with hz
   subst hz
   have e1:(List.take (y.toNat - 128) (a :: r')).foldl (fun (s:Int) (e:UInt8)=>s * 256 + (e.toNat:Int)) 0=(a.toNat:Int):=by rw [hc]; simp
   rw [e1]
   by_cases h8:a.toNat < 128
   ·rw [decide_eq_true (by omega)]
    refine Ok.ret ?_
    rw [hno (by rw [pK hc,if_pos h8])]
   ·rw [decide_eq_false (by omega),cond_false]
    have:=J4 a.toNat 2 (by omega) (by omega) (by rw [pK hc,if_neg h8]) (by rw [List.length_cons] at hlen; omega)
    rw [show ((k + 1 + 2:Nat):Int)=(k:Int) + 2 + ((y.toNat:Int) - 128) by omega] at this
    exact this
  ·obtain⟨a,c,r',rfl⟩:∃ a c r',r=a :: c :: r':=by
    match r,h6 with
    | a :: c :: r',_=>exact⟨a,c,r',rfl⟩
    | [a],h6=>simp at h6; omega
    | [],h6=>simp at h6; omega
   injection hz with hz
   subst hz
   have hcl:=c.toNat_lt
   have e1:(List.take (y.toNat - 128) (a :: c :: r')).foldl (fun (s:Int) (e:UInt8)=>s * 256 + (e.toNat:Int)) 0=((a.toNat * 256 + c.toNat:Nat):Int):=by rw [hc]; simp
   rw [e1]
   rw [decide_eq_false (by omega),cond_false]
   have:=J4 (a.toNat * 256 + c.toNat) 3 (by omega) (by omega) (by rw [tT hc,if_neg h7]) (by simp only [List.length_cons] at hlen; omega)
   rw [show ((k + 1 + 3:Nat):Int)=(k:Int) + 2 + ((y.toNat:Int) - 128) by omega] at this
   exact this
  ·obtain⟨a,c,d,r',rfl⟩:∃ a c d r',r=a :: c :: d :: r':=by
    match r,h6 with
    | a :: c :: d :: r',_=>exact⟨a,c,d,r',rfl⟩
    | [a,c],h6=>simp at h6; omega
    | [a],h6=>simp at h6; omega
    | [],h6=>simp at h6; omega
   injection hz with hz
   subst hz
   have hcl:=c.toNat_lt
   have hdl:=d.toNat_lt
   have e1:(List.take (y.toNat - 128) (a :: c :: d :: r')).foldl (fun (s:Int) (e:UInt8)=>s * 256 + (e.toNat:Int)) 0=(((a.toNat * 256 + c.toNat) * 256 + d.toNat:Nat):Int):=by rw [hc]; simp
   rw [e1]
   rw [decide_eq_false (by omega),cond_false]
   unfold Ba.j4
   simp only [List.length_cons] at hlen
   rw [Fv (x:=(b.length:Int) - _) (by omega),decide_eq_true (by omega)]
   refine Ok.ret ?_
   rw [hno (Vm (.inr (by omega)))]
theorem bO (rec:List UInt8->Option (List Aa×Bool)) (b:List UInt8) (hb:b.length<=4096) (hr:∀ c,c.length < b.length->Ok (rec c) (R8 c)):Ok (B8.F rec b) (R8 b):=by
 unfold B8.F
 refine Ok.loop (fun s=>∃ k:Nat,s.1=(k:Int)/\k<=b.length/\s.2.length<=k/\Ec b=(Ec (b.drop k)).map (s.2 ++ ·)) (fun s=>b.length - s.1.toNat) (fun s hs=>?_) ⟨0,rfl,aBt _,aBk _,by rw [aDn]; simp⟩
 obtain⟨at_,out⟩:=s
 obtain⟨k,rfl,hk,ho,hd⟩:=hs
 dsimp only at hd ho
 show Ok (B8.l1 rec b (k:Int) out) _
 unfold B8.l1
 refine Ok.cond (fun hc=>?_) fun hc=>?_
 ·have hc:=aBw hc
  refine Ok.bind (dJ b k hb hk) fun y hy=>?_
  unfold Vh at hy
  have F:Fo (b.drop k)=none->Ok (up (some (([]:List Aa),false)):Option (Lp (Int×List Aa) (List Aa×Bool))) (xO (fun s'=>(∃ k:Nat,s'.1=(k:Int)/\k<=b.length/\s'.2.length<=k/\Ec b=(Ec (b.drop k)).map (s'.2 ++ ·))/\b.length - s'.1.toNat < b.length - ((k:Int),out).1.toNat) (R8 b)):=by
   intro h
   refine Ok.up (Ok.ret ?_)
   unfold R8
   rw [T1 hd (by omega) h]
  cases hh:X1 (b.drop k) with
  | none=>
   rw [hh] at hy
   dsimp only at hy
   rw [hy,aDe,cond_true]
   exact F (Jp hh)
  | some p=>
   obtain⟨t,o,n⟩:=p
   rw [hh] at hy
   dsimp only at hy
   subst hy
   have hle:=Vd hh
   rw [List.length_drop] at hle
   have hone:=L9 hh
   dsimp only
   rw [Bool.not_true,cond_false]
   have hq:=Yc ⟨t,by omega⟩
   dsimp only at hq
   obtain⟨q,hq1,hq⟩:=Ac hq
   obtain⟨q2,hq2,hq⟩:=Ac hq
   injection hq with hq
   refine Ok.bindE hq1 (Ok.bindE hq2 ?_)
   have hsl:Q7 b ((k + o:Nat):Int) ((k + o + n:Nat):Int)=some (((b.drop k).drop o).take n):=by
    unfold Q7
    rw [if_pos (by omega),aC2]
    congr 2 <;> omega
   have hlen:(((b.drop k).drop o).take n).length=n:=by rw [List.length_take,List.length_drop,List.length_drop]; omega
   have N:∀ (v:Aa),Fo (b.drop k)=some (v,o + n)->Ok ((Gn 256 out [v]).bind fun l_4=>some (Lp.next (((k + o + n:Nat):Int),l_4)):Option (Lp (Int×List Aa) (List Aa×Bool))) (xO (fun s'=>(∃ k:Nat,s'.1=(k:Int)/\k<=b.length/\s'.2.length<=k/\Ec b=(Ec (b.drop k)).map (s'.2 ++ ·))/\b.length - s'.1.toNat < b.length - ((k:Int),out).1.toNat) (R8 b)):=by
    intro v hv
    refine Ok.bindE (D5 (by rw [aBg]; omega)) ?_
    refine Ok.ret ⟨⟨k + (o + n),by dsimp only; omega,by omega,by rw [List.length_append,aBg]; omega,Yp hd (by omega) hv⟩,?_⟩
    dsimp only
    omega
   cases hn:Nd t with
   | true=>
    rw [hn] at hq hone
    rw [hq,cond_true]
    rw [if_pos rfl] at hone
    refine Ok.bindE hsl ?_
    refine Ok.bind (hr _ (by omega)) fun y2 h2=>?_
    unfold R8 at h2
    cases ha:Ec (((b.drop k).drop o).take n) with
    | none=>
     rw [ha] at h2 hone
     dsimp only at h2
     rw [h2,aDe,cond_true]
     exact F hone
    | some es=>
     rw [ha] at h2 hone
     dsimp only at h2
     subst h2
     rw [Bool.not_true,cond_false]
     unfold B8.j2
     dsimp only
     rw [hq]
     exact N _ hone
   | false=>
    rw [hn] at hq hone
    rw [hq,cond_false]
    rw [if_neg (by simp)] at hone
    refine Ok.bindE hsl ?_
    refine Ok.bindE (D5 (by rw [List.length_nil]; omega)) ?_
    unfold B8.j2
    dsimp only
    rw [hq]
    exact N _ hone
 ·have hc:=of_decide_eq_false hc
  have:k=b.length:=by omega
  subst this
  refine Ok.up (Ok.ret ?_)
  unfold R8
  rw [T5 hd]
theorem jA (b:List UInt8) (hb:b.length<=4096):Ok (B8 b) (R8 b):=
 gH Vw List.length (fun b=>b.length<=4096) R8 (fun rec a ha hr=>bO rec a ha fun c hc=>hr c (by omega) hc) b hb
theorem Pw:∀ v:Aa,v.formed=true->v.sz<=v.put.length
 | .mk t b n es,h=>by
  rw [Aa.formed] at h
  simp only [Bool.and_eq_true] at h
  have he:=formedAll_sz es h.2
  rw [V1,Aa.sz]
  simp only [List.length_cons,List.length_append,Aa.body]
  cases n with
  | true=>
   have h1:b.length=0:=by
    have:=h.1.1.2
    simp at this
    rw [this]; rfl
   simp only [if_true]
   omega
  | false=>
   have h1:es=[]:=by
    have:=h.1.2
    simpa using this
   subst h1
   simp [Fz]
 where formedAll_sz:∀ es:List Aa,Cr es=true->Fz es<=(C8 es).length
  | [],_=>aBk _
  | v :: es,h=>by
   rw [Cr,Bool.and_eq_true] at h
   have h1:=Pw v h.1
   have h2:=formedAll_sz es h.2
   rw [Fz,C8,List.length_append]; omega
def Jy:Aa:=.mk 0 [] false []
def My (b:List UInt8):Aa×Int:=if 4096 < b.length then (Jy,3) else match Fo b with
 | some (v,m)=>if m=b.length then (if 16 < v.depth then (Jy,3) else (v,0)) else (Jy,1)
 | none=>(Jy,1)
theorem rN {b:List UInt8} (h:(My b).2=0):b.length<=4096/\(My b).1.put=b/\(My b).1.formed=true/\(My b).1.depth<=16:=by
 unfold My at *
 split at h
 ·cases h
 ·rename_i h1
  rw [if_neg h1]
  cases hd:Fo b with
  | none=>rw [hd] at h; cases h
  | some p=>
   obtain⟨v,m⟩:=p
   rw [hd] at h
   dsimp only at h ⊢
   split at h
   ·rename_i h2
    split at h
    ·cases h
    ·rename_i h3
     rw [if_pos h2,if_neg h3]
     have:=O6 hd h2
     exact⟨by omega,this.1,this.2,by dsimp only; omega⟩
   ·cases h
theorem Zq {b:List UInt8} (h:(My b).2=0):(My b).1.sz<=4096:=by
 obtain⟨h1,h2,h3,-⟩:=rN h
 have:=Pw _ h3
 rw [h2] at this
 omega
theorem lT {v:Aa} (h1:v.formed=true) (h2:v.put.length<=4096) (h3:v.depth<=16):My v.put=(v,0):=by
 have:=V8 v h1 (by omega) []
 rw [aD1] at this
 unfold My
 rw [if_neg (by omega),this]
 dsimp only
 rw [if_pos rfl,if_neg (by omega)]
theorem dB (b:List UInt8):Eu b=some (My b):=by
 unfold Eu My
 by_cases hl:4096 < b.length
 ·rw [decide_eq_true (by omega),if_pos hl]; rfl
 rw [decide_eq_false (by omega),if_neg hl,cond_false]
 obtain⟨y,hy,hp⟩:=lU b (by omega)
 rw [hy,Option.bind_some]
 unfold Nj at hp
 cases hd:Fo b with
 | none=>
  rw [hd] at hp
  dsimp only at hp
  rw [hp]; rfl
 | some p=>
  obtain⟨v,m⟩:=p
  rw [hd] at hp
  dsimp only at hp
  subst hp
  dsimp only
  rw [Bool.not_true,cond_false]
  by_cases hm:m=b.length
  ·rw [decide_eq_true (by omega),if_pos hm]
   have hb:=O6 hd hm
   have hs:=Pw v hb.2
   rw [hb.1] at hs
   unfold Eu.j1
   rw [Bool.not_true,cond_false,Yz v (by omega),Option.bind_some]
   by_cases h16:16 < v.depth
   ·rw [decide_eq_true (by omega),if_pos h16]; rfl
   ·rw [decide_eq_false (by omega),if_neg h16]; rfl
  ·rw [decide_eq_false (by omega),if_neg hm]; rfl
theorem Og {b:List UInt8} {v:Aa}:Ec b=some [v]↔Fo b=some (v,b.length):=by
 by_cases hn:b=[]
 ·subst hn
  rw [Jh]
  constructor
  ·intro h; cases h
  ·intro h; cases h
 rw [Kh hn]
 cases hd:Fo b with
 | none=>simp
 | some p=>
  obtain⟨w,m⟩:=p
  have hm:=P1 hd
  dsimp only
  constructor
  ·intro h
   obtain⟨l,h1,h2⟩:=aBi.1 h
   injection h2 with h2 h3
   subst h2 h3
   have:b.drop m=[]:=by
    by_cases he:b.drop m=[]
    ·exact he
    ·rw [Kh he] at h1
     cases hq:Fo (b.drop m) with
     | none=>rw [hq] at h1; cases h1
     | some q=>
      rw [hq] at h1
      obtain⟨l,-,h2⟩:=aBi.1 h1
      cases h2
   have:=List.drop_eq_nil_iff.1 this
   rw [show m=b.length by omega]
  ·intro h
   injection h with h
   injection h with h1 h2
   subst h1
   rw [h2,List.drop_length,Jh]; rfl
theorem aG (b:List UInt8):D3 b=some (My b):=by
 unfold D3 My
 by_cases hl:4096 < b.length
 ·rw [decide_eq_true (by omega),if_pos hl]; rfl
 rw [decide_eq_false (by omega),if_neg hl,cond_false]
 obtain⟨y,hy,hp⟩:=jA b (by omega)
 rw [hy,Option.bind_some]
 unfold R8 at hp
 have hno:(∀ v,Fo b≠some (v,b.length))->(match Fo b with | some (v,m)=>if m=b.length then (if 16 < v.depth then (Jy,3) else (v,0)) else (Jy,1) | none=>(Jy,1))=(Jy,(1:Int)):=by
  intro h
  cases hd:Fo b with
  | none=>rfl
  | some p=>
   obtain⟨v,m⟩:=p
   dsimp only
   rw [if_neg (fun e=>h v (by rw [hd,e]))]
 cases ha:Ec b with
 | none=>
  rw [ha] at hp
  dsimp only at hp
  rw [hp,hno fun v hv=>by rw [Og.2 hv] at ha; cases ha]
  rfl
 | some es=>
  rw [ha] at hp
  dsimp only at hp
  subst hp
  dsimp only
  rw [Bool.not_true,cond_false]
  match es with
  | []=>
   rw [hno fun v hv=>by rw [Og.2 hv] at ha; cases ha]
   rfl
  | [v]=>
   have hd:=Og.1 ha
   rw [hd]
   dsimp only
   rw [if_pos rfl]
   have hb:=O6 hd rfl
   have hs:=Pw v hb.2
   rw [hb.1] at hs
   unfold D3.j1
   rw [show (!decide ((([v]:List Aa).length:Int)=1))=false from rfl,cond_false,N5,show ([v]:List Aa)[0]?=some v from rfl,Option.bind_some,Tz v (by omega),Option.bind_some]
   by_cases h16:16 < v.depth
   ·rw [decide_eq_true (by omega),if_pos h16]; rfl
   ·rw [decide_eq_false (by omega),if_neg h16]; rfl
  | v :: w :: es=>
   rw [hno fun v hv=>by rw [Og.2 hv] at ha; cases ha]
   rw [decide_eq_false (by simp only [List.length_cons]; omega)]
   rfl
end
end Go.Proofs.YtlfeokjhphpjeaaGreat
