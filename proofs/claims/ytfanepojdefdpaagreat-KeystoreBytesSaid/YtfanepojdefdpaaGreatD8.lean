/- Plain texts, joined. No program is in sight here. -/
import Derived.Test.YtfanepojdefdpaaGreatP1
import Derived.WalkKit
import Derived.Test.YtfanepojdefdpaaGreatL3
set_option linter.unusedVariables false
set_option linter.unusedSimpArgs false
set_option maxRecDepth 100000
namespace Go.Proofs.YtfanepojdefdpaaGreat
section
open Go
def Pu (t:Int):Bool:=decide (1<=t) && decide (t<=255) && (t % 32 != 31)
def N0 (t:Int):Bool:=t / 32 % 2 == 1
mutual
def Aa.formed:Aa->Bool
 | .mk t b n es=>Pu t && (n == N0 t) && !(n && decide (0 < b.length)) && !(!n && decide (0 < es.length)) && Fz es
def Fz:List Aa->Bool
 | []=>true
 | v :: vs=>v.formed && Fz vs
end
theorem O3:∀ es:List Aa,Fz es=es.all Aa.formed
 | []=>by simp [Fz]
 | v :: vs=>by rw [Fz,O3 vs,aIk]
mutual
def Aa.depth:Aa->Nat
 | .mk _ _ _ es=>Fu es + 1
def Fu:List Aa->Nat
 | []=>0
 | v :: vs=>max v.depth (Fu vs)
end
theorem Po:∀ a b:List Aa,Fu (a ++ b)=max (Fu a) (Fu b)
 | [],b=>by simp [Fu]
 | v :: vs,b=>by rw [aGb,Fu,Fu,Po vs b,Nat.max_assoc]
theorem M5 {es:List Aa} {k:Nat} {d:Aa} (h:es[k]?=some d):Fu (es.take (k + 1))=max (Fu (es.take k)) d.depth:=by
 obtain⟨hk,e⟩:=aBw.1 h
 rw [aG6 hk,Po,e,Fu,Fu,Nat.max_zero]
def H9:List UInt8->List UInt8
 | x :: y :: r=>if (x=0/\y < 128)\/(x=255/\128<=y) then H9 (y :: r) else x :: y :: r
 | l=>l
def bF (n:Int) (k:Nat):List UInt8:=(List.range k).map fun j=>UInt8.ofNat ((IntKind.u64.wrap n).toNat / 2 ^ (56 - 8 * j) % 256)
def U2 (n:Int):List UInt8:=H9 (bF n 8)
def J6 (n:Int):Aa:=.mk 2 (U2 n) false []
theorem Tf (n:Int):0<=IntKind.u64.wrap n/\IntKind.u64.wrap n < 18446744073709551616:=by
 rw [IntKind.wrap_u64]; omega
theorem fN:∀ l:List UInt8,(H9 l).length<=l.length
 | []=>by simp [H9]
 | [_]=>by simp [H9]
 | x :: y :: r=>by
  rw [H9]
  split
  ·have:=fN (y :: r); simp at this ⊢; omega
  ·simp
def F4 (n:Int):Nat->Bool
 | 1=>decide (-128<=n/\n < 128)
 | 2=>decide (-32768<=n/\n < 32768)
 | 3=>decide (-8388608<=n/\n < 8388608)
 | 4=>decide (-2147483648<=n/\n < 2147483648)
 | 5=>decide (-549755813888<=n/\n < 549755813888)
 | 6=>decide (-140737488355328<=n/\n < 140737488355328)
 | 7=>decide (-36028797018963968<=n/\n < 36028797018963968)
 | 8=>true
 | _=>false
def P5 (n:Int):Nat:=if F4 n 1 then 1 else if F4 n 2 then 2 else if F4 n 3 then 3 else if F4 n 4 then 4 else if F4 n 5 then 5 else if F4 n 6 then 6 else if F4 n 7 then 7 else 8
def Dv (n:Int) (j:Nat):UInt8:=UInt8.ofNat ((n / 256 ^ j % 256).toNat)
theorem Em (n:Int) (j:Nat):((Dv n j).toNat:Int)=n / 256 ^ j % 256:=by
 unfold Dv
 have h:0<=n / 256 ^ j % 256/\n / 256 ^ j % 256 < 256:=by omega
 rw [aG0,aFc (by omega)]
 omega
theorem cY (n:Int) (j:Nat) (hj:j<=7):(IntKind.u64.wrap n) / 2 ^ (8 * j) % 256=n / 256 ^ j % 256:=by
 rw [IntKind.wrap_u64]
 match j,hj with
 | 0,_=>simp
 | 1,_=>simp; omega
 | 2,_=>simp; omega
 | 3,_=>simp; omega
 | 4,_=>simp; omega
 | 5,_=>simp; omega
 | 6,_=>simp; omega
 | 7,_=>simp; omega
theorem be8 (n:Int):bF n 8=[Dv n 7,Dv n 6,Dv n 5,Dv n 4,Dv n 3,Dv n 2,Dv n 1,Dv n 0]:=by
 have key:∀ j,j<=7->UInt8.ofNat ((IntKind.u64.wrap n).toNat / 2 ^ (8 * j) % 256)=Dv n j:=by
  intro j hj
  have h:=Tf n
  have h2:=cY n j hj
  unfold Dv
  rw [<- h2]
  obtain⟨m,hm⟩:=Int.eq_ofNat_of_zero_le h.1
  rw [hm]
  congr 1
 have h:=fun j hj=>key j hj
 unfold bF
 simp only [List.range,List.range.loop,aFl,List.map_nil]
 rw [<- h 7 (by omega),<- h 6 (by omega),<- h 5 (by omega),<- h 4 (by omega),<- h 3 (by omega),<- h 2 (by omega),<- h 1 (by omega),<- h 0 (by omega)]
theorem M7 {x y:UInt8} {r:List UInt8} {c:Bool} (h:(((x.toNat:Int)=0/\(y.toNat:Int) < 128)\/((x.toNat:Int)=255/\(128:Int)<=y.toNat))↔c=true):H9 (x :: y :: r)=if c then H9 (y :: r) else x :: y :: r:=by
 have h1:((x=0/\y < 128)\/(x=255/\128<=y))↔(((x.toNat:Int)=0/\(y.toNat:Int) < 128)\/((x.toNat:Int)=255/\(128:Int)<=y.toNat)):=by
  have e0:x=0↔(x.toNat:Int)=0:=⟨fun e=>by rw [e]; rfl,fun e=>UInt8.toNat.inj (by simp; omega)⟩
  have e1:x=255↔(x.toNat:Int)=255:=⟨fun e=>by rw [e]; rfl,fun e=>UInt8.toNat.inj (by simp; omega)⟩
  have e2:y < 128↔(y.toNat:Int) < 128:=by rw [UInt8.lt_iff_toNat_lt]; simp; omega
  have e3:128<=y↔(128:Int)<=y.toNat:=by rw [UInt8.le_iff_toNat_le]; simp; omega
  rw [e0,e1,e2,e3]
 rw [H9]
 by_cases hc:c=true
 ·rw [if_pos (h1.2 (h.2 hc)),if_pos hc]
 ·rw [if_neg (fun g=>hc (h.1 (h1.1 g))),if_neg hc]
theorem qL (n:Int) (_h1:-9223372036854775808<=n) (_h2:n<=9223372036854775807) (r:List UInt8):H9 (Dv n 7 :: Dv n 6 :: r)=if F4 n 7 then H9 (Dv n 6 :: r) else Dv n 7 :: Dv n 6 :: r:=by
 refine M7 ?_
 rw [Em,Em]; unfold F4; simp; omega
theorem sV (n:Int) (h:F4 n 7=true) (r:List UInt8):H9 (Dv n 6 :: Dv n 5 :: r)=if F4 n 6 then H9 (Dv n 5 :: r) else Dv n 6 :: Dv n 5 :: r:=by
 unfold F4 at h; simp at h
 refine M7 ?_
 rw [Em,Em]; unfold F4; simp; omega
theorem pZ (n:Int) (h:F4 n 6=true) (r:List UInt8):H9 (Dv n 5 :: Dv n 4 :: r)=if F4 n 5 then H9 (Dv n 4 :: r) else Dv n 5 :: Dv n 4 :: r:=by
 unfold F4 at h; simp at h
 refine M7 ?_
 rw [Em,Em]; unfold F4; simp; omega
theorem qO (n:Int) (h:F4 n 5=true) (r:List UInt8):H9 (Dv n 4 :: Dv n 3 :: r)=if F4 n 4 then H9 (Dv n 3 :: r) else Dv n 4 :: Dv n 3 :: r:=by
 unfold F4 at h; simp at h
 refine M7 ?_
 rw [Em,Em]; unfold F4; simp; omega
theorem qE (n:Int) (h:F4 n 4=true) (r:List UInt8):H9 (Dv n 3 :: Dv n 2 :: r)=if F4 n 3 then H9 (Dv n 2 :: r) else Dv n 3 :: Dv n 2 :: r:=by
 unfold F4 at h; simp at h
 refine M7 ?_
 rw [Em,Em]; unfold F4; simp; omega
theorem pA (n:Int) (h:F4 n 3=true) (r:List UInt8):H9 (Dv n 2 :: Dv n 1 :: r)=if F4 n 2 then H9 (Dv n 1 :: r) else Dv n 2 :: Dv n 1 :: r:=by
 unfold F4 at h; simp at h
 refine M7 ?_
 rw [Em,Em]; unfold F4; simp; omega
theorem qP (n:Int) (h:F4 n 2=true) (r:List UInt8):H9 (Dv n 1 :: Dv n 0 :: r)=if F4 n 1 then H9 (Dv n 0 :: r) else Dv n 1 :: Dv n 0 :: r:=by
 unfold F4 at h; simp at h
 refine M7 ?_
 rw [Em,Em]; unfold F4; simp; omega
theorem Ev {n:Int} {j:Nat} (hj:1<=j) (h7:j<=6) (h:¬ F4 n (j + 1)=true):¬ F4 n j=true:=by
 match j,hj,h7 with
 | 1,_,_=>unfold F4 at *; simp at *; omega
 | 2,_,_=>unfold F4 at *; simp at *; omega
 | 3,_,_=>unfold F4 at *; simp at *; omega
 | 4,_,_=>unfold F4 at *; simp at *; omega
 | 5,_,_=>unfold F4 at *; simp at *; omega
 | 6,_,_=>unfold F4 at *; simp at *; omega
theorem kS (n:Int) (h1:-9223372036854775808<=n) (h2:n<=9223372036854775807):U2 n=(bF n 8).drop (8 - P5 n):=by
 unfold U2
 rw [be8]
 by_cases f7:F4 n 7=true
 ·rw [qL n h1 h2,if_pos f7]
  by_cases f6:F4 n 6=true
  ·rw [sV n f7,if_pos f6]
   by_cases f5:F4 n 5=true
   ·rw [pZ n f6,if_pos f5]
    by_cases f4:F4 n 4=true
    ·rw [qO n f5,if_pos f4]
     by_cases f3:F4 n 3=true
     ·rw [qE n f4,if_pos f3]
      by_cases f2:F4 n 2=true
      ·rw [pA n f3,if_pos f2]
       by_cases f1:F4 n 1=true
       ·rw [qP n f2,if_pos f1]
        rw [H9]
        ·simp [P5,f1]
        ·intro x y r h; cases h
       ·rw [qP n f2,if_neg f1]
        simp [P5,f1,f2]
      ·rw [pA n f3,if_neg f2]
       have f1:=Ev (j:=1) (by omega) (by omega) f2
       simp [P5,f1,f2,f3]
     ·rw [qE n f4,if_neg f3]
      have f2:=Ev (j:=2) (by omega) (by omega) f3
      have f1:=Ev (j:=1) (by omega) (by omega) f2
      simp [P5,f1,f2,f3,f4]
    ·rw [qO n f5,if_neg f4]
     have f3:=Ev (j:=3) (by omega) (by omega) f4
     have f2:=Ev (j:=2) (by omega) (by omega) f3
     have f1:=Ev (j:=1) (by omega) (by omega) f2
     simp [P5,f1,f2,f3,f4,f5]
   ·rw [pZ n f6,if_neg f5]
    have f4:=Ev (j:=4) (by omega) (by omega) f5
    have f3:=Ev (j:=3) (by omega) (by omega) f4
    have f2:=Ev (j:=2) (by omega) (by omega) f3
    have f1:=Ev (j:=1) (by omega) (by omega) f2
    simp [P5,f1,f2,f3,f4,f5,f6]
  ·rw [sV n f7,if_neg f6]
   have f5:=Ev (j:=5) (by omega) (by omega) f6
   have f4:=Ev (j:=4) (by omega) (by omega) f5
   have f3:=Ev (j:=3) (by omega) (by omega) f4
   have f2:=Ev (j:=2) (by omega) (by omega) f3
   have f1:=Ev (j:=1) (by omega) (by omega) f2
   simp [P5,f1,f2,f3,f4,f5,f6,f7]
 ·rw [qL n h1 h2,if_neg f7]
  have f6:=Ev (j:=6) (by omega) (by omega) f7
  have f5:=Ev (j:=5) (by omega) (by omega) f6
  have f4:=Ev (j:=4) (by omega) (by omega) f5
  have f3:=Ev (j:=3) (by omega) (by omega) f4
  have f2:=Ev (j:=2) (by omega) (by omega) f3
  have f1:=Ev (j:=1) (by omega) (by omega) f2
  simp [P5,f1,f2,f3,f4,f5,f6,f7]
theorem fU (n:Int) (h1:-9223372036854775808<=n) (h2:n<=9223372036854775807) (k:Nat) (hk:k<=7) :
  F4 n (k + 1)=true↔(n / 256 ^ (k + 1)=0/\((Dv n k).toNat:Int) < 128)\/(n / 256 ^ (k + 1)=-1/\(128:Int)<=(Dv n k).toNat):=by
 match k,hk with
 | 0,_=>rw [Em]; unfold F4; simp; omega
 | 1,_=>rw [Em]; unfold F4; simp; omega
 | 2,_=>rw [Em]; unfold F4; simp; omega
 | 3,_=>rw [Em]; unfold F4; simp; omega
 | 4,_=>rw [Em]; unfold F4; simp; omega
 | 5,_=>rw [Em]; unfold F4; simp; omega
 | 6,_=>rw [Em]; unfold F4; simp; omega
 | 7,_=>rw [Em]; unfold F4; simp; omega
theorem Qy (n:Int) (k:Nat) (hk:k<=7):(bF n 8).drop (7 - k)=Dv n k :: (bF n 8).drop (8 - k):=by
 rw [be8]
 match k,hk with
 | 0,_=>rfl
 | 1,_=>rfl
 | 2,_=>rfl
 | 3,_=>rfl
 | 4,_=>rfl
 | 5,_=>rfl
 | 6,_=>rfl
 | 7,_=>rfl
theorem dY (n:Int) (k:Nat) (hk:k<=7) (hn:∀ j,1<=j->j<=k->F4 n j=false) (hf:F4 n (k + 1)=true):P5 n=k + 1:=by
 have g:=fun j (h1:1<=j) (h2:j<=k)=>hn j h1 h2
 unfold P5
 match k,hk,hf,g with
 | 0,_,hf,_=>simp [hf]
 | 1,_,hf,g=>simp [hf,g 1 (by omega) (by omega)]
 | 2,_,hf,g=>simp [hf,g 1 (by omega) (by omega),g 2 (by omega) (by omega)]
 | 3,_,hf,g=>simp [hf,g 1 (by omega) (by omega),g 2 (by omega) (by omega),g 3 (by omega) (by omega)]
 | 4,_,hf,g=>simp [hf,g 1 (by omega) (by omega),g 2 (by omega) (by omega),g 3 (by omega) (by omega),g 4 (by omega) (by omega)]
 | 5,_,hf,g=>simp [hf,g 1 (by omega) (by omega),g 2 (by omega) (by omega),g 3 (by omega) (by omega),g 4 (by omega) (by omega),g 5 (by omega) (by omega)]
 | 6,_,hf,g=>simp [hf,g 1 (by omega) (by omega),g 2 (by omega) (by omega),g 3 (by omega) (by omega),g 4 (by omega) (by omega),g 5 (by omega) (by omega),g 6 (by omega) (by omega)]
 | 7,_,_,g=>simp [g 1 (by omega) (by omega),g 2 (by omega) (by omega),g 3 (by omega) (by omega),g 4 (by omega) (by omega),g 5 (by omega) (by omega),g 6 (by omega) (by omega),g 7 (by omega) (by omega)]
theorem pR (n:Int) (k:Nat):n / 256 ^ (k + 1) / 256=n / 256 ^ (k + 1 + 1):=by
 rw [Int.pow_succ 256 (k + 1)]
 have h:(0:Int)<=256 ^ (k + 1):=Int.pow_nonneg (by omega)
 first | exact Int.ediv_ediv_of_nonneg h | exact Int.ediv_ediv_eq_ediv_mul _ h | (rw [Int.ediv_ediv,if_neg (by omega)]; simp)
def be (n:Nat):List UInt8:=if h:n=0 then [] else be (n / 256) ++ [UInt8.ofNat (n % 256)]
termination_by n
decreasing_by omega
theorem wC:be 0=[]:=by rw [be]; rfl
theorem Yd {n:Nat} (h:0 < n):be n=be (n / 256) ++ [UInt8.ofNat (n % 256)]:=by rw [be]; rw [dif_neg (by omega)]
def pN (n:Nat):Nat:=(be n).length
theorem wT:pN 0=0:=by unfold pN; rw [wC]; rfl
theorem lE {n:Nat} (h:0 < n):pN n=pN (n / 256) + 1:=by unfold pN; rw [Yd h]; simp
theorem oJ (k:Nat):∀ n,n < 256 ^ k->pN n<=k:=by
 induction k with
 | zero=>
  intro n h
  have:n=0:=by simpa using h
  subst this
  rw [wT]
  omega
 | succ k ih=>
  intro n h
  rcases aFa n with h0 | h0
  ·subst h0; rw [wT]; omega
  ·rw [lE h0]
   have:=ih (n / 256) (by rw [Nat.pow_succ] at h; exact Nat.div_lt_of_lt_mul (by rw [aGj]; exact h))
   omega
def Rk (n:Nat):List UInt8:=if n < 128 then [UInt8.ofNat n] else UInt8.ofNat (128 + pN n) :: be n
mutual
def Aa.put:Aa->List UInt8
 | .mk t b n es=>UInt8.ofNat (t.toNat % 256) :: (Rk ((if n then E8 es else b).length) ++ (if n then E8 es else b))
def E8:List Aa->List UInt8
 | []=>[]
 | v :: vs=>v.put ++ E8 vs
end
def Aa.body:Aa->List UInt8 | .mk _ b n es=>if n then E8 es else b
theorem bB (t:Int) (b:List UInt8) (n:Bool) (es:List Aa):(Aa.mk t b n es).put=UInt8.ofNat (t.toNat % 256) :: (Rk (Aa.mk t b n es).body.length ++ (Aa.mk t b n es).body):=by rw [Aa.put]; rfl
theorem Ns:∀ a b:List Aa,E8 (a ++ b)=E8 a ++ E8 b
 | [],b=>by simp [E8]
 | v :: vs,b=>by rw [aGb,E8,E8,Ns vs b,aFv]
theorem Uy {es:List Aa} {k:Nat} {d:Aa} (h:es[k]?=some d):E8 (es.take (k + 1))=E8 (es.take k) ++ d.put:=by
 obtain⟨hk,e⟩:=aBw.1 h
 rw [aG6 hk,Ns,e]
 simp [E8]
theorem Xm {es:List Aa} (k:Nat):(E8 (es.take k)).length<=(E8 es).length:=by
 have:=Ns (es.take k) (es.drop k)
 rw [aGc] at this
 rw [this,aDw]; omega
theorem cU {n:Nat} (h:n < 256 ^ 6):(Rk n).length<=7:=by
 unfold Rk
 split
 ·simp
 ·have:=oJ 6 n h
  unfold pN at this
  simp; omega
end
section
open Go
def H1:List UInt8->Option (Nat×Nat)
 | []=>none
 | x :: r=>if x.toNat < 128 then some (x.toNat,1)
  else if x.toNat=129 then match r with | y :: _=>if y.toNat < 128 then none else some (y.toNat,2) | []=>none
  else if x.toNat=130 then match r with | y :: z :: _=>if y.toNat=0 then none else some (y.toNat * 256 + z.toNat,3) | _=>none
  else none
def Zf:List UInt8->Option (Nat×Nat×Nat)
 | []=>none
 | t :: r=>if Pu t.toNat=false then none else match H1 r with
  | none=>none
  | some (n,c)=>if r.length - c < n then none else some (t.toNat,1 + c,n)
theorem fH {r:List UInt8} {n c:Nat} (h:H1 r=some (n,c)):1<=c/\c<=r.length/\c<=3/\n<=65535:=by
 unfold H1 at h
 match r,h with
 | x :: r,h=>
  dsimp only at h
  have hx:=x.toNat_lt
  split at h
  ·simp at h; simp; omega
  ·split at h
   ·match r,h with
    | y :: r',h=>
     have hy:=y.toNat_lt
     dsimp only at h
     split at h
     ·cases h
     ·simp at h; simp; omega
   ·split at h
    ·match r,h with
     | [y],h=>cases h
     | y :: z :: r',h=>
      have hy:=y.toNat_lt
      have hz:=z.toNat_lt
      dsimp only at h
      split at h
      ·cases h
      ·simp at h; simp; omega
    ·cases h
theorem Yk {l:List UInt8} {t o n:Nat} (h:Zf l=some (t,o,n)):2<=o/\o + n<=l.length/\Pu t=true/\t<=255/\n<=65535/\o<=4:=by
 unfold Zf at h
 match l,h with
 | x :: r,h=>
  dsimp only at h
  have hx:=x.toNat_lt
  split at h
  ·cases h
  ·rename_i ht
   cases hs:H1 r with
   | none=>rw [hs] at h; cases h
   | some p=>
    obtain⟨m,c⟩:=p
    rw [hs] at h
    have hb:=fH hs
    dsimp only at h
    split at h
    ·cases h
    ·simp at h
     obtain⟨rfl,rfl,rfl⟩:=h
     simp only [aEw]
     refine⟨by omega,by omega,by simpa using ht,by omega,by omega,by omega⟩
def E7 (l:List UInt8):Option (List Aa):=
 if l=[] then some [] else
 match h:Zf l with
 | none=>none
 | some (t,o,n)=>
  match (if N0 t then (E7 ((l.drop o).take n)).map fun es=>Aa.mk t [] true es else some (Aa.mk t ((l.drop o).take n) false [])) with
  | none=>none
  | some v=>(E7 (l.drop (o + n))).map (v :: ·)
termination_by l.length
decreasing_by
 ·have:=Yk h
  rw [aDy,aD1]; omega
 ·have:=Yk h
  rw [aD1]; omega
def Gs (l:List UInt8):Option (Aa×Nat):=
 match Zf l with
 | none=>none
 | some (t,o,n)=>(if N0 t then (E7 ((l.drop o).take n)).map fun es=>Aa.mk t [] true es else some (Aa.mk t ((l.drop o).take n) false [])).map fun v=>(v,o + n)
theorem Lk:E7 []=some []:=by rw [E7]; rfl
theorem Mh {l:List UInt8} (h:l≠[]):E7 l=match Gs l with | none=>none | some (v,m)=>(E7 (l.drop m)).map (v :: ·):=by
 rw [E7,if_neg h]
 unfold Gs
 split
 ·rename_i h1; rw [h1]
 ·rename_i t o n h1
  rw [h1]
  dsimp only
  cases (if N0 t then (E7 ((l.drop o).take n)).map fun es=>Aa.mk t [] true es else some (Aa.mk t ((l.drop o).take n) false [])) with
  | none=>rfl
  | some v=>rfl
theorem Pi {l:List UInt8} {t o n:Nat} (h:Zf l=some (t,o,n)):Gs l=(if N0 t then (E7 ((l.drop o).take n)).map fun es=>Aa.mk t [] true es else some (Aa.mk t ((l.drop o).take n) false [])).map fun v=>(v,o + n):=by
 unfold Gs; rw [h]
theorem Ks {l:List UInt8} (h:Zf l=none):Gs l=none:=by unfold Gs; rw [h]
theorem Ud {l:List UInt8} {v:Aa} {m:Nat} (h:Gs l=some (v,m)):2<=m/\m<=l.length:=by
 cases hh:Zf l with
 | none=>rw [Ks hh] at h; cases h
 | some p=>
  obtain⟨t,o,n⟩:=p
  rw [Pi hh] at h
  have:=Yk hh
  simp only [aFi] at h
  obtain⟨a,_,h⟩:=h
  injection h with _ h
  omega
theorem zL {n:Nat} (h:n < 128):Rk n=[UInt8.ofNat n]:=by unfold Rk; rw [if_pos h]
theorem zN {n:Nat} (h:128<=n) (h2:n < 256):Rk n=[129,UInt8.ofNat n]:=by
 have e:be n=[UInt8.ofNat n]:=by rw [Yd (by omega),show n / 256=0 by omega,wC,show n % 256=n by omega]; rfl
 unfold Rk pN
 rw [if_neg (by omega),e]
 rfl
theorem aBq {n:Nat} (h:256<=n) (h2:n < 65536):Rk n=[130,UInt8.ofNat (n / 256),UInt8.ofNat (n % 256)]:=by
 have e:be n=[UInt8.ofNat (n / 256),UInt8.ofNat (n % 256)]:=by
  rw [Yd (by omega),Yd (n:=n / 256) (by omega),show n / 256 / 256=0 by omega,wC,show n / 256 % 256=n / 256 by omega]; rfl
 unfold Rk pN
 rw [if_neg (by omega),e]
 rfl
theorem Wi (x:UInt8):UInt8.ofNat x.toNat=x:=by simp
theorem gT {r:List UInt8} {n c:Nat} (h:H1 r=some (n,c)):r.take c=Rk n/\(Rk n).length=c:=by
 unfold H1 at h
 match r,h with
 | x :: r,h=>
  dsimp only at h
  have hx:=x.toNat_lt
  split at h
  ·rename_i h1
   simp at h
   obtain⟨rfl,rfl⟩:=h
   rw [zL h1]
   simp
  ·split at h
   ·rename_i h1 h2
    match r,h with
    | y :: r',h=>
     have hy:=y.toNat_lt
     dsimp only at h
     split at h
     ·cases h
     ·simp at h
      obtain⟨rfl,rfl⟩:=h
      rw [zN (by omega) (by omega),Wi]
      have e:x=129:=by apply aGa.1; rw [h2]; rfl
      subst e
      simp
   ·split at h
    ·rename_i h1 h0 h2
     match r,h with
     | [y],h=>cases h
     | y :: z :: r',h=>
      have hy:=y.toNat_lt
      have hz:=z.toNat_lt
      dsimp only at h
      split at h
      ·cases h
      ·simp at h
       obtain⟨rfl,rfl⟩:=h
       rw [aBq (by omega) (by omega),show (y.toNat * 256 + z.toNat) / 256=y.toNat by omega,show (y.toNat * 256 + z.toNat) % 256=z.toNat by omega,Wi,Wi]
       have e:x=130:=by apply aGa.1; rw [h2]; rfl
       subst e
       simp
    ·cases h
theorem lT {t:Int} (h:Pu t=true):1<=t/\t<=255:=by
 unfold Pu at h
 simp at h
 omega
theorem eJ:∀ (N:Nat) (l:List UInt8),l.length<=N->∀ es,E7 l=some es->E8 es=l/\Fz es=true:=by
 intro N
 induction N with
 | zero=>
  intro l hl es h
  have:l=[]:=aDu (by omega)
  subst this
  rw [Lk] at h
  injection h with h
  subst h
  exact⟨by rw [E8],by rw [Fz]⟩
 | succ N ih=>
  intro l hl es h
  by_cases hn:l=[]
  ·subst hn
   rw [Lk] at h
   injection h with h
   subst h
   exact⟨by rw [E8],by rw [Fz]⟩
  rw [Mh hn] at h
  cases ho:Gs l with
  | none=>rw [ho] at h; cases h
  | some p=>
   obtain⟨d,m⟩:=p
   rw [ho] at h
   dsimp only at h
   obtain⟨es',h1,rfl⟩:=aFi.1 h
   have hm:=Ud ho
   have h2:=ih (l.drop m) (by rw [aD1]; omega) es' h1
   have h3:d.put=l.take m/\d.formed=true:=by
    cases hh:Zf l with
    | none=>rw [Ks hh] at ho; cases ho
    | some q=>
     obtain⟨t,o,n⟩:=q
     rw [Pi hh] at ho
     have hb:=Yk hh
     obtain⟨a,ha,hq⟩:=aFi.1 ho
     injection hq with hq hq2
     subst hq
     match l,hh with
     | x :: r,hh=>
      unfold Zf at hh
      dsimp only at hh
      split at hh
      ·cases hh
      ·cases hs:H1 r with
       | none=>rw [hs] at hh; cases hh
       | some p=>
        obtain⟨m2,c⟩:=p
        rw [hs] at hh
        dsimp only at hh
        have hsb:=gT hs
        split at hh
        ·cases hh
        ·simp at hh
         obtain⟨rfl,rfl,rfl⟩:=hh
         have hxl:=x.toNat_lt
         have hB:∀ B:List UInt8,(List.drop (1 + c) (x :: r)).take m2=B->B.length=m2->UInt8.ofNat (((x.toNat:Nat):Int).toNat % 256) :: (Rk B.length ++ B)=(x :: r).take m:=by
          intro B e1 e2
          rw [e2,<- hsb.1,<- hq2,aIo 1 c,aHv,aIo 1 m2,<- aHv,List.take_succ_cons,List.take_add,aGn,aFc (by omega),Wi]
          rw [aIo 1 c,List.drop_succ_cons] at e1
          rw [e1]
         have hBl:((List.drop (1 + c) (x :: r)).take m2).length=m2:=by rw [aDy,aD1]; omega
         split at ha
         ·rename_i hnest
          obtain⟨es2,h4,rfl⟩:=aFi.1 ha
          have h5:=ih (((x :: r).drop (1 + c)).take m2) (by omega) es2 h4
          refine⟨?_,?_⟩
          ·rw [bB]
           have hbody:(Aa.mk (x.toNat:Nat) [] true es2).body=E8 es2:=by simp [Aa.body]
           rw [hbody]
           exact hB _ h5.1.symm (by rw [h5.1]; exact hBl)
          ·rw [Aa.formed,hb.2.2.1,hnest,h5.2]; simp
         ·rename_i hnest
          injection ha with ha
          subst ha
          refine⟨?_,?_⟩
          ·rw [bB]
           have hbody:(Aa.mk (x.toNat:Nat) (((x :: r).drop (1 + c)).take m2) false []).body=((x :: r).drop (1 + c)).take m2:=by simp [Aa.body]
           rw [hbody]
           exact hB _ rfl hBl
          ·rw [Aa.formed,hb.2.2.1,Fz]; simp at hnest; simp [hnest]
   exact⟨by rw [E8,h3.1,h2.1,aGc],by rw [Fz,h3.2,h2.2]; rfl⟩
theorem P9 {l:List UInt8} {d:Aa} {m:Nat} (h:Gs l=some (d,m)) (hm:m=l.length):d.put=l/\d.formed=true:=by
 have hne:l≠[]:=by rintro rfl; cases h
 have h1:E7 l=some [d]:=by
  rw [Mh hne,h]
  dsimp only
  rw [hm,aHc,Lk]
  rfl
 obtain⟨h2,h3⟩:=eJ _ l (aFf _) [d] h1
 rw [E8,E8,aG9] at h2
 rw [Fz,aCe] at h3
 exact⟨h2,h3.1⟩
end
section
open Go
mutual
def Aa.sz:Aa->Nat
 | .mk _ b _ es=>b.length + G4 es + 1
def G4:List Aa->Nat
 | []=>0
 | v :: vs=>v.sz + G4 vs
end
theorem In (v:Aa):v.sz=v.Bytes.length + G4 v.Elements + 1:=by cases v; rw [Aa.sz]
theorem Iw:∀ {es:List Aa} {d:Aa},d∈es->d.sz<=G4 es
 | v :: vs,d,h=>by
  rw [G4]
  rcases aE1.1 h with rfl | h
  ·omega
  ·have:=Iw h; omega
theorem Gj:∀ es:List Aa,es.length<=G4 es
 | []=>aFf _
 | v :: vs=>by
  have:=Gj vs
  rw [G4,aEw,In]; omega
theorem Xc:∀ a b:List Aa,G4 (a ++ b)=G4 a + G4 b
 | [],b=>by simp [G4]
 | v :: vs,b=>by rw [aGb,G4,G4,Xc vs b]; omega
theorem Oj {v d:Aa} (h:d∈v.Elements):d.sz < v.sz:=by
 have:=Iw h
 rw [In v]; omega
theorem Vo {b:List UInt8} (h:b.length < 1073741824):Ex b=some b:=by
 unfold Ex Ex.j1
 have e:Gl 1 ([]:List UInt8) b=some b:=by rw [E2 (by simp; omega)]; rfl
 rw [e]
 unfold Ze
 split
 ·rename_i h0; subst h0; simp
 ·rfl
theorem gK (l:List Aa) (h:G4 l < 1073741824):Cz l=some l:=
 Le V4 id G4 (fun l=>G4 l < 1073741824) (fun rec l hl hr=>by
  show Cz.F rec l=some l
  unfold Cz.F
  have hn:=Gj l
  refine (Hi l.length (fun i=>((i:Int),l.take i)) l ?_ ?_).trans ?_
  ·intro i hi
   obtain⟨e,he⟩:∃ e,l[i]?=some e:=⟨_,aA1 hi⟩
   have h1:=Iw (F5 he)
   have h2:=In e
   show Cz.l1 rec l (i:Int) (l.take i)=_
   unfold Cz.l1
   rw [Fm he,Vo (by omega),hr e.Elements (by omega) (by omega)]
   simp only [id,aAo]
   rw [E2 (by simp; omega),F3 (by omega),Dw he]
   cases e; rfl
  ·show Cz.l1 rec l (l.length:Int) (l.take l.length)=_
   unfold Cz.l1
   rw [D7,aFg]; rfl
  ·rfl) l h
theorem Te (l:List Aa) (h:G4 l < 1073741824):Cb l=some l:=
 Le Sv id G4 (fun l=>G4 l < 1073741824) (fun rec l hl hr=>by
  show Cb.F rec l=some l
  unfold Cb.F
  have hn:=Gj l
  refine (Hi l.length (fun i=>((i:Int),l.take i)) l ?_ ?_).trans ?_
  ·intro i hi
   obtain⟨e,he⟩:∃ e,l[i]?=some e:=⟨_,aA1 hi⟩
   have h1:=Iw (F5 he)
   have h2:=In e
   show Cb.l1 rec l (i:Int) (l.take i)=_
   unfold Cb.l1
   rw [Fm he,E2 (by simp; omega)]
   simp only [aH1,aAo]
   rw [hr e.Elements (by omega) (by omega)]
   simp only [id,aAo]
   rw [E2 (by simp; omega),F3 (by omega),Dw he]
   cases e; rfl
  ·show Cb.l1 rec l (l.length:Int) (l.take l.length)=_
   unfold Cb.l1
   rw [D7,aFg]; rfl
  ·rfl) l h
theorem Hq (l:List Aa) (h:G4 l < 1073741824):Dy l=some (.mk 48 [] true l):=by unfold Dy; rw [Te l h]; rfl
theorem Xe {n:Int} (h1:1<=n) (h2:n<=255):∃ m:Fin 256,n=(m.val:Int):=⟨⟨n.toNat,by omega⟩,by simp; omega⟩
theorem nG:∀ m:Fin 256,(!decide (Xh .i64 (m.val:Int) 31=31))=((m.val:Int) % 32 != 31):=by decide +kernel
theorem aD:∀ m:Fin 256,(!decide (Xh .i64 (m.val:Int) 32=0))=N0 (m.val:Int):=by decide +kernel
theorem lV:∀ m:Fin 256,(!decide ((m.val:Int).tmod 32=31))=((m.val:Int) % 32 != 31):=by decide +kernel
theorem Zy:∀ m:Fin 256,((Sd (m.val:Int) 32).bind fun q=>(R4 q 2).bind fun r=>some (decide (r=1)))=some (N0 (m.val:Int)):=by decide +kernel
theorem kK (n:Int):Mj n=some (Pu n):=by
 unfold Mj Pu
 by_cases h1:1<=n
 ·by_cases h2:n<=255
  ·obtain⟨m,rfl⟩:=Xe h1 h2
   rw [nG m,aBu h1,aBu h2]; rfl
  ·simp [h1,h2]
 ·simp [h1]
theorem Z5 (n:Int):Kp n=some (Pu n):=by
 unfold Kp Pu
 by_cases h1:1<=n
 ·by_cases h2:n<=255
  ·obtain⟨m,rfl⟩:=Xe h1 h2
   rw [<- lV m,aBu h1,aBu h2]; rfl
  ·simp [h1,h2]
 ·simp [h1]
theorem La {n:Int} (h:Pu n=true):1<=n/\n<=255:=by
 unfold Pu at h
 simp only [aCe,aFz] at h
 exact⟨h.1.1,h.1.2⟩
theorem Oi (v:Aa):v.formed=(Pu v.Tag && (v.Nested == N0 v.Tag) && !(v.Nested && decide (0 < v.Bytes.length)) && !(!v.Nested && decide (0 < v.Elements.length)) && Fz v.Elements):=by cases v; rw [Aa.formed]
theorem Vg (l:List Aa):(!l.any fun v=>!v.formed)=Fz l:=by
 rw [O3]
 induction l with
 | nil=>rfl
 | cons v l ih=>rw [aGo,aIk,<- ih]; cases v.formed <;> simp
theorem gZ (v:Aa) (h:v.sz < 1073741824):Ch v=some v.formed:=
 Le V6 Aa.formed Aa.sz (fun v=>v.sz < 1073741824) (fun rec v hv hr=>by
  show Ch.F rec v=some v.formed
  have hn:=Gj v.Elements
  have h0:=In v
  have hj1:Ch.j1 rec v true=some false:=rfl
  have hj2:Ch.j1 rec v false=some (Fz v.Elements):=by
   unfold Ch.j1 De Bg
   have hl:Dp (fun q'=>Bg.l1 v.Elements (fun x0=>Fw rec x0) q') 0=some (match v.Elements.findIdx? (fun v=>!v.formed) with | some i=>(i:Int) | none=>-1):=
    Q0 v.Elements (fun i=>(i:Int)) (fun v=>!v.formed) (fun i=>(i:Int)) (-1) (fun i x hx=>by
     have h1:=Oj (F5 hx)
     have h2:=Oe hx
     unfold Bg.l1 Fw
     rw [Fm hx]
     dsimp only
     rw [hr x (by omega) h1,F3 (by omega)]
     cases x.formed <;> rfl) (by unfold Bg.l1; rw [D7]; rfl)
   rw [hl,<- Vg]
   simp only [aCc,aAo]
   cases hq:v.Elements.findIdx? (fun v=>!v.formed) with
   | none=>
    have:=aHt.1 hq
    have:(v.Elements.any fun v=>!v.formed)=false:=by rw [aGv]; simpa using this
    rw [this]; rfl
   | some i=>
    have:=aIj (xs:=v.Elements) (p:=fun v=>!v.formed)
    rw [hq] at this
    rw [<- this]
    simp
  unfold Ch.F
  rw [kK,hj1,hj2,Oi]
  cases ht:Pu v.Tag
  ·rfl
  ·obtain⟨m,hm⟩:=Xe (La ht).1 (La ht).2
   rw [hm,aD m]
   cases v.Nested <;> cases N0 (m.val:Int) <;> by_cases hb:0 < v.Bytes.length <;> by_cases he:0 < v.Elements.length <;> simp [hb,he,hj1,hj2]) v h
theorem Sq (v:Aa) (h:v.sz < 1073741824):Bc v=some v.formed:=
 Le Tg Aa.formed Aa.sz (fun v=>v.sz < 1073741824) (fun rec v hv hr=>by
  show Bc.F rec v=some v.formed
  have hn:=Gj v.Elements
  have h0:=In v
  have hj1:Bc.j1 rec v true=some false:=rfl
  have hj2:Bc.j1 rec v false=some (Fz v.Elements):=by
   unfold Bc.j1
   have hl:=Sp (body:=fun q'=>Bc.l2 rec v q') v.Elements (fun i=>(i:Int)) (fun v=>!v.formed) false true (fun i x hx=>by
     have h1:=Oj (F5 hx)
     have h2:=Oe hx
     unfold Bc.l2
     rw [Fm hx,hr x (by omega) h1,F3 (by omega)]
     cases x.formed <;> rfl) (by unfold Bc.l2; rw [D7]; rfl)
   rw [aCc]
   refine Eq.trans hl ?_
   rw [<- Vg]
   cases v.Elements.any fun v=>!v.formed <;> rfl
  unfold Bc.F
  rw [Z5,hj1,hj2,Oi]
  cases ht:Pu v.Tag
  ·rfl
  ·obtain⟨m,hm⟩:=Xe (La ht).1 (La ht).2
   have hq:=Zy m
   rw [hm]
   cases h1:Sd (m.val:Int) 32 with
   | none=>rw [h1] at hq; cases hq
   | some q=>
    rw [h1] at hq
    simp only [aAo] at hq
    cases h2:R4 q 2 with
    | none=>rw [h2] at hq; cases hq
    | some r=>
     rw [h2] at hq
     simp only [aAo,Option.some.injEq] at hq
     simp only [aAo,h2,hq]
     cases v.Nested <;> cases N0 (m.val:Int) <;> by_cases hb:0 < v.Bytes.length <;> by_cases he:0 < v.Elements.length <;> simp [hb,he,hj1,hj2]) v h
theorem Qh:∀ es:List Aa,Fu es<=G4 es
 | []=>aFf _
 | v :: vs=>by
  obtain⟨t,b,n,es⟩:=v
  have h1:=Qh es
  have h2:=Qh vs
  rw [Fu,G4,Aa.depth,Aa.sz]; omega
theorem fQ (v:Aa):v.depth<=v.sz:=by
 obtain⟨t,b,n,es⟩:=v
 have:=Qh es
 rw [Aa.depth,Aa.sz]; omega
theorem fK (v:Aa):v.depth=Fu v.Elements + 1:=by cases v; rw [Aa.depth]
theorem mR (v:Aa) (h:v.sz < 1073741824):Di v=some (v.depth:Int):=
 Le Xf (fun v=>(v.depth:Int)) Aa.sz (fun v=>v.sz < 1073741824) (fun rec v hv hr=>by
  show Di.F rec v=some (v.depth:Int)
  unfold Di.F
  have hn:=Gj v.Elements
  have h0:=In v
  have hd:=fQ v
  have hq:=fK v
  refine (Hi v.Elements.length (fun i=>((Fu (v.Elements.take i):Int),(i:Int))) (v.depth:Int) ?_ ?_).trans ?_
  ·intro i hi
   obtain⟨e,he⟩:∃ e,v.Elements[i]?=some e:=⟨_,aA1 hi⟩
   have h1:=Oj (F5 he)
   show Di.l1 rec v (Fu (v.Elements.take i):Int) (i:Int)=_
   unfold Di.l1
   rw [Fm he,hr e (by omega) h1,F3 (by omega),M5 he]
   simp only [aAo]
   congr 3
   omega
  ·show Di.l1 rec v (Fu (v.Elements.take v.Elements.length):Int) (v.Elements.length:Int)=_
   unfold Di.l1
   rw [D7,aFg,Fx (by omega),hq]; rfl
  ·rfl) v h
theorem Vx (v:Aa) (h:v.sz < 1073741824):Cg v=some (v.depth:Int):=
 Le Uw (fun v=>(v.depth:Int)) Aa.sz (fun v=>v.sz < 1073741824) (fun rec v hv hr=>by
  show Cg.F rec v=some (v.depth:Int)
  unfold Cg.F
  have hn:=Gj v.Elements
  have h0:=In v
  have hd:=fQ v
  have hq:=fK v
  refine (Hi v.Elements.length (fun i=>((Fu (v.Elements.take i):Int),(i:Int))) (v.depth:Int) ?_ ?_).trans ?_
  ·intro i hi
   obtain⟨e,he⟩:∃ e,v.Elements[i]?=some e:=⟨_,aA1 hi⟩
   have h1:=Oj (F5 he)
   show Cg.l1 rec v (Fu (v.Elements.take i):Int) (i:Int)=_
   unfold Cg.l1
   rw [Fm he,hr e (by omega) h1,F3 (by omega),M5 he]
   simp only [aAo]
   congr 3
   omega
  ·show Cg.l1 rec v (Fu (v.Elements.take v.Elements.length):Int) (v.Elements.length:Int)=_
   unfold Cg.l1
   rw [D7,aFg,Fx (by omega),hq]; rfl
  ·rfl) v h
end
section
open Go
theorem Y3 (m:Nat):u8 (m:Int)=UInt8.ofNat m:=by
 apply aGa.1
 have:=dN (m:Int)
 rw [aG0]
 omega
theorem rW (n:Int) (k:Nat):u8 (n / 256 ^ k)=Dv n k:=rfl
theorem kA {k:IntKind} {x y:Int} (e:Nat) (hy:y=(e:Int)) (he:e<=k.bits):Sa k x y=some (x / 2 ^ e):=by
 subst hy
 unfold Sa
 rw [if_neg (by omega),aGn,aHw he,aHq]
 exact Int.pow_nonneg (by omega)
theorem aC7 {x:Int}:Sa .i64 x 8=some (x / 256):=kA (k:=.i64) 8 rfl (by decide)
theorem pV (n:Int) (k:Nat):bF n (k + 1)=bF n k ++ [UInt8.ofNat ((IntKind.u64.wrap n).toNat / 2 ^ (56 - 8 * k) % 256)]:=by
 unfold bF
 rw [List.range_succ,aFw]; rfl
theorem Wo (n:Int) (k:Nat):(bF n k).length=k:=by unfold bF; simp
theorem tU (n:Int) (e:Nat):u8 (IntKind.u64.wrap n / 2 ^ e)=UInt8.ofNat ((IntKind.u64.wrap n).toNat / 2 ^ e % 256):=by
 have h:=Tf n
 obtain⟨m,hm⟩:=Int.eq_ofNat_of_zero_le h.1
 rw [hm,aGn]
 have:(m:Int) / 2 ^ e=((m / 2 ^ e:Nat):Int):=by simp
 rw [this,Y3]
 apply aGa.1
 rw [aG0,aG0]
 omega
theorem jG (x y:UInt8) (r:List UInt8):H9 (x :: y :: r)=if ((x.toNat:Int)=0/\(y.toNat:Int) < 128)\/((x.toNat:Int)=255/\(128:Int)<=(y.toNat:Int)) then H9 (y :: r) else x :: y :: r:=by
 rw [H9]
 have e0:(x=0)↔((x.toNat:Int)=0):=by rw [<- aGa]; simp
 have e1:(x=255)↔((x.toNat:Int)=255):=by rw [<- aGa]; simp; omega
 have e2:(y < 128)↔((y.toNat:Int) < 128):=by rw [UInt8.lt_iff_toNat_lt]; simp; omega
 have e3:(128<=y)↔((128:Int)<=(y.toNat:Int)):=by rw [UInt8.le_iff_toNat_le]; simp; omega
 simp only [e0,e1,e2,e3]
theorem Rx:∀ b:List UInt8,b.length<=8->Dp (fun q'=>C2.l2 q') b=some (.mk 2 (H9 b) false [])
 | [],_=>by rw [Gi]; rfl
 | [x],_=>by rw [Gi]; rfl
 | x :: y :: r,h=>by
  have ih:=Rx (y :: r) (by simp at h ⊢; omega)
  have hl:(1:Int) < ((x :: y :: r).length:Int):=by simp; omega
  have hs:Q8 (x :: y :: r) 1 ((x :: y :: r).length:Int)=some (y :: r):=by
   unfold Q8
   rw [if_pos ⟨by omega,by omega,by omega⟩]
   congr 1
   exact aFd (by simp; omega)
  have hg0:C4 (x :: y :: r) 0=some x:=rfl
  have hg1:C4 (x :: y :: r) 1=some y:=rfl
  have hj:C2.j3 (x :: y :: r) true=some (.next (y :: r)):=by unfold C2.j3; rw [hs]; rfl
  have hk:C2.j3 (x :: y :: r) false=some (.done (.mk 2 (x :: y :: r) false [])):=rfl
  have hb:C2.l2 (x :: y :: r)=some (if ((x.toNat:Int)=0/\(y.toNat:Int) < 128)\/((x.toNat:Int)=255/\(128:Int)<=(y.toNat:Int)) then .next (y :: r) else .done (.mk 2 (x :: y :: r) false [])):=by
   unfold C2.l2
   rw [aBu hl,hg0,hg1]
   simp only [aEu,aAo]
   by_cases a0:(x.toNat:Int)=0
   ·have a1:¬ (x.toNat:Int)=255:=by omega
    by_cases c0:(y.toNat:Int) < 128
    ·rw [aBu a0,aBu c0,if_pos (.inl ⟨a0,c0⟩)]; simp only [aEu,aCc]; exact hj
    ·rw [aBu a0,aBo c0,aBo a1,if_neg (by omega)]; simp only [aEu,aCc]; exact hk
   ·by_cases a1:(x.toNat:Int)=255
    ·rw [aBo a0,aBu a1]
     by_cases c1:(128:Int)<=(y.toNat:Int)
     ·rw [aBu c1,if_pos (.inr ⟨a1,c1⟩)]; simp only [aEu,aCc]; exact hj
     ·rw [aBo c1,if_neg (by omega)]; simp only [aEu,aCc]; exact hk
    ·rw [aBo a0,aBo a1,if_neg (by omega)]; simp only [aEu,aCc]; exact hk
  rw [Gi,jG]
  rw [hb]
  split
  ·exact ih
  ·rfl
theorem tL (n:Int):C2 n=some (J6 n):=by
 unfold C2
 refine Hi 8 (fun k=>((56 - 8 * (k:Int)),bF n k)) (J6 n) ?_ ?_
 ·intro k hk
  show C2.l1 n (56 - 8 * (k:Int)) (bF n k)=_
  unfold C2.l1
  rw [aBu (by omega),kA (56 - 8 * k) (by omega) (by show 56 - 8 * k<=64; omega)]
  simp only [aEu,aAo]
  rw [E2 (by rw [Wo]; simp; omega),Fx (by omega),tU,<- pV]
  simp only [aAo]
  congr 3
  omega
 ·show C2.l1 n (56 - 8 * ((8:Nat):Int)) (bF n 8)=_
  unfold C2.l1
  rw [Rx _ (by rw [Wo]; omega)]
  rfl
theorem Yq (x:Int) (y:UInt8) (r:List UInt8):Bo.l1 x (y :: r)=Bo.j2 x (y :: r) (!((decide (x=0) && decide ((y.toNat:Int) < 128)) || (decide (x=-1) && decide (128<=(y.toNat:Int))))):=by
 have D:C4 (y :: r) 0=some y:=rfl
 unfold Bo.l1
 by_cases h0:x=0
 ·have h1:¬ x=-1:=by omega
  by_cases c:(y.toNat:Int) < 128
  ·have c':¬ (128:Int)<=(y.toNat:Int):=by omega
   simp [h0,D,c,c']
  ·have c':(128:Int)<=(y.toNat:Int):=by omega
   simp [h0,D,c,c']
 ·by_cases h1:x=-1
  ·by_cases c:(y.toNat:Int) < 128
   ·have c':¬ (128:Int)<=(y.toNat:Int):=by omega
    simp [h1,D,c,c']
   ·have c':(128:Int)<=(y.toNat:Int):=by omega
    simp [h1,D,c,c']
  ·simp [h0,h1]
theorem bC (n:Int) (h1:-9223372036854775808<=n) (h2:n<=9223372036854775807):∀ d k,k + d=7->(∀ j,1<=j->j<=k->F4 n j=false)->Dp (fun q'=>Bo.l1 q'.1 q'.2) (n / 256 ^ (k + 1),(bF n 8).drop (7 - k))=some (J6 n):=by
 intro d
 induction d with
 | zero=>
  intro k hk hn
  obtain rfl:k=7:=by omega
  have hf:=(fU n h1 h2 7 (by omega)).1 rfl
  rw [Gi]
  dsimp only
  rw [Qy n 7 (by omega),Yq]
  have hs:=dY n 7 (by omega) hn rfl
  have hc:((decide (n / 256 ^ (7 + 1)=0) && decide (((Dv n 7).toNat:Int) < 128)) || (decide (n / 256 ^ (7 + 1)=-1) && decide (128<=((Dv n 7).toNat:Int))))=true:=by simpa using hf
  rw [hc]
  show some (Aa.mk 2 (Dv n 7 :: (bF n 8).drop (8 - 7)) false [])=some (J6 n)
  unfold J6
  rw [kS n h1 h2,hs,<- Qy n 7 (by omega)]
 | succ d ih=>
  intro k hk hn
  have FI:=fU n h1 h2 k (by omega)
  rw [Gi]
  dsimp only
  rw [Qy n k (by omega),Yq]
  cases hf:F4 n (k + 1) with
  | true=>
   have hs:=dY n k (by omega) hn hf
   have hc:((decide (n / 256 ^ (k + 1)=0) && decide (((Dv n k).toNat:Int) < 128)) || (decide (n / 256 ^ (k + 1)=-1) && decide (128<=((Dv n k).toNat:Int))))=true:=by simpa using FI.1 hf
   rw [hc]
   show some (Aa.mk 2 (Dv n k :: (bF n 8).drop (8 - k)) false [])=some (J6 n)
   unfold J6
   rw [kS n h1 h2,hs,<- Qy n k (by omega),show 8 - (k + 1)=7 - k by omega]
  | false=>
   have hc:((decide (n / 256 ^ (k + 1)=0) && decide (((Dv n k).toNat:Int) < 128)) || (decide (n / 256 ^ (k + 1)=-1) && decide (128<=((Dv n k).toNat:Int))))=false:=by
    cases hq:((decide (n / 256 ^ (k + 1)=0) && decide (((Dv n k).toNat:Int) < 128)) || (decide (n / 256 ^ (k + 1)=-1) && decide (128<=((Dv n k).toNat:Int)))) with
    | false=>rfl
    | true=>
     have:=FI.2 (by simpa using hq)
     rw [hf] at this; cases this
   rw [hc]
   have e:=ih (k + 1) (by omega) fun j a b=>by
    rcases aF4 k j with h | h
    ·obtain rfl:j=k + 1:=by omega
     exact hf
    ·exact hn j a h
   rw [Qy n (k + 1) (by omega),show 8 - (k + 1)=7 - k by omega,<- pR] at e
   unfold Bo.j2
   rw [aFt,aEu,E2 (by simp [Wo]; omega),aC7,<- Qy n k (by omega)]
   exact e
theorem Fh (n:Int) (h1:-9223372036854775808<=n) (h2:n<=9223372036854775807):Bo n=some (J6 n):=by
 unfold Bo
 rw [aC7]
 have:=bC n h1 h2 7 0 (by omega) (fun j a b=>by omega)
 rw [show (bF n 8).drop (7 - 0)=[Dv n 0] by rw [be8]; rfl] at this
 rw [aAo,show u8 n=Dv n 0 by rw [<- rW]; simp]
 exact this
theorem Iq (n:Int):(J6 n).sz<=9:=by
 unfold J6
 rw [In]
 have h:=fN (bF n 8)
 rw [Wo] at h
 show (U2 n).length + G4 [] + 1<=9
 unfold U2
 rw [G4]; omega
end
section
open Go
mutual
theorem iZ:∀ v:Aa,v.sz < 67108864->v.put.length<=8 * v.sz
 | .mk t b n es,h=>by
  rw [Aa.sz] at h ⊢
  have h1:=U8 es (by omega)
  rw [Aa.put]
  cases n
  ·have h2:=cU (n:=b.length) (by omega)
   simp; omega
  ·have h2:=cU (n:=(E8 es).length) (by omega)
   simp; omega
theorem U8:∀ es:List Aa,G4 es < 67108864->(E8 es).length<=8 * G4 es
 | [],_=>by simp [E8]
 | v :: vs,h=>by
  rw [G4] at h ⊢
  have h1:=iZ v (by omega)
  have h2:=U8 vs (by omega)
  rw [E8,aDw]; omega
end
theorem qJ (n k:Nat) (hk:0 < k):R4 (n:Int) (k:Int)=some ((n % k:Nat):Int):=by
 unfold R4
 rw [if_neg (by omega),Int.tmod_eq_emod_of_nonneg (by omega)]; rfl
theorem oZ (n k:Nat) (hk:0 < k) (hn:n < 4611686018427387904):Sd (n:Int) (k:Int)=some ((n / k:Nat):Int):=by
 unfold Sd
 have:n / k<=n:=Nat.div_le_self n k
 rw [if_neg (by omega),Int.tdiv_eq_ediv_of_nonneg (by omega),show ((n:Int) / (k:Int))=((n / k:Nat):Int) from rfl,aDo (by omega)]
theorem bM (n:Nat):∀ (b:List UInt8),n < 281474976710656->pN n + b.length<=1000->Dp (fun q'=>D9.l1 q'.1 q'.2) ((n:Int),b)=some (UInt8.ofNat (128 + (be n ++ b).length) :: (be n ++ b)):=by
 induction n using Nat.strongRecOn with
 | _ n ih=>
  intro b hn hb
  rcases aFa n with h0 | h0
  ·subst h0
   refine U4 ?_
   show D9.l1 ((0:Nat):Int) b=_
   unfold D9.l1
   rw [aBo (by omega),aCc,Fx (by omega),E2 (by simp; omega),show (128:Int) + (b.length:Int)=((128 + b.length:Nat):Int) by omega,Y3,wC]
   rfl
  ·have hc:=lE h0
   have e:=ih (n / 256) (Nat.div_lt_self h0 (by omega)) ([UInt8.ofNat (n % 256)] ++ b) (aGr (Nat.div_le_self n 256) hn) (by simp; omega)
   refine (Hy (s':=(((n / 256:Nat):Int),[UInt8.ofNat (n % 256)] ++ b)) ?_).trans (e.trans ?_)
   ·show D9.l1 (n:Int) b=_
    unfold D9.l1
    rw [aBu (by omega),aEu,show (256:Int)=((256:Nat):Int) from rfl,qJ n 256 (by omega),aAo,E2 (by simp; omega),aAo,oZ n 256 (by omega) (by omega),aAo,Y3]
   ·rw [Yd h0]
    simp
theorem cC {n:Nat} (hn:n < 281474976710656):D9 (n:Int)=some (Rk n):=by
 unfold D9 Rk
 by_cases h:n < 128
 ·rw [aBu (by omega),if_pos h,Y3]; rfl
 ·rw [aBo (by omega),if_neg h,aCc]
  have hc:=oJ 6 n (by simpa using hn)
  refine (bM n [] hn (by simp; omega)).trans ?_
  rw [aG9]; rfl
end
section
open Go
theorem fI (v:Aa):v.put=UInt8.ofNat (v.Tag.toNat % 256) :: (Rk v.body.length ++ v.body):=by cases v; exact bB _ _ _ _
theorem uP (v:Aa):v.body=if v.Nested then E8 v.Elements else v.Bytes:=by cases v; rfl
theorem tR (v:Aa) (h:v.sz < 67108864):v.body.length<=8 * v.sz:=by
 have h1:=iZ v h
 rw [fI] at h1
 simp at h1
 omega
theorem jR {v:Aa} (h:v.formed=true):u8 v.Tag=UInt8.ofNat (v.Tag.toNat % 256):=by
 rw [Oi] at h
 simp only [aCe] at h
 obtain⟨m,hm⟩:=Xe (La h.1.1.1.1).1 (La h.1.1.1.1).2
 rw [hm,Y3,aGn,aFc m.2]
theorem jA {v:Aa} (h:v.formed=true):v.Bytes ++ E8 v.Elements=v.body:=by
 rw [Oi] at h
 simp only [aCe] at h
 obtain⟨⟨⟨-,h1⟩,h2⟩,-⟩:=h
 rw [uP]
 cases hn:v.Nested with
 | true=>
  rw [hn] at h1
  have:v.Bytes=[]:=aDu (by simp at h1; simpa using h1)
  rw [this]; rfl
 | false=>
  rw [hn] at h2
  have:v.Elements=[]:=aDu (by simp at h2; simpa using h2)
  rw [this]; simp [E8]
theorem iY {v e:Aa} (h:v.formed=true) (he:e∈v.Elements):e.formed=true:=by
 rw [Oi] at h
 simp only [aCe] at h
 have:=h.2
 rw [O3,aEb] at this
 exact this e he
def Fit (v:Aa):Prop:=v.formed=true/\v.sz < 67108864
theorem Fit.elem {v e:Aa} (h:Fit v) (he:e∈v.Elements):Fit e:=⟨iY h.1 he,Nat.lt_trans (Oj he) h.2⟩
theorem V9 {v:Aa} (h:Fit v) (i:Nat):(E8 (v.Elements.take i)).length<=536870912:=by
 have h1:=Xm (es:=v.Elements) i
 have h0:=In v
 have h2:=h.2
 have h3:=U8 v.Elements (by omega)
 omega
theorem nR (v:Aa) (h:Fit v):Dj v=some v.put:=
 Le X5 Aa.put Aa.sz Fit (fun rec v hv hr=>by
  show Dj.F rec v=some v.put
  unfold Dj.F
  have hn:=Gj v.Elements
  have h0:=In v
  have hz:=hv.2
  rw [E2 (by simp; omega),aH1,aAo]
  refine Eq.trans (congrArg (Dp _) ?_) (Hi v.Elements.length (fun i=>((i:Int),v.Bytes ++ E8 (v.Elements.take i))) v.put ?_ ?_)
  ·simp [E8]
  ·intro i hi
   obtain⟨e,he⟩:∃ e,v.Elements[i]?=some e:=⟨_,aA1 hi⟩
   have h1:=Oj (F5 he)
   have h2:=V9 hv i
   have h3:=iZ e (by omega)
   show Dj.l1 rec v (i:Int) (v.Bytes ++ E8 (v.Elements.take i))=_
   unfold Dj.l1
   rw [Fm he,hr e (hv.elem (F5 he)) h1,aAo,E2 (by simp; omega),F3 (by omega),Uy he,aFv]
   rfl
  ·show Dj.l1 rec v (v.Elements.length:Int) (v.Bytes ++ E8 (v.Elements.take v.Elements.length))=_
   have h4:=tR v hz
   have h5:=cU (n:=v.body.length) (by omega)
   unfold Dj.l1
   rw [D7,aFg,jA hv.1,cC (by omega),aAo,E2 (by simp; omega),aAo,E2 (by simp; omega),aAo,jR hv.1,fI]
   simp [up]) v h
def nN (v:Aa):List UInt8×Int:=if v.formed then (if 16 < v.depth then ([],3) else if 4096 < v.put.length then ([],3) else (v.put,0)) else ([],1)
theorem Pk (v:Aa) (h:v.sz < 67108864):Gq v=some (nN v):=by
 unfold Gq nN
 rw [Sq v (by omega),aAo]
 cases hf:v.formed with
 | false=>rfl
 | true=>
  rw [aEv,aCc,if_pos rfl,Vx v (by omega),aAo]
  by_cases hd:16 < v.depth
  ·rw [aBu (by omega),if_pos hd]; rfl
  ·rw [aBo (by omega),if_neg hd,aCc,nR v ⟨hf,h⟩,aAo]
   by_cases hl:4096 < v.put.length
   ·rw [aBu (by omega),if_pos hl]; rfl
   ·rw [aBo (by omega),if_neg hl]; rfl
end
section
open Go
theorem aAv (x:Int):fF .i64 x 8=some (IntKind.i64.wrap (x * 256)):=rfl
theorem lC (a y:Nat) (h:a % 256=0) (hy:y < 256):a ||| y=a + y:=by
 obtain⟨q,rfl⟩:∃ q,a=256 * q:=⟨a / 256,by omega⟩
 have:=Nat.shiftLeft_add_eq_or_of_lt (i:=8) (b:=y) (by simpa using hy) q
 rw [Nat.shiftLeft_eq] at this
 rw [aGj 256 q]
 simpa using this.symm
theorem Va (a:Nat) (y:UInt8) (h:a < 65536):Zk .i64 (IntKind.i64.wrap ((a:Int) * 256)) (y.toNat:Int)=((a * 256 + y.toNat:Nat):Int):=by
 have hy:=y.toNat_lt
 have e:IntKind.i64.wrap ((a:Int) * 256)=((a * 256:Nat):Int):=by rw [IntKind.wrap_i64]; omega
 unfold Zk
 rw [e]
 have b1:(BitVec.ofInt IntKind.i64.bits ((a * 256:Nat):Int)).toNat=a * 256:=by
  rw [aHr,BitVec.toNat_ofNat]
  exact aFc (show a * 256 < 2 ^ 64 by omega)
 have b2:(BitVec.ofInt IntKind.i64.bits (y.toNat:Int)).toNat=y.toNat:=by
  rw [aHr,BitVec.toNat_ofNat]
  exact aFc (show y.toNat < 2 ^ 64 by omega)
 rw [BitVec.toNat_or,b1,b2,lC _ _ (by omega) hy,IntKind.wrap_i64]
 omega
section
variable {x y z:UInt8} {r:List UInt8}
theorem wF (h:x.toNat < 128):H1 (x :: r)=some (x.toNat,1):=by simp [H1,h]
theorem Xr (h:x.toNat=128\/130 < x.toNat):H1 (x :: r)=none:=by
 unfold H1
 dsimp only
 rw [if_neg (by omega),if_neg (by omega),if_neg (by omega)]
theorem wS (h:x.toNat=129):H1 [x]=none:=by simp [H1,h]
theorem uR (h:x.toNat=129):H1 (x :: y :: r)=if y.toNat < 128 then none else some (y.toNat,2):=by simp [H1,h]
theorem wK (h:x.toNat=130):H1 [x]=none:=by simp [H1,h]
theorem oR (h:x.toNat=130):H1 [x,y]=none:=by simp [H1,h]
theorem xP (h:x.toNat=130):H1 (x :: y :: z :: r)=if y.toNat=0 then none else some (y.toNat * 256 + z.toNat,3):=by simp [H1,h]
theorem lo1 {α:Type} (a:α):Lo [a]:=by unfold Lo; simp
theorem lo2 {α:Type} (a b:α):Lo [a,b]:=by unfold Lo; simp
end
def rR (b:List UInt8) (y:Int×Int×Bool):Prop:=match H1 b with
 | some (n,c)=>y=((n:Int),(c:Int),true)
 | none=>y.2.2=false
theorem pQ (b:List UInt8) (hb:b.length < 1073741824):Ok (C0 b) (rR b):=by
 unfold C0 rR
 cases b with
 | nil=>exact Ok.ret rfl
 | cons x r=>
  have hx:=x.toNat_lt
  rw [aEw] at hb
  rw [aBo (by rw [aEw]; omega),aCc,Pm]
  refine Ok.bindE (a:=x) rfl ?_
  rw [Fx (by omega)]
  have J:∀ {Q:Int×Int×Bool->Prop},Q (0,0,false)->Ok (C0.j1 (x :: r) x true) Q:=fun h=>Ok.ret h
  by_cases h1:x.toNat < 128
  ·rw [aBu (by omega)]
   refine Ok.ret ?_
   rw [wF h1]
   rfl
  rw [aBo (by omega),aCc]
  by_cases h2:x.toNat=128
  ·rw [aBu (by omega)]
   refine J ?_
   rw [Xr (.inl h2)]
  rw [aBo (by omega),aCc]
  by_cases h3:130 < x.toNat
  ·rw [aBu (by omega)]
   refine J ?_
   rw [Xr (.inr h3)]
  rw [aBo (by omega),aCc]
  by_cases h4:x.toNat=129
  ·cases r with
   | nil=>
    rw [aBu (by simp; omega)]
    refine J ?_
    rw [wS h4]
   | cons y r=>
    have hy:=y.toNat_lt
    rw [aBo (by simp; omega),aCc]
    refine Ok.bindE (a:=y) rfl ?_
    have e0:H1 (x :: y :: r)=if y.toNat < 128 then none else some (y.toNat,2):=uR h4
    rw [e0]
    by_cases h5:y.toNat=0
    ·rw [aBu (by omega),if_pos (by omega)]
     exact J rfl
    rw [aBo (by omega)]
    unfold C0.j1
    rw [aCc,Fx (x:=(x.toNat:Int) - 128) (by omega),Fx (by omega)]
    refine Ok.bindE (a:=[y]) ?_ ?_
    ·unfold Q8
     rw [if_pos (by simp only [aEw]; omega),h4]
     rfl
    ·refine Ok.of (Q4 (body:=fun q'=>C0.l2 x [y] q'.1 q'.2) [y] (fun s e=>Zk .i64 (IntKind.i64.wrap (s * 256)) (e.toNat:Int)) 0 (fun n=>(n,W (1 + (W ((x.toNat:Int) - 128))),decide (128<=n))) (lo1 _) (fun i e s he=>?_) (fun s=>?_)) ?_
     ·show C0.l2 x [y] s (i:Int)=_
      unfold C0.l2
      rw [Fm he,aAv,aAo]
     ·show C0.l2 x [y] s ([y].length:Int)=_
      unfold C0.l2
      rw [D7]; rfl
     ·have e:=Va 0 y (by omega)
      rw [aHa,aE6] at e
      have e':List.foldl (fun (s:Int) (e:UInt8)=>Zk .i64 (IntKind.i64.wrap (s * 256)) (e.toNat:Int)) 0 [y]=(y.toNat:Int):=e
      rw [e',Fx (x:=(x.toNat:Int) - 128) (by omega),Fx (x:=1 + ((x.toNat:Int) - 128)) (by omega)]
      by_cases h6:y.toNat < 128
      ·rw [if_pos h6]
       show decide _=false
       rw [aBo (by omega)]
      ·rw [if_neg h6]
       show (_,_,_)=(_,_,_)
       rw [aBu (by omega),h4]
       simp
  ·have h4':x.toNat=130:=by omega
   match r with
   | []=>
    rw [aBu (by simp; omega)]
    refine J ?_
    rw [wK h4']
   | [y]=>
    rw [aBu (by simp; omega)]
    refine J ?_
    rw [oR h4']
   | y :: z :: r=>
    have hy:=y.toNat_lt
    have hz:=z.toNat_lt
    rw [aBo (by simp; omega),aCc]
    refine Ok.bindE (a:=y) rfl ?_
    have e0:H1 (x :: y :: z :: r)=if y.toNat=0 then none else some (y.toNat * 256 + z.toNat,3):=xP h4'
    rw [e0]
    by_cases h5:y.toNat=0
    ·rw [aBu (by omega),if_pos h5]
     exact J rfl
    rw [aBo (by omega),if_neg h5]
    unfold C0.j1
    rw [aCc,Fx (x:=(x.toNat:Int) - 128) (by omega),Fx (by omega)]
    refine Ok.bindE (a:=[y,z]) ?_ ?_
    ·unfold Q8
     rw [if_pos (by simp only [aEw]; omega),h4']
     rfl
    ·refine Ok.of (Q4 (body:=fun q'=>C0.l2 x [y,z] q'.1 q'.2) [y,z] (fun s e=>Zk .i64 (IntKind.i64.wrap (s * 256)) (e.toNat:Int)) 0 (fun n=>(n,W (1 + (W ((x.toNat:Int) - 128))),decide (128<=n))) (lo2 _ _) (fun i e s he=>?_) (fun s=>?_)) ?_
     ·show C0.l2 x [y,z] s (i:Int)=_
      unfold C0.l2
      rw [Fm he,aAv,aAo]
     ·show C0.l2 x [y,z] s ([y,z].length:Int)=_
      unfold C0.l2
      rw [D7]; rfl
     ·have e:=Va 0 y (by omega)
      have e2:=Va y.toNat z (by omega)
      rw [aHa,aE6] at e
      have e':List.foldl (fun (s:Int) (e:UInt8)=>Zk .i64 (IntKind.i64.wrap (s * 256)) (e.toNat:Int)) 0 [y,z]=((y.toNat * 256 + z.toNat:Nat):Int):=by
       rw [<- e2,<- e]; rfl
      rw [e',Fx (x:=(x.toNat:Int) - 128) (by omega),Fx (x:=1 + ((x.toNat:Int) - 128)) (by omega)]
      show (_,_,_)=(_,_,_)
      rw [aBu (by omega),h4']
      simp
def Nx (b:List UInt8) (y:Aa×Int×Bool):Prop:=match Gs b with
 | some (v,m)=>y=(v,(m:Int),true)
 | none=>y.2.2=false
def Tj (b:List UInt8) (y:List Aa×Bool):Prop:=match E7 b with
 | some l=>y=(l,true)
 | none=>y.2=false
theorem Z2 {l:List UInt8} {k:Nat} {es0:List Aa} (h:E7 l=(E7 (l.drop k)).map (es0 ++ ·)) (hk:k < l.length) {d:Aa} {m:Nat} (hd:Gs (l.drop k)=some (d,m)):E7 l=(E7 (l.drop (k + m))).map ((es0 ++ [d]) ++ ·):=by
 rw [h,Mh (l:=l.drop k) (fun e=>by have:=aF9.1 e; omega),hd]
 dsimp only
 rw [aHe]
 cases E7 (l.drop (k + m)) <;> simp
theorem Vp {l:List UInt8} {k:Nat} {es0:List Aa} (h:E7 l=(E7 (l.drop k)).map (es0 ++ ·)) (hk:k < l.length) (hd:Gs (l.drop k)=none):E7 l=none:=by
 rw [h,Mh (l:=l.drop k) (fun e=>by have:=aF9.1 e; omega),hd]; rfl
theorem Vt {l:List UInt8} {es0:List Aa} (h:E7 l=(E7 (l.drop l.length)).map (es0 ++ ·)):E7 l=some es0:=by
 rw [h,aHc,Lk]; simp
theorem jD {α:Type} {l:List α} {k:Nat} (h:k<=l.length):Q8 l (k:Int) (l.length:Int)=some (l.drop k):=by
 unfold Q8
 rw [if_pos (by omega)]
 simp only [aGn]
 rw [<- aD1,aFg]
theorem hG (rec:List UInt8->Option (Aa×Int×Bool)) (b:List UInt8) (hb:b.length < 1073741824) (hr:∀ c,c.length<=b.length->Ok (rec c) (Nx c)):Ok (F0 rec b) (Tj b):=by
 unfold F0
 refine Ok.loop (fun s=>∃ k:Nat,s.1=(k:Int)/\k<=b.length/\s.2.length<=k/\E7 b=(E7 (b.drop k)).map (s.2 ++ ·)) (fun s=>b.length - s.1.toNat) (fun s hs=>?_) ⟨0,rfl,aFb _,aFf _,by rw [aH6]; simp⟩
 obtain⟨at_,out⟩:=s
 obtain⟨k,rfl,hk,ho,hd⟩:=hs
 dsimp only at hd ho
 show Ok (F0.l1 rec b (k:Int) out) _
 unfold F0.l1
 refine Ok.cond (fun hc=>?_) fun hc=>?_
 ·have hc:=aE4 hc
  refine Ok.bindE (jD hk) ?_
  refine Ok.bind (hr (b.drop k) (by rw [aD1]; omega)) fun y hy=>?_
  unfold Nx at hy
  cases hn:Gs (b.drop k) with
  | none=>
   rw [hn] at hy
   dsimp only at hy
   rw [hy,aFt,aEu]
   refine Ok.up (Ok.ret ?_)
   unfold Tj
   rw [Vp hd (by omega) hn]
  | some p=>
   obtain⟨v,m⟩:=p
   rw [hn] at hy
   dsimp only at hy
   subst hy
   have hm:=Ud hn
   rw [aD1] at hm
   rw [aEv,aCc]
   refine Ok.bindE (E2 (by rw [aEd]; omega)) ?_
   rw [Fx (by dsimp only; omega)]
   refine Ok.ret ⟨⟨k + m,by dsimp only; omega,by omega,by rw [aDw,aEd]; omega,Z2 hd (by omega) hn⟩,?_⟩
   dsimp only
   omega
 ·have hc:=aFs hc
  have:k=b.length:=by omega
  subst this
  refine Ok.up (Ok.ret ?_)
  unfold Tj
  rw [Vt hd]
theorem Kz (x:UInt8) (r:List UInt8):Zf (x :: r)=if Pu x.toNat=false then none else match H1 r with
  | none=>none
  | some (n,c)=>if r.length - c < n then none else some (x.toNat,1 + c,n):=rfl
theorem yF (x:UInt8) (h:Pu x.toNat=true):(!decide (Xh .i64 (x.toNat:Int) 32=0))=N0 x.toNat:=by
 have h1:=lT h
 exact aD ⟨x.toNat,x.toNat_lt⟩
theorem gN (rec:List UInt8->Option (Aa×Int×Bool)) (b:List UInt8) (hb:b.length < 1073741824) (hr:∀ c,c.length < b.length->Ok (rec c) (Nx c)):Ok (Ci.F rec b) (Nx b):=by
 unfold Ci.F
 have J1:Gs b=none->Ok (Ci.j1 rec b true) (Nx b):=fun h=>Ok.ret (by unfold Nx; rw [h])
 have J2:∀ y,Gs b=none->Ok (Ci.j2 rec b y true) (Nx b):=fun y h=>Ok.ret (by unfold Nx; rw [h])
 cases b with
 | nil=>exact J1 rfl
 | cons x r=>
  have hx:=x.toNat_lt
  rw [aEw] at hb
  rw [aBo (by rw [aEw]; omega),aCc,Pm]
  refine Ok.bindE (a:=x) rfl (Ok.bindE (kK _) ?_)
  cases ht:Pu x.toNat with
  | false=>exact J1 (Ks (by rw [Kz,if_pos ht]))
  | true=>
   unfold Ci.j1
   rw [aEv,aCc]
   refine Ok.bindE (a:=r) (jD (k:=1) (l:=x :: r) (by simp)) ?_
   refine Ok.bind (pQ r (by omega)) fun y hy=>?_
   unfold rR at hy
   cases hs:H1 r with
   | none=>
    rw [hs] at hy
    dsimp only at hy
    rw [hy]
    exact J2 y (Ks (by rw [Kz,hs]; simp))
   | some p=>
    obtain⟨n,c⟩:=p
    rw [hs] at hy
    dsimp only at hy
    subst hy
    have hl:=fH hs
    dsimp only
    rw [aEv,aCc,aEw,Fx (x:=1 + (c:Int)) (by omega),Fx (by omega)]
    by_cases hlong:r.length - c < n
    ·rw [aBu (by omega)]
     exact J2 _ (Ks (by rw [Kz,hs]; simp [hlong]))
    ·rw [aBo (by omega)]
     have hh:Zf (x :: r)=some (x.toNat,1 + c,n):=by rw [Kz,hs]; simp [ht,hlong]
     unfold Ci.j2
     rw [aCc,Pm]
     refine Ok.bindE (a:=x) rfl ?_
     rw [yF x ht]
     dsimp only
     rw [Fx (x:=1 + (c:Int)) (by omega),Fx (by omega)]
     have hsl:Q8 (x :: r) (1 + (c:Int)) (1 + (c:Int) + (n:Int))=some (((x :: r).drop (1 + c)).take n):=by
      unfold Q8
      rw [if_pos (by rw [aEw]; omega)]
      congr 2 <;> omega
     have hone:=Pi hh
     have hlen:(((x :: r).drop (1 + c)).take n).length=n:=by rw [aDy,aD1,aEw]; omega
     cases hnst:N0 x.toNat with
     | true=>
      rw [aEu]
      refine Ok.bindE hsl ?_
      refine Ok.bind (hG rec _ (by omega) fun d hd=>hr d (by rw [aEw]; omega)) fun y3 h3=>?_
      refine Ok.ret ?_
      unfold Tj at h3
      unfold Nx
      rw [hone,hnst,if_pos rfl]
      cases hd:E7 (((x :: r).drop (1 + c)).take n) with
      | none=>rw [hd] at h3; exact h3
      | some es=>
       rw [hd] at h3
       dsimp only at h3
       subst h3
       show (_,_,_)=(_,_,_)
       simp
     | false=>
      rw [aCc]
      refine Ok.bindE hsl (Ok.bindE (Vo (by omega)) (Ok.ret ?_))
      unfold Nx
      rw [hone,hnst,if_neg (by simp)]
      show (_,_,_)=(_,_,_)
      simp
theorem qQ (b:List UInt8) (hb:b.length < 1073741824):Ok (Ci b) (Nx b):=
 kM Zl List.length (fun b=>b.length < 1073741824) Nx (fun rec a ha hr=>gN rec a ha fun c hc=>hr c (by omega) hc) b hb
def W5 (b:List UInt8) (k:Nat) (y:Int×Int×Int×Bool):Prop:=match Zf (b.drop k) with
 | some (t,o,n)=>y=((t:Int),((k + o:Nat):Int),((k + o + n:Nat):Int),true)
 | none=>y.2.2.2=false
theorem hZ (b:List UInt8) (k:Nat) (hb:b.length<=4096) (hk:k<=b.length):Ok (Bh b (k:Int)) (W5 b k):=by
 unfold Bh
 have J1:Zf (b.drop k)=none->Ok (Bh.j1 b (k:Int) true) (W5 b k):=fun h=>Ok.ret (by unfold W5; rw [h])
 have J2:∀ e,Zf (b.drop k)=none->Ok (Bh.j2 b (k:Int) e true) (W5 b k):=fun e h=>Ok.ret (by unfold W5; rw [h])
 rw [Fx (by omega)]
 refine Ok.cond (fun hq=>?_) fun hq=>?_
 ·have h2:=aE4 hq
  refine J1 ?_
  match hd:b.drop k with
  | []=>rfl
  | [x]=>rw [Kz]; simp [H1]
  | x :: y :: r=>
   have:=congrArg List.length hd
   rw [aD1] at this
   simp at this
   omega
 have h2:=aFs hq
 obtain⟨x,y,r,hd⟩:∃ x y r,b.drop k=x :: y :: r:=by
  match hd:b.drop k with
  | []=>have:=congrArg List.length hd; rw [aD1] at this; simp at this; omega
  | [x]=>have:=congrArg List.length hd; rw [aD1] at this; simp at this; omega
  | x :: y :: r=>exact⟨x,y,r,rfl⟩
 have hlen:b.length=k + 2 + r.length:=by
  have:=congrArg List.length hd
  rw [aD1] at this
  simp at this
  omega
 have at_:∀ j,b[k + j]?=(x :: y :: r)[j]?:=fun j=>by rw [<- hd,aE8]
 have g0:C4 b (k:Int)=some x:=by rw [Fs]; exact at_ 0
 have g1:C4 b ((k + 1:Nat):Int)=some y:=by rw [Fs]; exact at_ 1
 have gj:∀ j,C4 b ((k + 2 + j:Nat):Int)=r[j]?:=fun j=>by rw [Fs,aHv,at_,aIo 2 j]; rfl
 have hx:=x.toNat_lt
 have hy:=y.toNat_lt
 refine Ok.bindE g0 (Ok.bindE (Z5 _) ?_)
 unfold W5 at *
 rw [hd] at J1 J2 ⊢
 cases ht:Pu x.toNat with
 | false=>exact J1 (by rw [Kz,if_pos ht])
 | true=>
  unfold Bh.j1
  rw [aEv,aCc,Fx (x:=(k:Int) + 1) (by omega)]
  refine Ok.bindE g1 ?_
  rw [Fx (x:=(k:Int) + 2) (by omega)]
  have J4:∀ (n f:Nat),n<=100000000->f<=100000->H1 (y :: r)=some (n,f)->k + 1 + f<=b.length->Ok (Bh.j4 b (k:Int) (n:Int) ((k + 1 + f:Nat):Int)) (fun y_1=>match Zf (x :: y :: r) with
    | some (t,o,n)=>y_1=((t:Int),((k + o:Nat):Int),((k + o + n:Nat):Int),true)
    | none=>y_1.2.2.2=false):=by
   intro n f hn hf hs hle
   unfold Bh.j4
   rw [Fx (x:=(b.length:Int) - ((k + 1 + f:Nat):Int)) (by omega),Fx (by omega)]
   by_cases hl:b.length - (k + 1 + f) < n
   ·rw [aBu (by omega)]
    refine Ok.ret ?_
    rw [Kz,hs]
    dsimp only
    rw [if_neg (by simp [ht]),if_pos (by simp only [aEw]; omega)]
   ·rw [aBo (by omega),aCc]
    refine Ok.bindE g0 (Ok.ret ?_)
    rw [Kz,hs]
    dsimp only
    rw [if_neg (by simp [ht]),if_neg (by simp only [aEw]; omega)]
    dsimp only
    congr 1
    congr 1
    ·omega
    ·congr 1; omega
  by_cases h3:y.toNat < 128
  ·rw [aBo (by omega),aCc]
   have:=J4 y.toNat 1 (by omega) (by omega) (wF h3) (by omega)
   rw [show ((k + 1 + 1:Nat):Int)=(k:Int) + 2 by omega] at this
   exact this
  rw [aBu (by omega),aEu,Fx (x:=(y.toNat:Int) - 128) (by omega)]
  have hno:H1 (y :: r)=none->Zf (x :: y :: r)=none:=fun h=>by rw [Kz,h]; simp
  by_cases h4:y.toNat=128
  ·rw [aBu (by omega)]
   exact J2 y (hno (Xr (.inl h4)))
  rw [aBo (by omega),aCc]
  by_cases h5:131 < y.toNat
  ·rw [aBu (by omega)]
   exact J2 y (hno (Xr (.inr (by omega))))
  rw [aBo (by omega),aCc,Fx (x:=(b.length:Int) - ((k:Int) + 2)) (by omega)]
  by_cases h6:r.length < y.toNat - 128
  ·rw [aBu (by omega)]
   refine J2 y (hno ?_)
   by_cases h7:y.toNat=129
   ·cases r with
    | nil=>exact wS h7
    | cons z r=>simp at h6; omega
   ·by_cases h8:y.toNat=130
    ·match r with
     | []=>exact wK h8
     | [z]=>exact oR h8
     | z :: u :: r=>simp at h6; omega
    ·exact Xr (.inr (by omega))
  rw [aBo (by omega),aCc]
  obtain⟨z,hz⟩:∃ z,r[0]?=some z:=⟨_,aA1 (by omega)⟩
  have hzl:=z.toNat_lt
  have g2:=gj 0
  rw [hz,show ((k + 2 + 0:Nat):Int)=(k:Int) + 2 by omega] at g2
  refine Ok.bindE g2 ?_
  by_cases h7:z.toNat=0
  ·rw [aBu (by omega)]
   refine J2 y (hno ?_)
   cases r with
   | nil=>cases hz
   | cons z' r=>
    injection hz with hz
    subst hz
    by_cases h8:y.toNat=129
    ·rw [uR h8,if_pos (by omega)]
    ·by_cases h9:y.toNat=130
     ·cases r with
      | nil=>exact oR h9
      | cons u r=>rw [xP h9,if_pos h7]
     ·exact Xr (.inr (by omega))
  rw [aBo (by omega)]
  unfold Bh.j2
  rw [aCc]
  have L:Dp (fun q'=>Bh.l3 b (k:Int) y q'.1 q'.2) (0,0)=(cond (decide (((r.take (y.toNat - 128)).foldl (fun (s:Int) (e:UInt8)=>s * 256 + (e.toNat:Int)) 0) < 128)) (some (0,0,0,false)) (Bh.j4 b (k:Int) ((r.take (y.toNat - 128)).foldl (fun (s:Int) (e:UInt8)=>s * 256 + (e.toNat:Int)) 0) ((k:Int) + 2 + ((y.toNat:Int) - 128)))):=by
   have step:∀ (i:Nat) (s:Int),i < y.toNat - 128->0<=s->s < 100000000->Bh.l3 b (k:Int) y s (i:Int)=(r[i]?).bind fun e=>some (.next (s * 256 + (e.toNat:Int),((i + 1:Nat):Int))):=by
    intro i s hi hs0 hs1
    unfold Bh.l3
    rw [Fx (x:=(y.toNat:Int) - 128) (by omega),aBu (by omega),aEu,Fx (x:=(k:Int) + 2) (by omega),Fx (x:=(k:Int) + 2 + (i:Int)) (by omega)]
    have:=gj i
    rw [show ((k + 2 + i:Nat):Int)=(k:Int) + 2 + (i:Int) by omega] at this
    rw [this]
    cases r[i]? with
    | none=>rfl
    | some e=>
     have he:=e.toNat_lt
     rw [aAo,aAo,Fx (x:=s * 256) (by omega),Fx (by omega),F3 (by omega)]
   have fin:∀ (s:Int),Bh.l3 b (k:Int) y s ((y.toNat - 128:Nat):Int)=up (cond (decide (s < 128)) (some (0,0,0,false)) (Bh.j4 b (k:Int) s ((k:Int) + 2 + ((y.toNat:Int) - 128)))):=by
    intro s
    unfold Bh.l3
    rw [Fx (x:=(y.toNat:Int) - 128) (by omega),aBo (by omega),aCc,Fx (x:=(k:Int) + 2) (by omega),Fx (x:=(k:Int) + 2 + ((y.toNat:Int) - 128)) (by omega)]
   have hc:y.toNat - 128=1\/y.toNat - 128=2\/y.toNat - 128=3:=by omega
   rcases hc with hc | hc | hc
   ·obtain⟨a,r',rfl⟩:∃ a r',r=a :: r':=by
     cases r with
     | nil=>cases hz
     | cons a r'=>exact⟨a,r',rfl⟩
    have ha:=a.toNat_lt
    have s0:=step 0 0 (by omega) (by omega) (by omega)
    rw [Hy (s':=((0:Int) * 256 + (a.toNat:Int),((0 + 1:Nat):Int))) s0]
    rw [hc] at fin ⊢
    rw [Ln (fin _)]
    rfl
   ·obtain⟨a,c,r',rfl⟩:∃ a c r',r=a :: c :: r':=by
     match r,h6 with
     | a :: c :: r',_=>exact⟨a,c,r',rfl⟩
     | [a],h6=>simp at h6; omega
     | [],h6=>simp at h6; omega
    have ha:=a.toNat_lt
    have hc':=c.toNat_lt
    have s0:=step 0 0 (by omega) (by omega) (by omega)
    have s1:=step 1 ((0:Int) * 256 + (a.toNat:Int)) (by omega) (by omega) (by omega)
    rw [Hy (s':=((0:Int) * 256 + (a.toNat:Int),((0 + 1:Nat):Int))) s0]
    rw [Hy (s':=(((0:Int) * 256 + (a.toNat:Int)) * 256 + (c.toNat:Int),((1 + 1:Nat):Int))) s1]
    rw [hc] at fin ⊢
    rw [Ln (fin _)]
    rfl
   ·obtain⟨a,c,d,r',rfl⟩:∃ a c d r',r=a :: c :: d :: r':=by
     match r,h6 with
     | a :: c :: d :: r',_=>exact⟨a,c,d,r',rfl⟩
     | [a,c],h6=>simp at h6; omega
     | [a],h6=>simp at h6; omega
     | [],h6=>simp at h6; omega
    have ha:=a.toNat_lt
    have hc':=c.toNat_lt
    have hd':=d.toNat_lt
    have s0:=step 0 0 (by omega) (by omega) (by omega)
    have s1:=step 1 ((0:Int) * 256 + (a.toNat:Int)) (by omega) (by omega) (by omega)
    have s2:=step 2 (((0:Int) * 256 + (a.toNat:Int)) * 256 + (c.toNat:Int)) (by omega) (by omega) (by omega)
    rw [Hy (s':=((0:Int) * 256 + (a.toNat:Int),((0 + 1:Nat):Int))) s0]
    rw [Hy (s':=(((0:Int) * 256 + (a.toNat:Int)) * 256 + (c.toNat:Int),((1 + 1:Nat):Int))) s1]
    rw [Hy (s':=((((0:Int) * 256 + (a.toNat:Int)) * 256 + (c.toNat:Int)) * 256 + (d.toNat:Int),((2 + 1:Nat):Int))) s2]
    rw [hc] at fin ⊢
    rw [Ln (fin _)]
    rfl
  rw [L]
  have hc:y.toNat=129\/y.toNat=130\/y.toNat=131:=by omega
  rcases hc with hc | hc | hc
  ·obtain⟨a,r',rfl⟩:∃ a r',r=a :: r':=by
    cases r with
    | nil=>cases hz
    | cons a r'=>exact⟨a,r',rfl⟩
   injection hz with hz
   subst hz
   have e1:(List.take (y.toNat - 128) (a :: r')).foldl (fun (s:Int) (e:UInt8)=>s * 256 + (e.toNat:Int)) 0=(a.toNat:Int):=by rw [hc]; simp
   rw [e1]
   by_cases h8:a.toNat < 128
   ·rw [aBu (by omega)]
    refine Ok.ret ?_
    rw [hno (by rw [uR hc,if_pos h8])]
   ·rw [aBo (by omega),aCc]
    have:=J4 a.toNat 2 (by omega) (by omega) (by rw [uR hc,if_neg h8]) (by rw [aEw] at hlen; omega)
    rw [show ((k + 1 + 2:Nat):Int)=(k:Int) + 2 + ((y.toNat:Int) - 128) by omega] at this
    exact this
  ·obtain⟨a,c,r',rfl⟩:∃ a c r',r=a :: c :: r':=by
    match r,h6 with
    | a :: c :: r',_=>exact⟨a,c,r',rfl⟩
    | [a],h6=>simp at h6; omega
    | [],h6=>simp at h6; omega
   injection hz with hz
   subst hz
   have hcl:=c.toNat_lt
   have e1:(List.take (y.toNat - 128) (a :: c :: r')).foldl (fun (s:Int) (e:UInt8)=>s * 256 + (e.toNat:Int)) 0=((a.toNat * 256 + c.toNat:Nat):Int):=by rw [hc]; simp
   rw [e1]
   rw [aBo (by omega),aCc]
   have:=J4 (a.toNat * 256 + c.toNat) 3 (by omega) (by omega) (by rw [xP hc,if_neg h7]) (by simp only [aEw] at hlen; omega)
   rw [show ((k + 1 + 3:Nat):Int)=(k:Int) + 2 + ((y.toNat:Int) - 128) by omega] at this
   exact this
  ·obtain⟨a,c,d,r',rfl⟩:∃ a c d r',r=a :: c :: d :: r':=by
    match r,h6 with
    | a :: c :: d :: r',_=>exact⟨a,c,d,r',rfl⟩
    | [a,c],h6=>simp at h6; omega
    | [a],h6=>simp at h6; omega
    | [],h6=>simp at h6; omega
   injection hz with hz
   subst hz
   have hcl:=c.toNat_lt
   have hdl:=d.toNat_lt
   have e1:(List.take (y.toNat - 128) (a :: c :: d :: r')).foldl (fun (s:Int) (e:UInt8)=>s * 256 + (e.toNat:Int)) 0=(((a.toNat * 256 + c.toNat) * 256 + d.toNat:Nat):Int):=by rw [hc]; simp
   rw [e1]
   rw [aBo (by omega),aCc]
   unfold Bh.j4
   simp only [aEw] at hlen
   rw [Fx (x:=(b.length:Int) - _) (by omega),aBu (by omega)]
   refine Ok.ret ?_
   rw [hno (Xr (.inr (by omega)))]
theorem fM (rec:List UInt8->Option (List Aa×Bool)) (b:List UInt8) (hb:b.length<=4096) (hr:∀ c,c.length < b.length->Ok (rec c) (Tj c)):Ok (Ck.F rec b) (Tj b):=by
 unfold Ck.F
 refine Ok.loop (fun s=>∃ k:Nat,s.1=(k:Int)/\k<=b.length/\s.2.length<=k/\E7 b=(E7 (b.drop k)).map (s.2 ++ ·)) (fun s=>b.length - s.1.toNat) (fun s hs=>?_) ⟨0,rfl,aFb _,aFf _,by rw [aH6]; simp⟩
 obtain⟨at_,out⟩:=s
 obtain⟨k,rfl,hk,ho,hd⟩:=hs
 dsimp only at hd ho
 show Ok (Ck.l1 rec b (k:Int) out) _
 unfold Ck.l1
 refine Ok.cond (fun hc=>?_) fun hc=>?_
 ·have hc:=aE4 hc
  refine Ok.bind (hZ b k hb hk) fun y hy=>?_
  unfold W5 at hy
  have F:Gs (b.drop k)=none->Ok (up (some (([]:List Aa),false)):Option (Lp (Int×List Aa) (List Aa×Bool))) (Rd' (fun s'=>(∃ k:Nat,s'.1=(k:Int)/\k<=b.length/\s'.2.length<=k/\E7 b=(E7 (b.drop k)).map (s'.2 ++ ·))/\b.length - s'.1.toNat < b.length - ((k:Int),out).1.toNat) (Tj b)):=by
   intro h
   refine Ok.up (Ok.ret ?_)
   unfold Tj
   rw [Vp hd (by omega) h]
  cases hh:Zf (b.drop k) with
  | none=>
   rw [hh] at hy
   dsimp only at hy
   rw [hy,aFt,aEu]
   exact F (Ks hh)
  | some p=>
   obtain⟨t,o,n⟩:=p
   rw [hh] at hy
   dsimp only at hy
   subst hy
   have hle:=Yk hh
   rw [aD1] at hle
   have hone:=Pi hh
   dsimp only
   rw [aEv,aCc]
   have hq:=Zy ⟨t,by omega⟩
   dsimp only at hq
   obtain⟨q,hq1,hq⟩:=Ae hq
   obtain⟨q2,hq2,hq⟩:=Ae hq
   injection hq with hq
   refine Ok.bindE hq1 (Ok.bindE hq2 ?_)
   have hsl:Q8 b ((k + o:Nat):Int) ((k + o + n:Nat):Int)=some (((b.drop k).drop o).take n):=by
    unfold Q8
    rw [if_pos (by omega),aHe]
    congr 2 <;> omega
   have hlen:(((b.drop k).drop o).take n).length=n:=by rw [aDy,aD1,aD1]; omega
   have N:∀ (v:Aa),Gs (b.drop k)=some (v,o + n)->Ok ((Gl 256 out [v]).bind fun l_4=>some (Lp.next (((k + o + n:Nat):Int),l_4)):Option (Lp (Int×List Aa) (List Aa×Bool))) (Rd' (fun s'=>(∃ k:Nat,s'.1=(k:Int)/\k<=b.length/\s'.2.length<=k/\E7 b=(E7 (b.drop k)).map (s'.2 ++ ·))/\b.length - s'.1.toNat < b.length - ((k:Int),out).1.toNat) (Tj b)):=by
    intro v hv
    refine Ok.bindE (E2 (by rw [aEd]; omega)) ?_
    refine Ok.ret ⟨⟨k + (o + n),by dsimp only; omega,by omega,by rw [aDw,aEd]; omega,Z2 hd (by omega) hv⟩,?_⟩
    dsimp only
    omega
   cases hn:N0 t with
   | true=>
    rw [hn] at hq hone
    rw [hq,aEu]
    rw [if_pos rfl] at hone
    refine Ok.bindE hsl ?_
    refine Ok.bind (hr _ (by omega)) fun y2 h2=>?_
    unfold Tj at h2
    cases ha:E7 (((b.drop k).drop o).take n) with
    | none=>
     rw [ha] at h2 hone
     dsimp only at h2
     rw [h2,aFt,aEu]
     exact F hone
    | some es=>
     rw [ha] at h2 hone
     dsimp only at h2
     subst h2
     rw [aEv,aCc]
     unfold Ck.j2
     dsimp only
     rw [hq]
     exact N _ hone
   | false=>
    rw [hn] at hq hone
    rw [hq,aCc]
    rw [if_neg (by simp)] at hone
    refine Ok.bindE hsl ?_
    refine Ok.bindE (E2 (by rw [aIn]; omega)) ?_
    unfold Ck.j2
    dsimp only
    rw [hq]
    exact N _ hone
 ·have hc:=aFs hc
  have:k=b.length:=by omega
  subst this
  refine Ok.up (Ok.ret ?_)
  unfold Tj
  rw [Vt hd]
theorem nU (b:List UInt8) (hb:b.length<=4096):Ok (Ck b) (Tj b):=
 kM Y0 List.length (fun b=>b.length<=4096) Tj (fun rec a ha hr=>fM rec a ha fun c hc=>hr c (by omega) hc) b hb
theorem Q9:∀ v:Aa,v.formed=true->v.sz<=v.put.length
 | .mk t b n es,h=>by
  rw [Aa.formed] at h
  simp only [aCe] at h
  have he:=formedAll_sz es h.2
  rw [bB,Aa.sz]
  simp only [aEw,aDw,Aa.body]
  cases n with
  | true=>
   have h1:b.length=0:=by
    have:=h.1.1.2
    simp at this
    rw [this]; rfl
   simp only [if_true]
   omega
  | false=>
   have h1:es=[]:=by
    have:=h.1.2
    simpa using this
   subst h1
   simp [G4]
 where formedAll_sz:∀ es:List Aa,Fz es=true->G4 es<=(E8 es).length
  | [],_=>aFf _
  | v :: es,h=>by
   rw [Fz,aCe] at h
   have h1:=Q9 v h.1
   have h2:=formedAll_sz es h.2
   rw [G4,E8,aDw]; omega
def Ko:Aa:=.mk 0 [] false []
def Ke (b:List UInt8):Aa×Int:=if 4096 < b.length then (Ko,3) else match Gs b with
 | some (v,m)=>if m=b.length then (if 16 < v.depth then (Ko,3) else (v,0)) else (Ko,1)
 | none=>(Ko,1)
theorem vK {b:List UInt8} (h:(Ke b).2=0):b.length<=4096/\(Ke b).1.put=b/\(Ke b).1.formed=true/\(Ke b).1.depth<=16:=by
 unfold Ke at *
 split at h
 ·cases h
 ·rename_i h1
  rw [if_neg h1]
  cases hd:Gs b with
  | none=>rw [hd] at h; cases h
  | some p=>
   obtain⟨v,m⟩:=p
   rw [hd] at h
   dsimp only at h ⊢
   split at h
   ·rename_i h2
    split at h
    ·cases h
    ·rename_i h3
     rw [if_pos h2,if_neg h3]
     have:=P9 hd h2
     exact⟨by omega,this.1,this.2,by dsimp only; omega⟩
   ·cases h
theorem aW {b:List UInt8} (h:(Ke b).2=0):(Ke b).1.sz<=4096:=by
 obtain⟨h1,h2,h3,-⟩:=vK h
 have:=Q9 _ h3
 rw [h2] at this
 omega
theorem jF (b:List UInt8):Fy b=some (Ke b):=by
 unfold Fy Ke
 by_cases hl:4096 < b.length
 ·rw [aBu (by omega),if_pos hl]; rfl
 rw [aBo (by omega),if_neg hl,aCc]
 obtain⟨y,hy,hp⟩:=qQ b (by omega)
 rw [hy,aAo]
 unfold Nx at hp
 cases hd:Gs b with
 | none=>
  rw [hd] at hp
  dsimp only at hp
  rw [hp]; rfl
 | some p=>
  obtain⟨v,m⟩:=p
  rw [hd] at hp
  dsimp only at hp
  subst hp
  dsimp only
  rw [aEv,aCc]
  by_cases hm:m=b.length
  ·rw [aBu (by omega),if_pos hm]
   have hb:=P9 hd hm
   have hs:=Q9 v hb.2
   rw [hb.1] at hs
   unfold Fy.j1
   rw [aEv,aCc,mR v (by omega),aAo]
   by_cases h16:16 < v.depth
   ·rw [aBu (by omega),if_pos h16]; rfl
   ·rw [aBo (by omega),if_neg h16]; rfl
  ·rw [aBo (by omega),if_neg hm]; rfl
theorem On {b:List UInt8} {v:Aa}:E7 b=some [v]↔Gs b=some (v,b.length):=by
 by_cases hn:b=[]
 ·subst hn
  rw [Lk]
  constructor
  ·intro h; cases h
  ·intro h; cases h
 rw [Mh hn]
 cases hd:Gs b with
 | none=>simp
 | some p=>
  obtain⟨w,m⟩:=p
  have hm:=Ud hd
  dsimp only
  constructor
  ·intro h
   obtain⟨l,h1,h2⟩:=aFi.1 h
   injection h2 with h2 h3
   subst h2 h3
   have:b.drop m=[]:=by
    by_cases he:b.drop m=[]
    ·exact he
    ·rw [Mh he] at h1
     cases hq:Gs (b.drop m) with
     | none=>rw [hq] at h1; cases h1
     | some q=>
      rw [hq] at h1
      obtain⟨l,-,h2⟩:=aFi.1 h1
      cases h2
   have:=aF9.1 this
   rw [show m=b.length by omega]
  ·intro h
   injection h with h
   injection h with h1 h2
   subst h1
   rw [h2,aHc,Lk]; rfl
theorem Sw (b:List UInt8):Eh b=some (Ke b):=by
 unfold Eh Ke
 by_cases hl:4096 < b.length
 ·rw [aBu (by omega),if_pos hl]; rfl
 rw [aBo (by omega),if_neg hl,aCc]
 obtain⟨y,hy,hp⟩:=nU b (by omega)
 rw [hy,aAo]
 unfold Tj at hp
 have hno:(∀ v,Gs b≠some (v,b.length))->(match Gs b with | some (v,m)=>if m=b.length then (if 16 < v.depth then (Ko,3) else (v,0)) else (Ko,1) | none=>(Ko,1))=(Ko,(1:Int)):=by
  intro h
  cases hd:Gs b with
  | none=>rfl
  | some p=>
   obtain⟨v,m⟩:=p
   dsimp only
   rw [if_neg (fun e=>h v (by rw [hd,e]))]
 cases ha:E7 b with
 | none=>
  rw [ha] at hp
  dsimp only at hp
  rw [hp,hno fun v hv=>by rw [On.2 hv] at ha; cases ha]
  rfl
 | some es=>
  rw [ha] at hp
  dsimp only at hp
  subst hp
  dsimp only
  rw [aEv,aCc]
  match es with
  | []=>
   rw [hno fun v hv=>by rw [On.2 hv] at ha; cases ha]
   rfl
  | [v]=>
   have hd:=On.1 ha
   rw [hd]
   dsimp only
   rw [if_pos rfl]
   have hb:=P9 hd rfl
   have hs:=Q9 v hb.2
   rw [hb.1] at hs
   unfold Eh.j1
   rw [show (!decide ((([v]:List Aa).length:Int)=1))=false from rfl,aCc,Pm,show ([v]:List Aa)[0]?=some v from rfl,aAo,Vx v (by omega),aAo]
   by_cases h16:16 < v.depth
   ·rw [aBu (by omega),if_pos h16]; rfl
   ·rw [aBo (by omega),if_neg h16]; rfl
  | v :: w :: es=>
   rw [hno fun v hv=>by rw [On.2 hv] at ha; cases ha]
   rw [aBo (by simp only [aEw]; omega)]
   rfl
end
end Go.Proofs.YtfanepojdefdpaaGreat
