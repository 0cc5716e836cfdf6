/- Plain texts, joined. No program is in sight here. -/
import Derived.Test.YtobamahlipiakaaGreatP1
import Derived.WalkKit
import Derived.Test.YtobamahlipiakaaGreatL3
set_option linter.unusedVariables false
set_option linter.unusedSimpArgs false
namespace Go.Proofs.YtobamahlipiakaaGreat
section
open Go
def kV (t:Int):Bool:=decide (1<=t) && decide (t<=255) && (t % 32 != 31)
def lV (t:Int):Bool:=t / 32 % 2 == 1
mutual
def Ab.formed:Ab->Bool
 | .mk t b n es=>kV t && (n == lV t) && !(n && decide (0 < b.length)) && !(!n && decide (0 < es.length)) && Ks es
def Ks:List Ab->Bool
 | []=>true
 | v :: vs=>v.formed && Ks vs
end
theorem Tt:∀ es:List Ab,Ks es=es.all Ab.formed
 | []=>by simp [Ks]
 | v :: vs=>by rw [Ks,Tt vs,List.all_cons]
mutual
def Ab.depth:Ab->Nat
 | .mk _ _ _ es=>Gr es + 1
def Gr:List Ab->Nat
 | []=>0
 | v :: vs=>max v.depth (Gr vs)
end
theorem Uo:∀ a b:List Ab,Gr (a ++ b)=max (Gr a) (Gr b)
 | [],b=>by simp [Gr]
 | v :: vs,b=>by rw [aZi,Gr,Gr,Uo vs b,Nat.max_assoc]
theorem Qr {es:List Ab} {k:Nat} {d:Ab} (h:es[k]?=some d):Gr (es.take (k + 1))=max (Gr (es.take k)) d.depth:=by
 obtain⟨hk,e⟩:=aDx.1 h
 rw [aZu hk,Uo,e,Gr,Gr,Nat.max_zero]
mutual
def Ab.same:Ab->Ab->Bool
 | .mk t b n es,.mk t' b' n' es'=>t == t' && n == n' && b == b' && wR es es'
def wR:List Ab->List Ab->Bool
 | [],[]=>true
 | v :: vs,u :: us=>v.same u && wR vs us
 | _,_=>false
end
def Kf:List UInt8->List UInt8
 | x :: y :: r=>if (x=0/\y < 128)\/(x=255/\128<=y) then Kf (y :: r) else x :: y :: r
 | l=>l
def pG (n:Int) (k:Nat):List UInt8:=(List.range k).map fun j=>UInt8.ofNat ((IntKind.u64.wrap n).toNat / 2 ^ (56 - 8 * j) % 256)
def aC3 (n:Int):List UInt8:=Kf (pG n 8)
def Po (n:Int):Ab:=.mk 2 (aC3 n) false []
theorem Y9 (n:Int):0<=IntKind.u64.wrap n/\IntKind.u64.wrap n < 18446744073709551616:=by
 rw [IntKind.wrap_u64]; omega
theorem rC:∀ l:List UInt8,(Kf l).length<=l.length
 | []=>by simp [Kf]
 | [_]=>by simp [Kf]
 | x :: y :: r=>by
  rw [Kf]
  split
  ·have:=rC (y :: r); simp at this ⊢; omega
  ·simp
def Hj (n:Int):Nat->Bool
 | 1=>decide (-128<=n/\n < 128)
 | 2=>decide (-32768<=n/\n < 32768)
 | 3=>decide (-8388608<=n/\n < 8388608)
 | 4=>decide (-2147483648<=n/\n < 2147483648)
 | 5=>decide (-549755813888<=n/\n < 549755813888)
 | 6=>decide (-140737488355328<=n/\n < 140737488355328)
 | 7=>decide (-36028797018963968<=n/\n < 36028797018963968)
 | 8=>true
 | _=>false
def Vt (n:Int):Nat:=if Hj n 1 then 1 else if Hj n 2 then 2 else if Hj n 3 then 3 else if Hj n 4 then 4 else if Hj n 5 then 5 else if Hj n 6 then 6 else if Hj n 7 then 7 else 8
def Fl (n:Int) (j:Nat):UInt8:=UInt8.ofNat ((n / 256 ^ j % 256).toNat)
theorem F8 (n:Int) (j:Nat):((Fl n j).toNat:Int)=n / 256 ^ j % 256:=by
 unfold Fl
 have h:0<=n / 256 ^ j % 256/\n / 256 ^ j % 256 < 256:=by omega
 rw [aXk,bAl (by omega)]
 omega
theorem oK (n:Int) (j:Nat) (hj:j<=7):(IntKind.u64.wrap n) / 2 ^ (8 * j) % 256=n / 256 ^ j % 256:=by
 rw [IntKind.wrap_u64]
 match j,hj with
 | 0,_=>simp
 | 1,_=>simp; omega
 | 2,_=>simp; omega
 | 3,_=>simp; omega
 | 4,_=>simp; omega
 | 5,_=>simp; omega
 | 6,_=>simp; omega
 | 7,_=>simp; omega
theorem be8 (n:Int):pG n 8=[Fl n 7,Fl n 6,Fl n 5,Fl n 4,Fl n 3,Fl n 2,Fl n 1,Fl n 0]:=by
 have key:∀ j,j<=7->UInt8.ofNat ((IntKind.u64.wrap n).toNat / 2 ^ (8 * j) % 256)=Fl n j:=by
  intro j hj
  have h:=Y9 n
  have h2:=oK n j hj
  unfold Fl
  rw [<- h2]
  obtain⟨m,hm⟩:=Int.eq_ofNat_of_zero_le h.1
  rw [hm]
  congr 1
 have h:=fun j hj=>key j hj
 unfold pG
 simp only [List.range,List.range.loop,aWq,List.map_nil]
 rw [<- h 7 (by omega),<- h 6 (by omega),<- h 5 (by omega),<- h 4 (by omega),<- h 3 (by omega),<- h 2 (by omega),<- h 1 (by omega),<- h 0 (by omega)]
theorem Qv {x y:UInt8} {r:List UInt8} {c:Bool} (h:(((x.toNat:Int)=0/\(y.toNat:Int) < 128)\/((x.toNat:Int)=255/\(128:Int)<=y.toNat))↔c=true):Kf (x :: y :: r)=if c then Kf (y :: r) else x :: y :: r:=by
 have h1:((x=0/\y < 128)\/(x=255/\128<=y))↔(((x.toNat:Int)=0/\(y.toNat:Int) < 128)\/((x.toNat:Int)=255/\(128:Int)<=y.toNat)):=by
  have e0:x=0↔(x.toNat:Int)=0:=⟨fun e=>by rw [e]; rfl,fun e=>UInt8.toNat.inj (by simp; omega)⟩
  have e1:x=255↔(x.toNat:Int)=255:=⟨fun e=>by rw [e]; rfl,fun e=>UInt8.toNat.inj (by simp; omega)⟩
  have e2:y < 128↔(y.toNat:Int) < 128:=by rw [UInt8.lt_iff_toNat_lt]; simp; omega
  have e3:128<=y↔(128:Int)<=y.toNat:=by rw [UInt8.le_iff_toNat_le]; simp; omega
  rw [e0,e1,e2,e3]
 rw [Kf]
 by_cases hc:c=true
 ·rw [if_pos (h1.2 (h.2 hc)),if_pos hc]
 ·rw [if_neg (fun g=>hc (h.1 (h1.1 g))),if_neg hc]
theorem aDz (n:Int) (_h1:-9223372036854775808<=n) (_h2:n<=9223372036854775807) (r:List UInt8):Kf (Fl n 7 :: Fl n 6 :: r)=if Hj n 7 then Kf (Fl n 6 :: r) else Fl n 7 :: Fl n 6 :: r:=by
 refine Qv ?_
 rw [F8,F8]; unfold Hj; simp; omega
theorem aB0 (n:Int) (h:Hj n 7=true) (r:List UInt8):Kf (Fl n 6 :: Fl n 5 :: r)=if Hj n 6 then Kf (Fl n 5 :: r) else Fl n 6 :: Fl n 5 :: r:=by
 unfold Hj at h; simp at h
 refine Qv ?_
 rw [F8,F8]; unfold Hj; simp; omega
theorem aCs (n:Int) (h:Hj n 6=true) (r:List UInt8):Kf (Fl n 5 :: Fl n 4 :: r)=if Hj n 5 then Kf (Fl n 4 :: r) else Fl n 5 :: Fl n 4 :: r:=by
 unfold Hj at h; simp at h
 refine Qv ?_
 rw [F8,F8]; unfold Hj; simp; omega
theorem aCt (n:Int) (h:Hj n 5=true) (r:List UInt8):Kf (Fl n 4 :: Fl n 3 :: r)=if Hj n 4 then Kf (Fl n 3 :: r) else Fl n 4 :: Fl n 3 :: r:=by
 unfold Hj at h; simp at h
 refine Qv ?_
 rw [F8,F8]; unfold Hj; simp; omega
theorem aCe (n:Int) (h:Hj n 4=true) (r:List UInt8):Kf (Fl n 3 :: Fl n 2 :: r)=if Hj n 3 then Kf (Fl n 2 :: r) else Fl n 3 :: Fl n 2 :: r:=by
 unfold Hj at h; simp at h
 refine Qv ?_
 rw [F8,F8]; unfold Hj; simp; omega
theorem aBu (n:Int) (h:Hj n 3=true) (r:List UInt8):Kf (Fl n 2 :: Fl n 1 :: r)=if Hj n 2 then Kf (Fl n 1 :: r) else Fl n 2 :: Fl n 1 :: r:=by
 unfold Hj at h; simp at h
 refine Qv ?_
 rw [F8,F8]; unfold Hj; simp; omega
theorem aD4 (n:Int) (h:Hj n 2=true) (r:List UInt8):Kf (Fl n 1 :: Fl n 0 :: r)=if Hj n 1 then Kf (Fl n 0 :: r) else Fl n 1 :: Fl n 0 :: r:=by
 unfold Hj at h; simp at h
 refine Qv ?_
 rw [F8,F8]; unfold Hj; simp; omega
theorem Gf {n:Int} {j:Nat} (hj:1<=j) (h7:j<=6) (h:¬ Hj n (j + 1)=true):¬ Hj n j=true:=by
 match j,hj,h7 with
 | 1,_,_=>unfold Hj at *; simp at *; omega
 | 2,_,_=>unfold Hj at *; simp at *; omega
 | 3,_,_=>unfold Hj at *; simp at *; omega
 | 4,_,_=>unfold Hj at *; simp at *; omega
 | 5,_,_=>unfold Hj at *; simp at *; omega
 | 6,_,_=>unfold Hj at *; simp at *; omega
theorem xW (n:Int) (h1:-9223372036854775808<=n) (h2:n<=9223372036854775807):aC3 n=(pG n 8).drop (8 - Vt n):=by
 unfold aC3
 rw [be8]
 by_cases f7:Hj n 7=true
 ·rw [aDz n h1 h2,if_pos f7]
  by_cases f6:Hj n 6=true
  ·rw [aB0 n f7,if_pos f6]
   by_cases f5:Hj n 5=true
   ·rw [aCs n f6,if_pos f5]
    by_cases f4:Hj n 4=true
    ·rw [aCt n f5,if_pos f4]
     by_cases f3:Hj n 3=true
     ·rw [aCe n f4,if_pos f3]
      by_cases f2:Hj n 2=true
      ·rw [aBu n f3,if_pos f2]
       by_cases f1:Hj n 1=true
       ·rw [aD4 n f2,if_pos f1]
        rw [Kf]
        ·simp [Vt,f1]
        ·intro x y r h; cases h
       ·rw [aD4 n f2,if_neg f1]
        simp [Vt,f1,f2]
      ·rw [aBu n f3,if_neg f2]
       have f1:=Gf (j:=1) (by omega) (by omega) f2
       simp [Vt,f1,f2,f3]
     ·rw [aCe n f4,if_neg f3]
      have f2:=Gf (j:=2) (by omega) (by omega) f3
      have f1:=Gf (j:=1) (by omega) (by omega) f2
      simp [Vt,f1,f2,f3,f4]
    ·rw [aCt n f5,if_neg f4]
     have f3:=Gf (j:=3) (by omega) (by omega) f4
     have f2:=Gf (j:=2) (by omega) (by omega) f3
     have f1:=Gf (j:=1) (by omega) (by omega) f2
     simp [Vt,f1,f2,f3,f4,f5]
   ·rw [aCs n f6,if_neg f5]
    have f4:=Gf (j:=4) (by omega) (by omega) f5
    have f3:=Gf (j:=3) (by omega) (by omega) f4
    have f2:=Gf (j:=2) (by omega) (by omega) f3
    have f1:=Gf (j:=1) (by omega) (by omega) f2
    simp [Vt,f1,f2,f3,f4,f5,f6]
  ·rw [aB0 n f7,if_neg f6]
   have f5:=Gf (j:=5) (by omega) (by omega) f6
   have f4:=Gf (j:=4) (by omega) (by omega) f5
   have f3:=Gf (j:=3) (by omega) (by omega) f4
   have f2:=Gf (j:=2) (by omega) (by omega) f3
   have f1:=Gf (j:=1) (by omega) (by omega) f2
   simp [Vt,f1,f2,f3,f4,f5,f6,f7]
 ·rw [aDz n h1 h2,if_neg f7]
  have f6:=Gf (j:=6) (by omega) (by omega) f7
  have f5:=Gf (j:=5) (by omega) (by omega) f6
  have f4:=Gf (j:=4) (by omega) (by omega) f5
  have f3:=Gf (j:=3) (by omega) (by omega) f4
  have f2:=Gf (j:=2) (by omega) (by omega) f3
  have f1:=Gf (j:=1) (by omega) (by omega) f2
  simp [Vt,f1,f2,f3,f4,f5,f6,f7]
theorem sL (n:Int) (h1:-9223372036854775808<=n) (h2:n<=9223372036854775807) (k:Nat) (hk:k<=7) :
  Hj n (k + 1)=true↔(n / 256 ^ (k + 1)=0/\((Fl n k).toNat:Int) < 128)\/(n / 256 ^ (k + 1)=-1/\(128:Int)<=(Fl n k).toNat):=by
 match k,hk with
 | 0,_=>rw [F8]; unfold Hj; simp; omega
 | 1,_=>rw [F8]; unfold Hj; simp; omega
 | 2,_=>rw [F8]; unfold Hj; simp; omega
 | 3,_=>rw [F8]; unfold Hj; simp; omega
 | 4,_=>rw [F8]; unfold Hj; simp; omega
 | 5,_=>rw [F8]; unfold Hj; simp; omega
 | 6,_=>rw [F8]; unfold Hj; simp; omega
 | 7,_=>rw [F8]; unfold Hj; simp; omega
theorem Wa (n:Int) (k:Nat) (hk:k<=7):(pG n 8).drop (7 - k)=Fl n k :: (pG n 8).drop (8 - k):=by
 rw [be8]
 match k,hk with
 | 0,_=>rfl
 | 1,_=>rfl
 | 2,_=>rfl
 | 3,_=>rfl
 | 4,_=>rfl
 | 5,_=>rfl
 | 6,_=>rfl
 | 7,_=>rfl
theorem rQ (n:Int) (k:Nat) (hk:k<=7) (hn:∀ j,1<=j->j<=k->Hj n j=false) (hf:Hj n (k + 1)=true):Vt n=k + 1:=by
 have g:=fun j (h1:1<=j) (h2:j<=k)=>hn j h1 h2
 unfold Vt
 match k,hk,hf,g with
 | 0,_,hf,_=>simp [hf]
 | 1,_,hf,g=>simp [hf,g 1 (by omega) (by omega)]
 | 2,_,hf,g=>simp [hf,g 1 (by omega) (by omega),g 2 (by omega) (by omega)]
 | 3,_,hf,g=>simp [hf,g 1 (by omega) (by omega),g 2 (by omega) (by omega),g 3 (by omega) (by omega)]
 | 4,_,hf,g=>simp [hf,g 1 (by omega) (by omega),g 2 (by omega) (by omega),g 3 (by omega) (by omega),g 4 (by omega) (by omega)]
 | 5,_,hf,g=>simp [hf,g 1 (by omega) (by omega),g 2 (by omega) (by omega),g 3 (by omega) (by omega),g 4 (by omega) (by omega),g 5 (by omega) (by omega)]
 | 6,_,hf,g=>simp [hf,g 1 (by omega) (by omega),g 2 (by omega) (by omega),g 3 (by omega) (by omega),g 4 (by omega) (by omega),g 5 (by omega) (by omega),g 6 (by omega) (by omega)]
 | 7,_,_,g=>simp [g 1 (by omega) (by omega),g 2 (by omega) (by omega),g 3 (by omega) (by omega),g 4 (by omega) (by omega),g 5 (by omega) (by omega),g 6 (by omega) (by omega),g 7 (by omega) (by omega)]
theorem aEp (n:Int) (k:Nat):n / 256 ^ (k + 1) / 256=n / 256 ^ (k + 1 + 1):=by
 rw [Int.pow_succ 256 (k + 1)]
 have h:(0:Int)<=256 ^ (k + 1):=Int.pow_nonneg (by omega)
 first | exact Int.ediv_ediv_of_nonneg h | exact Int.ediv_ediv_eq_ediv_mul _ h | (rw [Int.ediv_ediv,if_neg (by omega)]; simp)
def be (n:Nat):List UInt8:=if h:n=0 then [] else be (n / 256) ++ [UInt8.ofNat (n % 256)]
termination_by n
decreasing_by omega
theorem aHr:be 0=[]:=by rw [be]; rfl
theorem aX {n:Nat} (h:0 < n):be n=be (n / 256) ++ [UInt8.ofNat (n % 256)]:=by rw [be]; rw [dif_neg (by omega)]
def Tw (n:Nat):Nat:=(be n).length
theorem xD:Tw 0=0:=by unfold Tw; rw [aHr]; rfl
theorem Ze {n:Nat} (h:0 < n):Tw n=Tw (n / 256) + 1:=by unfold Tw; rw [aX h]; simp
theorem aM2:∀ (c n:Nat),Tw n=c->∀ j,j < c->(be n)[j]?=some (UInt8.ofNat (n / 256 ^ (c - 1 - j) % 256)):=by
 intro c
 induction c with
 | zero=>intro n _ j hj; omega
 | succ c ih=>
  intro n hn j hj
  have hpos:0 < n:=by
   rcases aLq n with h | h
   ·subst h; rw [xD] at hn; omega
   ·exact h
  have hc:Tw (n / 256)=c:=by rw [Ze hpos] at hn; omega
  rw [aX hpos,bBj]
  have hl:(be (n / 256)).length=c:=hc
  rw [hl]
  by_cases h:j < c
  ·rw [if_pos h,ih _ hc j h]
   have e:n / 256 / 256 ^ (c - 1 - j)=n / 256 ^ (c + 1 - 1 - j):=by
    rw [Nat.div_div_eq_div_mul,show c + 1 - 1 - j=(c - 1 - j) + 1 by omega,Nat.pow_succ,bBp]
   rw [e]
  ·obtain rfl:j=c:=by omega
   rw [if_neg h]
   simp
theorem vT (k:Nat):∀ n,n < 256 ^ k->Tw n<=k:=by
 induction k with
 | zero=>
  intro n h
  have:n=0:=by simpa using h
  subst this
  rw [xD]
  omega
 | succ k ih=>
  intro n h
  rcases aLq n with h0 | h0
  ·subst h0; rw [xD]; omega
  ·rw [Ze h0]
   have:=ih (n / 256) (by rw [Nat.pow_succ] at h; exact Nat.div_lt_of_lt_mul (by rw [bBp]; exact h))
   omega
def Wy (n:Nat):List UInt8:=if n < 128 then [UInt8.ofNat n] else UInt8.ofNat (128 + Tw n) :: be n
mutual
def Ab.put:Ab->List UInt8
 | .mk t b n es=>UInt8.ofNat (t.toNat % 256) :: (Wy ((if n then Gp es else b).length) ++ (if n then Gp es else b))
def Gp:List Ab->List UInt8
 | []=>[]
 | v :: vs=>v.put ++ Gp vs
end
def Ab.body:Ab->List UInt8 | .mk _ b n es=>if n then Gp es else b
theorem aNb (t:Int) (b:List UInt8) (n:Bool) (es:List Ab):(Ab.mk t b n es).put=UInt8.ofNat (t.toNat % 256) :: (Wy (Ab.mk t b n es).body.length ++ (Ab.mk t b n es).body):=by rw [Ab.put]; rfl
theorem Sg:∀ a b:List Ab,Gp (a ++ b)=Gp a ++ Gp b
 | [],b=>by simp [Gp]
 | v :: vs,b=>by rw [aZi,Gp,Gp,Sg vs b,aTn]
theorem Tg {es:List Ab} {k:Nat} {d:Ab} (h:es[k]?=some d):Gp (es.take (k + 1))=Gp (es.take k) ++ d.put:=by
 obtain⟨hk,e⟩:=aDx.1 h
 rw [aZu hk,Sg,e]
 simp [Gp]
theorem gS {es:List Ab} (k:Nat):(Gp (es.take k)).length<=(Gp es).length:=by
 have:=Sg (es.take k) (es.drop k)
 rw [aW8] at this
 rw [this,aF3]; omega
theorem eF {n:Nat} (h:n < 256 ^ 6):(Wy n).length<=7:=by
 unfold Wy
 split
 ·simp
 ·have:=vT 6 n h
  unfold Tw at this
  simp; omega
end
section
open Go
theorem aMk {n:Nat} (h:n < 128):Wy n=[UInt8.ofNat n]:=by unfold Wy; rw [if_pos h]
theorem aJ7 {n:Nat} (h:128<=n) (h2:n < 256):Wy n=[129,UInt8.ofNat n]:=by
 have e:be n=[UInt8.ofNat n]:=by rw [aX (by omega),show n / 256=0 by omega,aHr,show n % 256=n by omega]; rfl
 unfold Wy Tw
 rw [if_neg (by omega),e]
 rfl
theorem aK5 {n:Nat} (h:256<=n) (h2:n < 65536):Wy n=[130,UInt8.ofNat (n / 256),UInt8.ofNat (n % 256)]:=by
 have e:be n=[UInt8.ofNat (n / 256),UInt8.ofNat (n % 256)]:=by
  rw [aX (by omega),aX (n:=n / 256) (by omega),show n / 256 / 256=0 by omega,aHr,show n / 256 % 256=n / 256 by omega]; rfl
 unfold Wy Tw
 rw [if_neg (by omega),e]
 rfl
end
section
open Go
mutual
def Ab.sz:Ab->Nat
 | .mk _ b _ es=>b.length + Th es + 1
def Th:List Ab->Nat
 | []=>0
 | v :: vs=>v.sz + Th vs
end
theorem P7 (v:Ab):v.sz=v.Bytes.length + Th v.Elements + 1:=by cases v; rw [Ab.sz]
theorem dR:∀ {es:List Ab} {d:Ab},d∈es->d.sz<=Th es
 | v :: vs,d,h=>by
  rw [Th]
  rcases aF2.1 h with rfl | h
  ·omega
  ·have:=dR h; omega
theorem Qc:∀ es:List Ab,es.length<=Th es
 | []=>aJf _
 | v :: vs=>by
  have:=Qc vs
  rw [Th,aJw,P7]; omega
theorem Q1 {v d:Ab} (h:d∈v.Elements):d.sz < v.sz:=by
 have:=dR h
 rw [P7 v]; omega
theorem sB {b:List UInt8} (h:b.length < 1073741824):G2 b=some b:=by
 unfold G2 G2.j1
 have e:Gy 1 ([]:List UInt8) b=some b:=by rw [D1 (by simp; omega)]; rfl
 rw [e]
 unfold kO
 split
 ·rename_i h0; subst h0; simp
 ·rfl
theorem eY (l:List Ab) (h:Th l < 1073741824):D6 l=some l:=
 Nv cJ id Th (fun l=>Th l < 1073741824) (fun rec l hl hr=>by
  show D6.F rec l=some l
  unfold D6.F
  have hn:=Qc l
  refine (Gs l.length (fun i=>((i:Int),l.take i)) l ?_ ?_).trans ?_
  ·intro i hi
   obtain⟨e,he⟩:∃ e,l[i]?=some e:=⟨_,aCv hi⟩
   have h1:=dR (Fr he)
   have h2:=P7 e
   show D6.l1 rec l (i:Int) (l.take i)=_
   unfold D6.l1
   rw [Dz he,sB (by omega),hr e.Elements (by omega) (by omega)]
   simp only [id,aAg]
   rw [D1 (by simp; omega),Fo (by omega),I9 he]
   cases e; rfl
  ·show D6.l1 rec l (l.length:Int) (l.take l.length)=_
   unfold D6.l1
   rw [Cy,aR2]; rfl
  ·rfl) l h
theorem oZ (l:List Ab) (h:Th l < 1073741824):Dl l=some l:=
 Nv Y5 id Th (fun l=>Th l < 1073741824) (fun rec l hl hr=>by
  show Dl.F rec l=some l
  unfold Dl.F
  have hn:=Qc l
  refine (Gs l.length (fun i=>((i:Int),l.take i)) l ?_ ?_).trans ?_
  ·intro i hi
   obtain⟨e,he⟩:∃ e,l[i]?=some e:=⟨_,aCv hi⟩
   have h1:=dR (Fr he)
   have h2:=P7 e
   show Dl.l1 rec l (i:Int) (l.take i)=_
   unfold Dl.l1
   rw [Dz he,D1 (by simp; omega)]
   simp only [aSw,aAg]
   rw [hr e.Elements (by omega) (by omega)]
   simp only [id,aAg]
   rw [D1 (by simp; omega),Fo (by omega),I9 he]
   cases e; rfl
  ·show Dl.l1 rec l (l.length:Int) (l.take l.length)=_
   unfold Dl.l1
   rw [Cy,aR2]; rfl
  ·rfl) l h
theorem oM (l:List Ab) (h:Th l < 1073741824):Nd l=some (.mk 48 [] true l):=by unfold Nd; rw [eY l h]; rfl
theorem aCz (l:List Ab) (h:Th l < 1073741824):Q8 l=some (.mk 48 [] true l):=by unfold Q8; first | (rw [oM l h]; rfl) | (rw [eY l h]; rfl)
theorem Tr (l:List Ab) (h:Th l < 1073741824):H2 l=some (.mk 48 [] true l):=by unfold H2; rw [oZ l h]; rfl
theorem iA {n:Int} (h1:1<=n) (h2:n<=255):∃ m:Fin 256,n=(m.val:Int):=⟨⟨n.toNat,by omega⟩,by simp; omega⟩
theorem aAf:∀ m:Fin 256,(!decide (eX .i64 (m.val:Int) 31=31))=((m.val:Int) % 32 != 31):=by decide +kernel
theorem aAr:∀ m:Fin 256,(!decide (eX .i64 (m.val:Int) 32=0))=lV (m.val:Int):=by decide +kernel
theorem zZ:∀ m:Fin 256,(!decide ((m.val:Int).tmod 32=31))=((m.val:Int) % 32 != 31):=by decide +kernel
theorem aA2:∀ m:Fin 256,((Pm (m.val:Int) 32).bind fun q=>(Vk q 2).bind fun r=>some (decide (r=1)))=some (lV (m.val:Int)):=by decide +kernel
theorem aG0 (n:Int):Ti n=some (kV n):=by
 unfold Ti kV
 by_cases h1:1<=n
 ·by_cases h2:n<=255
  ·obtain⟨m,rfl⟩:=iA h1 h2
   rw [aAf m,aA4 h1,aA4 h2]; rfl
  ·simp [h1,h2]
 ·simp [h1]
theorem yS (n:Int):Pn n=some (kV n):=by
 unfold Pn kV
 by_cases h1:1<=n
 ·by_cases h2:n<=255
  ·obtain⟨m,rfl⟩:=iA h1 h2
   rw [<- zZ m,aA4 h1,aA4 h2]; rfl
  ·simp [h1,h2]
 ·simp [h1]
theorem O7 {n:Int} (h:kV n=true):1<=n/\n<=255:=by
 unfold kV at h
 simp only [aF1,aJc] at h
 exact⟨h.1.1,h.1.2⟩
theorem N3 (v:Ab):v.formed=(kV v.Tag && (v.Nested == lV v.Tag) && !(v.Nested && decide (0 < v.Bytes.length)) && !(!v.Nested && decide (0 < v.Elements.length)) && Ks v.Elements):=by cases v; rw [Ab.formed]
theorem bM (l:List Ab):(!l.any fun v=>!v.formed)=Ks l:=by
 rw [Tt]
 induction l with
 | nil=>rfl
 | cons v l ih=>rw [aS9,List.all_cons,<- ih]; cases v.formed <;> simp
theorem vW (v:Ab) (h:v.sz < 1073741824):Dp v=some v.formed:=
 Nv cD Ab.formed Ab.sz (fun v=>v.sz < 1073741824) (fun rec v hv hr=>by
  show Dp.F rec v=some v.formed
  have hn:=Qc v.Elements
  have h0:=P7 v
  have hj1:Dp.j1 rec v true=some false:=rfl
  have hj2:Dp.j1 rec v false=some (Ks v.Elements):=by
   unfold Dp.j1 Eb B7
   have hl:Bz (fun q'=>B7.l1 v.Elements (fun x0=>G5 rec x0) q') 0=some (match v.Elements.findIdx? (fun v=>!v.formed) with | some i=>(i:Int) | none=>-1):=
    Qk v.Elements (fun i=>(i:Int)) (fun v=>!v.formed) (fun i=>(i:Int)) (-1) (fun i x hx=>by
     have h1:=Q1 (Fr hx)
     have h2:=G3 hx
     unfold B7.l1 G5
     rw [Dz hx]
     dsimp only
     rw [hr x (by omega) h1,Fo (by omega)]
     cases x.formed <;> rfl) (by unfold B7.l1; rw [Cy]; rfl)
   rw [hl,<- bM]
   simp only [aDb,aAg]
   cases hq:v.Elements.findIdx? (fun v=>!v.formed) with
   | none=>
    have:=aYm.1 hq
    have:(v.Elements.any fun v=>!v.formed)=false:=by rw [aR8]; simpa using this
    rw [this]; rfl
   | some i=>
    have:=bBk (xs:=v.Elements) (p:=fun v=>!v.formed)
    rw [hq] at this
    rw [<- this]
    simp
  unfold Dp.F
  rw [aG0,hj1,hj2,N3]
  cases ht:kV v.Tag
  ·rfl
  ·obtain⟨m,hm⟩:=iA (O7 ht).1 (O7 ht).2
   rw [hm,aAr m]
   cases v.Nested <;> cases lV (m.val:Int) <;> by_cases hb:0 < v.Bytes.length <;> by_cases he:0 < v.Elements.length <;> simp [hb,he,hj1,hj2]) v h
theorem oL (v:Ab) (h:v.sz < 1073741824):B6 v=some v.formed:=
 Nv Yp Ab.formed Ab.sz (fun v=>v.sz < 1073741824) (fun rec v hv hr=>by
  show B6.F rec v=some v.formed
  have hn:=Qc v.Elements
  have h0:=P7 v
  have hj1:B6.j1 rec v true=some false:=rfl
  have hj2:B6.j1 rec v false=some (Ks v.Elements):=by
   unfold B6.j1
   have hl:=Qs (body:=fun q'=>B6.l2 rec v q') v.Elements (fun i=>(i:Int)) (fun v=>!v.formed) false true (fun i x hx=>by
     have h1:=Q1 (Fr hx)
     have h2:=G3 hx
     unfold B6.l2
     rw [Dz hx,hr x (by omega) h1,Fo (by omega)]
     cases x.formed <;> rfl) (by unfold B6.l2; rw [Cy]; rfl)
   rw [aDb]
   refine Eq.trans hl ?_
   rw [<- bM]
   cases v.Elements.any fun v=>!v.formed <;> rfl
  unfold B6.F
  rw [yS,hj1,hj2,N3]
  cases ht:kV v.Tag
  ·rfl
  ·obtain⟨m,hm⟩:=iA (O7 ht).1 (O7 ht).2
   have hq:=aA2 m
   rw [hm]
   cases h1:Pm (m.val:Int) 32 with
   | none=>rw [h1] at hq; cases hq
   | some q=>
    rw [h1] at hq
    simp only [aAg] at hq
    cases h2:Vk q 2 with
    | none=>rw [h2] at hq; cases hq
    | some r=>
     rw [h2] at hq
     simp only [aAg,Option.some.injEq] at hq
     simp only [aAg,h2,hq]
     cases v.Nested <;> cases lV (m.val:Int) <;> by_cases hb:0 < v.Bytes.length <;> by_cases he:0 < v.Elements.length <;> simp [hb,he,hj1,hj2]) v h
theorem Vp:∀ es:List Ab,Gr es<=Th es
 | []=>aJf _
 | v :: vs=>by
  obtain⟨t,b,n,es⟩:=v
  have h1:=Vp es
  have h2:=Vp vs
  rw [Gr,Th,Ab.depth,Ab.sz]; omega
theorem rN (v:Ab):v.depth<=v.sz:=by
 obtain⟨t,b,n,es⟩:=v
 have:=Vp es
 rw [Ab.depth,Ab.sz]; omega
theorem U4 (v:Ab):v.depth=Gr v.Elements + 1:=by cases v; rw [Ab.depth]
theorem zL (v:Ab) (h:v.sz < 1073741824):Et v=some (v.depth:Int):=
 Nv fW (fun v=>(v.depth:Int)) Ab.sz (fun v=>v.sz < 1073741824) (fun rec v hv hr=>by
  show Et.F rec v=some (v.depth:Int)
  unfold Et.F
  have hn:=Qc v.Elements
  have h0:=P7 v
  have hd:=rN v
  have hq:=U4 v
  refine (Gs v.Elements.length (fun i=>((Gr (v.Elements.take i):Int),(i:Int))) (v.depth:Int) ?_ ?_).trans ?_
  ·intro i hi
   obtain⟨e,he⟩:∃ e,v.Elements[i]?=some e:=⟨_,aCv hi⟩
   have h1:=Q1 (Fr he)
   show Et.l1 rec v (Gr (v.Elements.take i):Int) (i:Int)=_
   unfold Et.l1
   rw [Dz he,hr e (by omega) h1,Fo (by omega),Qr he]
   simp only [aAg]
   congr 3
   omega
  ·show Et.l1 rec v (Gr (v.Elements.take v.Elements.length):Int) (v.Elements.length:Int)=_
   unfold Et.l1
   rw [Cy,aR2,Ej (by omega),hq]; rfl
  ·rfl) v h
theorem qO (v:Ab) (h:v.sz < 1073741824):Dt v=some (v.depth:Int):=
 Nv aU (fun v=>(v.depth:Int)) Ab.sz (fun v=>v.sz < 1073741824) (fun rec v hv hr=>by
  show Dt.F rec v=some (v.depth:Int)
  unfold Dt.F
  have hn:=Qc v.Elements
  have h0:=P7 v
  have hd:=rN v
  have hq:=U4 v
  refine (Gs v.Elements.length (fun i=>((Gr (v.Elements.take i):Int),(i:Int))) (v.depth:Int) ?_ ?_).trans ?_
  ·intro i hi
   obtain⟨e,he⟩:∃ e,v.Elements[i]?=some e:=⟨_,aCv hi⟩
   have h1:=Q1 (Fr he)
   show Dt.l1 rec v (Gr (v.Elements.take i):Int) (i:Int)=_
   unfold Dt.l1
   rw [Dz he,hr e (by omega) h1,Fo (by omega),Qr he]
   simp only [aAg]
   congr 3
   omega
  ·show Dt.l1 rec v (Gr (v.Elements.take v.Elements.length):Int) (v.Elements.length:Int)=_
   unfold Dt.l1
   rw [Cy,aR2,Ej (by omega),hq]; rfl
  ·rfl) v h
end
section
open Go
theorem Vl (m:Nat):u8 (m:Int)=UInt8.ofNat m:=by
 apply bAf.1
 have:=sM (m:Int)
 rw [aXk]
 omega
theorem aEy (n:Int) (k:Nat):u8 (n / 256 ^ k)=Fl n k:=rfl
theorem nT {k:IntKind} {x y:Int} (e:Nat) (hy:y=(e:Int)) (he:e<=k.bits):Rn k x y=some (x / 2 ^ e):=by
 subst hy
 unfold Rn
 rw [if_neg (by omega),aMr,bAp he,bAx]
 exact Int.pow_nonneg (by omega)
theorem aMh {x:Int}:Rn .i64 x 8=some (x / 256):=nT (k:=.i64) 8 rfl (by decide)
theorem aBt (n:Int) (k:Nat):pG n (k + 1)=pG n k ++ [UInt8.ofNat ((IntKind.u64.wrap n).toNat / 2 ^ (56 - 8 * k) % 256)]:=by
 unfold pG
 rw [List.range_succ,aXg]; rfl
theorem eC (n:Int) (k:Nat):(pG n k).length=k:=by unfold pG; simp
theorem aIi (n:Int) (e:Nat):u8 (IntKind.u64.wrap n / 2 ^ e)=UInt8.ofNat ((IntKind.u64.wrap n).toNat / 2 ^ e % 256):=by
 have h:=Y9 n
 obtain⟨m,hm⟩:=Int.eq_ofNat_of_zero_le h.1
 rw [hm,aMr]
 have:(m:Int) / 2 ^ e=((m / 2 ^ e:Nat):Int):=by simp
 rw [this,Vl]
 apply bAf.1
 rw [aXk,aXk]
 omega
theorem uN (x y:UInt8) (r:List UInt8):Kf (x :: y :: r)=if ((x.toNat:Int)=0/\(y.toNat:Int) < 128)\/((x.toNat:Int)=255/\(128:Int)<=(y.toNat:Int)) then Kf (y :: r) else x :: y :: r:=by
 rw [Kf]
 have e0:(x=0)↔((x.toNat:Int)=0):=by rw [<- bAf]; simp
 have e1:(x=255)↔((x.toNat:Int)=255):=by rw [<- bAf]; simp; omega
 have e2:(y < 128)↔((y.toNat:Int) < 128):=by rw [UInt8.lt_iff_toNat_lt]; simp; omega
 have e3:(128<=y)↔((128:Int)<=(y.toNat:Int)):=by rw [UInt8.le_iff_toNat_le]; simp; omega
 simp only [e0,e1,e2,e3]
theorem W8:∀ b:List UInt8,b.length<=8->Bz (fun q'=>Di.l2 q') b=some (.mk 2 (Kf b) false [])
 | [],_=>by rw [Fj]; rfl
 | [x],_=>by rw [Fj]; rfl
 | x :: y :: r,h=>by
  have ih:=W8 (y :: r) (by simp at h ⊢; omega)
  have hl:(1:Int) < ((x :: y :: r).length:Int):=by simp; omega
  have hs:Zz (x :: y :: r) 1 ((x :: y :: r).length:Int)=some (y :: r):=by
   unfold Zz
   rw [if_pos ⟨by omega,by omega,by omega⟩]
   congr 1
   exact aJ0 (by simp; omega)
  have hg0:Bm (x :: y :: r) 0=some x:=rfl
  have hg1:Bm (x :: y :: r) 1=some y:=rfl
  have hj:Di.j3 (x :: y :: r) true=some (.next (y :: r)):=by unfold Di.j3; rw [hs]; rfl
  have hk:Di.j3 (x :: y :: r) false=some (.done (.mk 2 (x :: y :: r) false [])):=rfl
  have hb:Di.l2 (x :: y :: r)=some (if ((x.toNat:Int)=0/\(y.toNat:Int) < 128)\/((x.toNat:Int)=255/\(128:Int)<=(y.toNat:Int)) then .next (y :: r) else .done (.mk 2 (x :: y :: r) false [])):=by
   unfold Di.l2
   rw [aA4 hl,hg0,hg1]
   simp only [aEa,aAg]
   by_cases a0:(x.toNat:Int)=0
   ·have a1:¬ (x.toNat:Int)=255:=by omega
    by_cases c0:(y.toNat:Int) < 128
    ·rw [aA4 a0,aA4 c0,if_pos (.inl ⟨a0,c0⟩)]; simp only [aEa,aDb]; exact hj
    ·rw [aA4 a0,aAw c0,aAw a1,if_neg (by omega)]; simp only [aEa,aDb]; exact hk
   ·by_cases a1:(x.toNat:Int)=255
    ·rw [aAw a0,aA4 a1]
     by_cases c1:(128:Int)<=(y.toNat:Int)
     ·rw [aA4 c1,if_pos (.inr ⟨a1,c1⟩)]; simp only [aEa,aDb]; exact hj
     ·rw [aAw c1,if_neg (by omega)]; simp only [aEa,aDb]; exact hk
    ·rw [aAw a0,aAw a1,if_neg (by omega)]; simp only [aEa,aDb]; exact hk
  rw [Fj,uN]
  rw [hb]
  split
  ·exact ih
  ·rfl
theorem Rs (n:Int):Di n=some (Po n):=by
 unfold Di
 refine Gs 8 (fun k=>((56 - 8 * (k:Int)),pG n k)) (Po n) ?_ ?_
 ·intro k hk
  show Di.l1 n (56 - 8 * (k:Int)) (pG n k)=_
  unfold Di.l1
  rw [aA4 (by omega),nT (56 - 8 * k) (by omega) (by show 56 - 8 * k<=64; omega)]
  simp only [aEa,aAg]
  rw [D1 (by rw [eC]; simp; omega),Ej (by omega),aIi,<- aBt]
  simp only [aAg]
  congr 3
  omega
 ·show Di.l1 n (56 - 8 * ((8:Nat):Int)) (pG n 8)=_
  unfold Di.l1
  rw [W8 _ (by rw [eC]; omega)]
  rfl
theorem iW (x:Int) (y:UInt8) (r:List UInt8):Cr.l1 x (y :: r)=Cr.j2 x (y :: r) (!((decide (x=0) && decide ((y.toNat:Int) < 128)) || (decide (x=-1) && decide (128<=(y.toNat:Int))))):=by
 have G:Bm (y :: r) 0=some y:=rfl
 unfold Cr.l1
 by_cases h0:x=0
 ·have h1:¬ x=-1:=by omega
  by_cases c:(y.toNat:Int) < 128
  ·have c':¬ (128:Int)<=(y.toNat:Int):=by omega
   simp [h0,G,c,c']
  ·have c':(128:Int)<=(y.toNat:Int):=by omega
   simp [h0,G,c,c']
 ·by_cases h1:x=-1
  ·by_cases c:(y.toNat:Int) < 128
   ·have c':¬ (128:Int)<=(y.toNat:Int):=by omega
    simp [h1,G,c,c']
   ·have c':(128:Int)<=(y.toNat:Int):=by omega
    simp [h1,G,c,c']
  ·simp [h0,h1]
theorem oB (n:Int) (h1:-9223372036854775808<=n) (h2:n<=9223372036854775807):∀ d k,k + d=7->(∀ j,1<=j->j<=k->Hj n j=false)->Bz (fun q'=>Cr.l1 q'.1 q'.2) (n / 256 ^ (k + 1),(pG n 8).drop (7 - k))=some (Po n):=by
 intro d
 induction d with
 | zero=>
  intro k hk hn
  obtain rfl:k=7:=by omega
  have hf:=(sL n h1 h2 7 (by omega)).1 rfl
  rw [Fj]
  dsimp only
  rw [Wa n 7 (by omega),iW]
  have hs:=rQ n 7 (by omega) hn rfl
  have hc:((decide (n / 256 ^ (7 + 1)=0) && decide (((Fl n 7).toNat:Int) < 128)) || (decide (n / 256 ^ (7 + 1)=-1) && decide (128<=((Fl n 7).toNat:Int))))=true:=by simpa using hf
  rw [hc]
  show some (Ab.mk 2 (Fl n 7 :: (pG n 8).drop (8 - 7)) false [])=some (Po n)
  unfold Po
  rw [xW n h1 h2,hs,<- Wa n 7 (by omega)]
 | succ d ih=>
  intro k hk hn
  have FI:=sL n h1 h2 k (by omega)
  rw [Fj]
  dsimp only
  rw [Wa n k (by omega),iW]
  cases hf:Hj n (k + 1) with
  | true=>
   have hs:=rQ n k (by omega) hn hf
   have hc:((decide (n / 256 ^ (k + 1)=0) && decide (((Fl n k).toNat:Int) < 128)) || (decide (n / 256 ^ (k + 1)=-1) && decide (128<=((Fl n k).toNat:Int))))=true:=by simpa using FI.1 hf
   rw [hc]
   show some (Ab.mk 2 (Fl n k :: (pG n 8).drop (8 - k)) false [])=some (Po n)
   unfold Po
   rw [xW n h1 h2,hs,<- Wa n k (by omega),show 8 - (k + 1)=7 - k by omega]
  | false=>
   have hc:((decide (n / 256 ^ (k + 1)=0) && decide (((Fl n k).toNat:Int) < 128)) || (decide (n / 256 ^ (k + 1)=-1) && decide (128<=((Fl n k).toNat:Int))))=false:=by
    cases hq:((decide (n / 256 ^ (k + 1)=0) && decide (((Fl n k).toNat:Int) < 128)) || (decide (n / 256 ^ (k + 1)=-1) && decide (128<=((Fl n k).toNat:Int)))) with
    | false=>rfl
    | true=>
     have:=FI.2 (by simpa using hq)
     rw [hf] at this; cases this
   rw [hc]
   have e:=ih (k + 1) (by omega) fun j a b=>by
    rcases aZf k j with h | h
    ·obtain rfl:j=k + 1:=by omega
     exact hf
    ·exact hn j a h
   rw [Wa n (k + 1) (by omega),show 8 - (k + 1)=7 - k by omega,<- aEp] at e
   unfold Cr.j2
   rw [aR0,aEa,D1 (by simp [eC]; omega),aMh,<- Wa n k (by omega)]
   exact e
theorem Jk (n:Int) (h1:-9223372036854775808<=n) (h2:n<=9223372036854775807):Cr n=some (Po n):=by
 unfold Cr
 rw [aMh]
 have:=oB n h1 h2 7 0 (by omega) (fun j a b=>by omega)
 rw [show (pG n 8).drop (7 - 0)=[Fl n 0] by rw [be8]; rfl] at this
 rw [aAg,show u8 n=Fl n 0 by rw [<- aEy]; simp]
 exact this
theorem Ni (n:Int):(Po n).sz<=9:=by
 unfold Po
 rw [P7]
 have h:=rC (pG n 8)
 rw [eC] at h
 show (aC3 n).length + Th [] + 1<=9
 unfold aC3
 rw [Th]; omega
end
section
open Go
mutual
theorem uC:∀ v:Ab,v.sz < 67108864->v.put.length<=8 * v.sz
 | .mk t b n es,h=>by
  rw [Ab.sz] at h ⊢
  have h1:=aP es (by omega)
  rw [Ab.put]
  cases n
  ·have h2:=eF (n:=b.length) (by omega)
   simp; omega
  ·have h2:=eF (n:=(Gp es).length) (by omega)
   simp; omega
theorem aP:∀ es:List Ab,Th es < 67108864->(Gp es).length<=8 * Th es
 | [],_=>by simp [Gp]
 | v :: vs,h=>by
  rw [Th] at h ⊢
  have h1:=uC v (by omega)
  have h2:=aP vs (by omega)
  rw [Gp,aF3]; omega
end
theorem aCq (n k:Nat) (hk:0 < k):Vk (n:Int) (k:Int)=some ((n % k:Nat):Int):=by
 unfold Vk
 rw [if_neg (by omega),Int.tmod_eq_emod_of_nonneg (by omega)]; rfl
theorem aCx (n k:Nat) (hk:0 < k) (hn:n < 4611686018427387904):Pm (n:Int) (k:Int)=some ((n / k:Nat):Int):=by
 unfold Pm
 have:n / k<=n:=Nat.div_le_self n k
 rw [if_neg (by omega),Int.tdiv_eq_ediv_of_nonneg (by omega),show ((n:Int) / (k:Int))=((n / k:Nat):Int) from rfl,aQv (by omega)]
theorem pM (n:Nat):∀ (b:List UInt8),n < 281474976710656->Tw n + b.length<=1000->Bz (fun q'=>F3.l1 q'.1 q'.2) ((n:Int),b)=some (UInt8.ofNat (128 + (be n ++ b).length) :: (be n ++ b)):=by
 induction n using Nat.strongRecOn with
 | _ n ih=>
  intro b hn hb
  rcases aLq n with h0 | h0
  ·subst h0
   refine kX ?_
   show F3.l1 ((0:Nat):Int) b=_
   unfold F3.l1
   rw [aAw (by omega),aDb,Ej (by omega),D1 (by simp; omega),show (128:Int) + (b.length:Int)=((128 + b.length:Nat):Int) by omega,Vl,aHr]
   rfl
  ·have hc:=Ze h0
   have e:=ih (n / 256) (Nat.div_lt_self h0 (by omega)) ([UInt8.ofNat (n % 256)] ++ b) (Nat.lt_of_le_of_lt (Nat.div_le_self n 256) hn) (by simp; omega)
   refine (E0 (s':=(((n / 256:Nat):Int),[UInt8.ofNat (n % 256)] ++ b)) ?_).trans (e.trans ?_)
   ·show F3.l1 (n:Int) b=_
    unfold F3.l1
    rw [aA4 (by omega),aEa,show (256:Int)=((256:Nat):Int) from rfl,aCq n 256 (by omega),aAg,D1 (by simp; omega),aAg,aCx n 256 (by omega) (by omega),aAg,Vl]
   ·rw [aX h0]
    simp
theorem pX {n:Nat} (hn:n < 281474976710656):F3 (n:Int)=some (Wy n):=by
 unfold F3 Wy
 by_cases h:n < 128
 ·rw [aA4 (by omega),if_pos h,Vl]; rfl
 ·rw [aAw (by omega),if_neg h,aDb]
  have hc:=vT 6 n (by simpa using hn)
  refine (pM n [] hn (by simp; omega)).trans ?_
  rw [aVv]; rfl
theorem aO9 (n:Nat):Rn .i64 (n:Int) 8=some ((n / 256:Nat):Int):=by rw [aMh]; rfl
theorem kJ (b:List UInt8) (N:Int) (m:Nat):∀ c:Nat,m < 281474976710656->c + Tw m<=1000->
  Bz (fun q'=>Ed.l1 b N q'.1 q'.2) ((c:Int),(m:Int))=(Gy 1 b ([u8 (W (128 + ((c + Tw m:Nat):Int)))]:List UInt8)).bind fun l_2=>Bz (fun q'=>Ed.l2 N q'.1 q'.2) (W (((c + Tw m:Nat):Int) - 1),l_2):=by
 induction m using Nat.strongRecOn with
 | _ m ih=>
  intro c hm hc
  rcases aLq m with h0 | h0
  ·subst h0
   refine D4 ?_
   show Ed.l1 b N (c:Int) ((0:Nat):Int)=_
   unfold Ed.l1
   rw [aAw (by omega),aDb,xD]
   rfl
  ·have hq:=Ze h0
   have e:=ih (m / 256) (Nat.div_lt_self h0 (by omega)) (c + 1) (Nat.lt_of_le_of_lt (Nat.div_le_self m 256) hm) (by omega)
   refine (E0 (s':=(((c + 1:Nat):Int),((m / 256:Nat):Int))) ?_).trans (e.trans ?_)
   ·show Ed.l1 b N (c:Int) (m:Int)=_
    unfold Ed.l1
    rw [aA4 (by omega),aEa,aO9,aAg,Fo (by omega)]
   ·rw [show c + 1 + Tw (m / 256)=c + Tw m by omega]
theorem uV {b:List UInt8} {n:Nat} (hn:n < 281474976710656) (hb:b.length < 1073741824):Ed b (n:Int)=some (b ++ Wy n):=by
 unfold Ed Wy
 by_cases h:n < 128
 ·rw [aA4 (by omega),if_pos h,Vl,D1 (by simp; omega)]; rfl
 ·rw [aAw (by omega),if_neg h,aDb]
  have hc:=vT 6 n (by simpa using hn)
  have e:=kJ b (n:Int) n 0 hn (by omega)
  refine Eq.trans e ?_
  rw [aR3,Ej (by omega),show (128:Int) + ((Tw n:Nat):Int)=((128 + Tw n:Nat):Int) by omega,Vl,D1 (by simp; omega),aAg]
  have hp:0 < Tw n:=by rw [Ze (by omega)]; omega
  rw [Ej (by omega)]
  refine Eq.trans (congrArg (Bz _) ?_) (Gs (Tw n) (fun j=>(((Tw n:Int) - 1 - (j:Int)),b ++ [UInt8.ofNat (128 + Tw n)] ++ (be n).take j)) (b ++ UInt8.ofNat (128 + Tw n) :: be n) ?_ ?_)
  ·simp
  ·intro j hj
   have G:=aM2 (Tw n) n rfl j hj
   show Ed.l2 (n:Int) ((Tw n:Int) - 1 - (j:Int)) (b ++ [UInt8.ofNat (128 + Tw n)] ++ (be n).take j)=_
   unfold Ed.l2
   have ht:((be n).take j).length<=Tw n:=by rw [aJj]; exact aOt (Nat.min_le_right _ _) (aJf _)
   rw [aA4 (by omega),aEa,Ej (by omega),nT (8 * (Tw n - 1 - j)) (by omega) (by show _<=64; omega),aAg,D1 (by simp; omega),aAg,Ej (by omega),I9 G]
   have hu:u8 ((n:Int) / 2 ^ (8 * (Tw n - 1 - j)))=UInt8.ofNat (n / 256 ^ (Tw n - 1 - j) % 256):=by
    have e1:(n:Int) / 2 ^ (8 * (Tw n - 1 - j))=((n / 2 ^ (8 * (Tw n - 1 - j)):Nat):Int):=by simp
    rw [e1,Vl,Nat.pow_mul,show 2 ^ 8=256 from rfl]
    apply bAf.1
    rw [aXk,aXk]
    omega
   rw [hu,<- aTn]
   congr 3
   omega
  ·show Ed.l2 (n:Int) ((Tw n:Int) - 1 - ((Tw n:Nat):Int)) (b ++ [UInt8.ofNat (128 + Tw n)] ++ (be n).take (Tw n))=_
   unfold Ed.l2
   rw [aAw (by omega),show (be n).take (Tw n)=be n from aJ0 (aJf _)]
   simp [up]
end
section
open Go
theorem gR (v:Ab):v.put=UInt8.ofNat (v.Tag.toNat % 256) :: (Wy v.body.length ++ v.body):=by cases v; exact aNb _ _ _ _
theorem xH (v:Ab):v.body=if v.Nested then Gp v.Elements else v.Bytes:=by cases v; rfl
theorem xV (v:Ab) (h:v.sz < 67108864):v.body.length<=8 * v.sz:=by
 have h1:=uC v h
 rw [gR] at h1
 simp at h1
 omega
theorem eM {v:Ab} (h:v.formed=true):u8 v.Tag=UInt8.ofNat (v.Tag.toNat % 256):=by
 rw [N3] at h
 simp only [aF1] at h
 obtain⟨m,hm⟩:=iA (O7 h.1.1.1.1).1 (O7 h.1.1.1.1).2
 rw [hm,Vl,aMr,bAl m.2]
theorem uE {v:Ab} (h:v.formed=true):v.Bytes ++ Gp v.Elements=v.body:=by
 rw [N3] at h
 simp only [aF1] at h
 obtain⟨⟨⟨-,h1⟩,h2⟩,-⟩:=h
 rw [xH]
 cases hn:v.Nested with
 | true=>
  rw [hn] at h1
  have:v.Bytes=[]:=aG6 (by simp at h1; simpa using h1)
  rw [this]; rfl
 | false=>
  rw [hn] at h2
  have:v.Elements=[]:=aG6 (by simp at h2; simpa using h2)
  rw [this]; simp [Gp]
theorem wI {v e:Ab} (h:v.formed=true) (he:e∈v.Elements):e.formed=true:=by
 rw [N3] at h
 simp only [aF1] at h
 have:=h.2
 rw [Tt,aH8] at this
 exact this e he
def Fit (v:Ab):Prop:=v.formed=true/\v.sz < 67108864
theorem Fit.elem {v e:Ab} (h:Fit v) (he:e∈v.Elements):Fit e:=⟨wI h.1 he,Nat.lt_trans (Q1 he) h.2⟩
theorem Uq {v:Ab} (h:Fit v) (i:Nat):(Gp (v.Elements.take i)).length<=536870912:=by
 have h1:=gS (es:=v.Elements) i
 have h0:=P7 v
 have h2:=h.2
 have h3:=aP v.Elements (by omega)
 omega
theorem aAm (v:Ab) (h:Fit v):Eu v=some v.put:=
 Nv fH Ab.put Ab.sz Fit (fun rec v hv hr=>by
  show Eu.F rec v=some v.put
  unfold Eu.F
  have hn:=Qc v.Elements
  have h0:=P7 v
  have hz:=hv.2
  rw [D1 (by simp; omega),aSw,aAg]
  refine Eq.trans (congrArg (Bz _) ?_) (Gs v.Elements.length (fun i=>((i:Int),v.Bytes ++ Gp (v.Elements.take i))) v.put ?_ ?_)
  ·simp [Gp]
  ·intro i hi
   obtain⟨e,he⟩:∃ e,v.Elements[i]?=some e:=⟨_,aCv hi⟩
   have h1:=Q1 (Fr he)
   have h2:=Uq hv i
   have h3:=uC e (by omega)
   show Eu.l1 rec v (i:Int) (v.Bytes ++ Gp (v.Elements.take i))=_
   unfold Eu.l1
   rw [Dz he,hr e (hv.elem (Fr he)) h1,aAg,D1 (by simp; omega),Fo (by omega),Tg he,aTn]
   rfl
  ·show Eu.l1 rec v (v.Elements.length:Int) (v.Bytes ++ Gp (v.Elements.take v.Elements.length))=_
   have h4:=xV v hz
   have h5:=eF (n:=v.body.length) (by omega)
   unfold Eu.l1
   rw [Cy,aR2,uE hv.1,pX (by omega),aAg,D1 (by simp; omega),aAg,D1 (by simp; omega),aAg,eM hv.1,gR]
   simp [up]) v h
theorem bI {rec:Ab->Option (List UInt8)} {b:List UInt8} {v:Ab} (hr:rec v=some v.body) (hb:b.length<=536870912) (hv:Fit v):Iu rec b v=some (b ++ v.put):=by
 have h4:=xV v hv.2
 have hz:=hv.2
 have h5:=eF (n:=v.body.length) (by omega)
 unfold Iu
 rw [hr,aAg,D1 (by simp; omega),aAg,uV (by omega) (by simp; omega),aAg,D1 (by simp; omega),aAg,eM hv.1,gR]
 simp
theorem pH (v:Ab) (h:Fit v):Dd v=some v.body:=
 Nv Zh Ab.body Ab.sz Fit (fun rec v hv hr=>by
  show Dd.F rec v=some v.body
  unfold Dd.F
  have hn:=Qc v.Elements
  have h0:=P7 v
  have hz:=hv.2
  rw [xH]
  cases hN:v.Nested with
  | false=>rfl
  | true=>
   rw [aHl,aDb,if_pos rfl]
   refine Gs v.Elements.length (fun i=>((i:Int),Gp (v.Elements.take i))) (Gp v.Elements) ?_ ?_
   ·intro i hi
    obtain⟨e,he⟩:∃ e,v.Elements[i]?=some e:=⟨_,aCv hi⟩
    have h1:=Q1 (Fr he)
    have h2:=Uq hv i
    have hf:=hv.elem (Fr he)
    show Dd.l1 rec v (i:Int) (Gp (v.Elements.take i))=_
    unfold Dd.l1
    rw [Dz he,bI (hr e hf h1) h2 hf,Fo (by omega),Tg he]
    rfl
   ·show Dd.l1 rec v (v.Elements.length:Int) (Gp (v.Elements.take v.Elements.length))=_
    unfold Dd.l1
    rw [Cy,aR2]; rfl) v h
theorem dA (v:Ab) (h:Fit v):L7 v=some v.put:=by
 have e:=bI (rec:=Dd) (b:=[]) (pH v h) (by simp) h
 exact e
def qG (v:Ab):List UInt8×Int:=if v.formed then (if 16 < v.depth then ([],3) else if 4096 < v.put.length then ([],3) else (v.put,0)) else ([],1)
theorem Xl (v:Ab) (h:v.sz < 67108864):Jr v=some (qG v):=by
 unfold Jr qG
 rw [vW v (by omega),aAg]
 cases hf:v.formed with
 | false=>rfl
 | true=>
  rw [aHl,aDb,if_pos rfl,zL v (by omega),aAg]
  by_cases hd:16 < v.depth
  ·rw [aA4 (by omega),if_pos hd]; rfl
  ·rw [aAw (by omega),if_neg hd,aDb,dA v ⟨hf,h⟩,aAg]
   by_cases hl:4096 < v.put.length
   ·rw [aA4 (by omega),if_pos hl]; rfl
   ·rw [aAw (by omega),if_neg hl]; rfl
theorem Zo (v:Ab) (h:v.sz < 67108864):H4 v=some (qG v):=by
 unfold H4 qG
 rw [oL v (by omega),aAg]
 cases hf:v.formed with
 | false=>rfl
 | true=>
  rw [aHl,aDb,if_pos rfl,qO v (by omega),aAg]
  by_cases hd:16 < v.depth
  ·rw [aA4 (by omega),if_pos hd]; rfl
  ·rw [aAw (by omega),if_neg hd,aDb,aAm v ⟨hf,h⟩,aAg]
   by_cases hl:4096 < v.put.length
   ·rw [aA4 (by omega),if_pos hl]; rfl
   ·rw [aAw (by omega),if_neg hl]; rfl
end
end Go.Proofs.YtobamahlipiakaaGreat
