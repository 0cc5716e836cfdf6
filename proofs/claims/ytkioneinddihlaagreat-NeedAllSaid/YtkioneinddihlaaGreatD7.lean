/- Plain texts, joined. No program is in sight here. -/
import Derived.Test.YtkioneinddihlaaGreatP1
import Derived.WalkKit
import Derived.Test.YtkioneinddihlaaGreatL3
import Derived.Test.YtkioneinddihlaaGreatC1
set_option linter.unusedVariables false
set_option linter.unusedSimpArgs false
namespace Go.Proofs.YtkioneinddihlaaGreat
section
open Go
def kJ (t:Int):Bool:=decide (1<=t) && decide (t<=255) && (t % 32 != 31)
def mG (t:Int):Bool:=t / 32 % 2 == 1
mutual
def Ai.formed:Ai->Bool
 | .mk t b n es=>kJ t && (n == mG t) && !(n && decide (0 < b.length)) && !(!n && decide (0 < es.length)) && Le es
def Le:List Ai->Bool
 | []=>true
 | v :: vs=>v.formed && Le vs
end
theorem Qe:∀ es:List Ai,Le es=es.all Ai.formed
 | []=>by simp [Le]
 | v :: vs=>by rw [Le,Qe vs,List.all_cons]
mutual
def Ai.depth:Ai->Nat
 | .mk _ _ _ es=>Gu es + 1
def Gu:List Ai->Nat
 | []=>0
 | v :: vs=>max v.depth (Gu vs)
end
theorem Qq:∀ a b:List Ai,Gu (a ++ b)=max (Gu a) (Gu b)
 | [],b=>by simp [Gu]
 | v :: vs,b=>by rw [aOp,Gu,Gu,Qq vs b,Nat.max_assoc]
theorem Tp {es:List Ai} {k:Nat} {d:Ai} (h:es[k]?=some d):Gu (es.take (k + 1))=max (Gu (es.take k)) d.depth:=by
 obtain⟨hk,e⟩:=aDw.1 h
 rw [aO7 hk,Qq,e,Gu,Gu,Nat.max_zero]
mutual
def Ai.same:Ai->Ai->Bool
 | .mk t b n es,.mk t' b' n' es'=>t == t' && n == n' && b == b' && mI es es'
def mI:List Ai->List Ai->Bool
 | [],[]=>true
 | v :: vs,u :: us=>v.same u && mI vs us
 | _,_=>false
end
def Js:List UInt8->List UInt8
 | x :: y :: r=>if (x=0/\y < 128)\/(x=255/\128<=y) then Js (y :: r) else x :: y :: r
 | l=>l
def oY (n:Int) (k:Nat):List UInt8:=(List.range k).map fun j=>UInt8.ofNat ((IntKind.u64.wrap n).toNat / 2 ^ (56 - 8 * j) % 256)
def qT (n:Int):List UInt8:=Js (oY n 8)
def Rh (n:Int):Ai:=.mk 2 (qT n) false []
theorem eC (n:Int):0<=IntKind.u64.wrap n/\IntKind.u64.wrap n < 18446744073709551616:=by
 rw [IntKind.wrap_u64]; omega
theorem gR:∀ l:List UInt8,(Js l).length<=l.length
 | []=>by simp [Js]
 | [_]=>by simp [Js]
 | x :: y :: r=>by
  rw [Js]
  split
  ·have:=gR (y :: r); simp at this ⊢; omega
  ·simp
def Gb (n:Int):Nat->Bool
 | 1=>decide (-128<=n/\n < 128)
 | 2=>decide (-32768<=n/\n < 32768)
 | 3=>decide (-8388608<=n/\n < 8388608)
 | 4=>decide (-2147483648<=n/\n < 2147483648)
 | 5=>decide (-549755813888<=n/\n < 549755813888)
 | 6=>decide (-140737488355328<=n/\n < 140737488355328)
 | 7=>decide (-36028797018963968<=n/\n < 36028797018963968)
 | 8=>true
 | _=>false
def Rb (n:Int):Nat:=if Gb n 1 then 1 else if Gb n 2 then 2 else if Gb n 3 then 3 else if Gb n 4 then 4 else if Gb n 5 then 5 else if Gb n 6 then 6 else if Gb n 7 then 7 else 8
def Ee (n:Int) (j:Nat):UInt8:=UInt8.ofNat ((n / 256 ^ j % 256).toNat)
theorem E1 (n:Int) (j:Nat):((Ee n j).toNat:Int)=n / 256 ^ j % 256:=by
 unfold Ee
 have h:0<=n / 256 ^ j % 256/\n / 256 ^ j % 256 < 256:=by omega
 rw [aPq,aLg (by omega)]
 omega
theorem dP (n:Int) (j:Nat) (hj:j<=7):(IntKind.u64.wrap n) / 2 ^ (8 * j) % 256=n / 256 ^ j % 256:=by
 rw [IntKind.wrap_u64]
 match j,hj with
 | 0,_=>simp
 | 1,_=>simp; omega
 | 2,_=>simp; omega
 | 3,_=>simp; omega
 | 4,_=>simp; omega
 | 5,_=>simp; omega
 | 6,_=>simp; omega
 | 7,_=>simp; omega
theorem be8 (n:Int):oY n 8=[Ee n 7,Ee n 6,Ee n 5,Ee n 4,Ee n 3,Ee n 2,Ee n 1,Ee n 0]:=by
 have key:∀ j,j<=7->UInt8.ofNat ((IntKind.u64.wrap n).toNat / 2 ^ (8 * j) % 256)=Ee n j:=by
  intro j hj
  have h:=eC n
  have h2:=dP n j hj
  unfold Ee
  rw [<- h2]
  obtain⟨m,hm⟩:=Int.eq_ofNat_of_zero_le h.1
  rw [hm]
  congr 1
 have h:=fun j hj=>key j hj
 unfold oY
 simp only [List.range,List.range.loop,aLx,List.map_nil]
 rw [<- h 7 (by omega),<- h 6 (by omega),<- h 5 (by omega),<- h 4 (by omega),<- h 3 (by omega),<- h 2 (by omega),<- h 1 (by omega),<- h 0 (by omega)]
theorem Nt {x y:UInt8} {r:List UInt8} {c:Bool} (h:(((x.toNat:Int)=0/\(y.toNat:Int) < 128)\/((x.toNat:Int)=255/\(128:Int)<=y.toNat))↔c=true):Js (x :: y :: r)=if c then Js (y :: r) else x :: y :: r:=by
 have h1:((x=0/\y < 128)\/(x=255/\128<=y))↔(((x.toNat:Int)=0/\(y.toNat:Int) < 128)\/((x.toNat:Int)=255/\(128:Int)<=y.toNat)):=by
  have e0:x=0↔(x.toNat:Int)=0:=⟨fun e=>by rw [e]; rfl,fun e=>UInt8.toNat.inj (by simp; omega)⟩
  have e1:x=255↔(x.toNat:Int)=255:=⟨fun e=>by rw [e]; rfl,fun e=>UInt8.toNat.inj (by simp; omega)⟩
  have e2:y < 128↔(y.toNat:Int) < 128:=by rw [UInt8.lt_iff_toNat_lt]; simp; omega
  have e3:128<=y↔(128:Int)<=y.toNat:=by rw [UInt8.le_iff_toNat_le]; simp; omega
  rw [e0,e1,e2,e3]
 rw [Js]
 by_cases hc:c=true
 ·rw [if_pos (h1.2 (h.2 hc)),if_pos hc]
 ·rw [if_neg (fun g=>hc (h.1 (h1.1 g))),if_neg hc]
theorem rU (n:Int) (_h1:-9223372036854775808<=n) (_h2:n<=9223372036854775807) (r:List UInt8):Js (Ee n 7 :: Ee n 6 :: r)=if Gb n 7 then Js (Ee n 6 :: r) else Ee n 7 :: Ee n 6 :: r:=by
 refine Nt ?_
 rw [E1,E1]; unfold Gb; simp; omega
theorem tD (n:Int) (h:Gb n 7=true) (r:List UInt8):Js (Ee n 6 :: Ee n 5 :: r)=if Gb n 6 then Js (Ee n 5 :: r) else Ee n 6 :: Ee n 5 :: r:=by
 unfold Gb at h; simp at h
 refine Nt ?_
 rw [E1,E1]; unfold Gb; simp; omega
theorem uY (n:Int) (h:Gb n 6=true) (r:List UInt8):Js (Ee n 5 :: Ee n 4 :: r)=if Gb n 5 then Js (Ee n 4 :: r) else Ee n 5 :: Ee n 4 :: r:=by
 unfold Gb at h; simp at h
 refine Nt ?_
 rw [E1,E1]; unfold Gb; simp; omega
theorem qM (n:Int) (h:Gb n 5=true) (r:List UInt8):Js (Ee n 4 :: Ee n 3 :: r)=if Gb n 4 then Js (Ee n 3 :: r) else Ee n 4 :: Ee n 3 :: r:=by
 unfold Gb at h; simp at h
 refine Nt ?_
 rw [E1,E1]; unfold Gb; simp; omega
theorem tT (n:Int) (h:Gb n 4=true) (r:List UInt8):Js (Ee n 3 :: Ee n 2 :: r)=if Gb n 3 then Js (Ee n 2 :: r) else Ee n 3 :: Ee n 2 :: r:=by
 unfold Gb at h; simp at h
 refine Nt ?_
 rw [E1,E1]; unfold Gb; simp; omega
theorem uX (n:Int) (h:Gb n 3=true) (r:List UInt8):Js (Ee n 2 :: Ee n 1 :: r)=if Gb n 2 then Js (Ee n 1 :: r) else Ee n 2 :: Ee n 1 :: r:=by
 unfold Gb at h; simp at h
 refine Nt ?_
 rw [E1,E1]; unfold Gb; simp; omega
theorem sO (n:Int) (h:Gb n 2=true) (r:List UInt8):Js (Ee n 1 :: Ee n 0 :: r)=if Gb n 1 then Js (Ee n 0 :: r) else Ee n 1 :: Ee n 0 :: r:=by
 unfold Gb at h; simp at h
 refine Nt ?_
 rw [E1,E1]; unfold Gb; simp; omega
theorem E8 {n:Int} {j:Nat} (hj:1<=j) (h7:j<=6) (h:¬ Gb n (j + 1)=true):¬ Gb n j=true:=by
 match j,hj,h7 with
 | 1,_,_=>unfold Gb at *; simp at *; omega
 | 2,_,_=>unfold Gb at *; simp at *; omega
 | 3,_,_=>unfold Gb at *; simp at *; omega
 | 4,_,_=>unfold Gb at *; simp at *; omega
 | 5,_,_=>unfold Gb at *; simp at *; omega
 | 6,_,_=>unfold Gb at *; simp at *; omega
theorem lP (n:Int) (h1:-9223372036854775808<=n) (h2:n<=9223372036854775807):qT n=(oY n 8).drop (8 - Rb n):=by
 unfold qT
 rw [be8]
 by_cases f7:Gb n 7=true
 ·rw [rU n h1 h2,if_pos f7]
  by_cases f6:Gb n 6=true
  ·rw [tD n f7,if_pos f6]
   by_cases f5:Gb n 5=true
   ·rw [uY n f6,if_pos f5]
    by_cases f4:Gb n 4=true
    ·rw [qM n f5,if_pos f4]
     by_cases f3:Gb n 3=true
     ·rw [tT n f4,if_pos f3]
      by_cases f2:Gb n 2=true
      ·rw [uX n f3,if_pos f2]
       by_cases f1:Gb n 1=true
       ·rw [sO n f2,if_pos f1]
        rw [Js]
        ·simp [Rb,f1]
        ·intro x y r h; cases h
       ·rw [sO n f2,if_neg f1]
        simp [Rb,f1,f2]
      ·rw [uX n f3,if_neg f2]
       have f1:=E8 (j:=1) (by omega) (by omega) f2
       simp [Rb,f1,f2,f3]
     ·rw [tT n f4,if_neg f3]
      have f2:=E8 (j:=2) (by omega) (by omega) f3
      have f1:=E8 (j:=1) (by omega) (by omega) f2
      simp [Rb,f1,f2,f3,f4]
    ·rw [qM n f5,if_neg f4]
     have f3:=E8 (j:=3) (by omega) (by omega) f4
     have f2:=E8 (j:=2) (by omega) (by omega) f3
     have f1:=E8 (j:=1) (by omega) (by omega) f2
     simp [Rb,f1,f2,f3,f4,f5]
   ·rw [uY n f6,if_neg f5]
    have f4:=E8 (j:=4) (by omega) (by omega) f5
    have f3:=E8 (j:=3) (by omega) (by omega) f4
    have f2:=E8 (j:=2) (by omega) (by omega) f3
    have f1:=E8 (j:=1) (by omega) (by omega) f2
    simp [Rb,f1,f2,f3,f4,f5,f6]
  ·rw [tD n f7,if_neg f6]
   have f5:=E8 (j:=5) (by omega) (by omega) f6
   have f4:=E8 (j:=4) (by omega) (by omega) f5
   have f3:=E8 (j:=3) (by omega) (by omega) f4
   have f2:=E8 (j:=2) (by omega) (by omega) f3
   have f1:=E8 (j:=1) (by omega) (by omega) f2
   simp [Rb,f1,f2,f3,f4,f5,f6,f7]
 ·rw [rU n h1 h2,if_neg f7]
  have f6:=E8 (j:=6) (by omega) (by omega) f7
  have f5:=E8 (j:=5) (by omega) (by omega) f6
  have f4:=E8 (j:=4) (by omega) (by omega) f5
  have f3:=E8 (j:=3) (by omega) (by omega) f4
  have f2:=E8 (j:=2) (by omega) (by omega) f3
  have f1:=E8 (j:=1) (by omega) (by omega) f2
  simp [Rb,f1,f2,f3,f4,f5,f6,f7]
theorem hO (n:Int) (h1:-9223372036854775808<=n) (h2:n<=9223372036854775807) (k:Nat) (hk:k<=7) :
  Gb n (k + 1)=true↔(n / 256 ^ (k + 1)=0/\((Ee n k).toNat:Int) < 128)\/(n / 256 ^ (k + 1)=-1/\(128:Int)<=(Ee n k).toNat):=by
 match k,hk with
 | 0,_=>rw [E1]; unfold Gb; simp; omega
 | 1,_=>rw [E1]; unfold Gb; simp; omega
 | 2,_=>rw [E1]; unfold Gb; simp; omega
 | 3,_=>rw [E1]; unfold Gb; simp; omega
 | 4,_=>rw [E1]; unfold Gb; simp; omega
 | 5,_=>rw [E1]; unfold Gb; simp; omega
 | 6,_=>rw [E1]; unfold Gb; simp; omega
 | 7,_=>rw [E1]; unfold Gb; simp; omega
theorem So (n:Int) (k:Nat) (hk:k<=7):(oY n 8).drop (7 - k)=Ee n k :: (oY n 8).drop (8 - k):=by
 rw [be8]
 match k,hk with
 | 0,_=>rfl
 | 1,_=>rfl
 | 2,_=>rfl
 | 3,_=>rfl
 | 4,_=>rfl
 | 5,_=>rfl
 | 6,_=>rfl
 | 7,_=>rfl
theorem gC (n:Int) (k:Nat) (hk:k<=7) (hn:∀ j,1<=j->j<=k->Gb n j=false) (hf:Gb n (k + 1)=true):Rb n=k + 1:=by
 have g:=fun j (h1:1<=j) (h2:j<=k)=>hn j h1 h2
 unfold Rb
 match k,hk,hf,g with
 | 0,_,hf,_=>simp [hf]
 | 1,_,hf,g=>simp [hf,g 1 (by omega) (by omega)]
 | 2,_,hf,g=>simp [hf,g 1 (by omega) (by omega),g 2 (by omega) (by omega)]
 | 3,_,hf,g=>simp [hf,g 1 (by omega) (by omega),g 2 (by omega) (by omega),g 3 (by omega) (by omega)]
 | 4,_,hf,g=>simp [hf,g 1 (by omega) (by omega),g 2 (by omega) (by omega),g 3 (by omega) (by omega),g 4 (by omega) (by omega)]
 | 5,_,hf,g=>simp [hf,g 1 (by omega) (by omega),g 2 (by omega) (by omega),g 3 (by omega) (by omega),g 4 (by omega) (by omega),g 5 (by omega) (by omega)]
 | 6,_,hf,g=>simp [hf,g 1 (by omega) (by omega),g 2 (by omega) (by omega),g 3 (by omega) (by omega),g 4 (by omega) (by omega),g 5 (by omega) (by omega),g 6 (by omega) (by omega)]
 | 7,_,_,g=>simp [g 1 (by omega) (by omega),g 2 (by omega) (by omega),g 3 (by omega) (by omega),g 4 (by omega) (by omega),g 5 (by omega) (by omega),g 6 (by omega) (by omega),g 7 (by omega) (by omega)]
theorem sY (n:Int) (k:Nat):n / 256 ^ (k + 1) / 256=n / 256 ^ (k + 1 + 1):=by
 rw [Int.pow_succ 256 (k + 1)]
 have h:(0:Int)<=256 ^ (k + 1):=Int.pow_nonneg (by omega)
 first | exact Int.ediv_ediv_of_nonneg h | exact Int.ediv_ediv_eq_ediv_mul _ h | (rw [Int.ediv_ediv,if_neg (by omega)]; simp)
def be (n:Nat):List UInt8:=if h:n=0 then [] else be (n / 256) ++ [UInt8.ofNat (n % 256)]
termination_by n
decreasing_by omega
theorem aHt:be 0=[]:=by rw [be]; rfl
theorem tJ {n:Nat} (h:0 < n):be n=be (n / 256) ++ [UInt8.ofNat (n % 256)]:=by rw [be]; rw [dif_neg (by omega)]
def zI (n:Nat):Nat:=(be n).length
theorem zU:zI 0=0:=by unfold zI; rw [aHt]; rfl
theorem mF {n:Nat} (h:0 < n):zI n=zI (n / 256) + 1:=by unfold zI; rw [tJ h]; simp
theorem qJ (k:Nat):∀ n,n < 256 ^ k->zI n<=k:=by
 induction k with
 | zero=>
  intro n h
  have:n=0:=by simpa using h
  subst this
  rw [zU]
  omega
 | succ k ih=>
  intro n h
  rcases aH2 n with h0 | h0
  ·subst h0; rw [zU]; omega
  ·rw [mF h0]
   have:=ih (n / 256) (by rw [Nat.pow_succ] at h; exact Nat.div_lt_of_lt_mul (by rw [aOt]; exact h))
   omega
def jQ (n:Nat):List UInt8:=if n < 128 then [UInt8.ofNat n] else UInt8.ofNat (128 + zI n) :: be n
mutual
def Ai.put:Ai->List UInt8
 | .mk t b n es=>UInt8.ofNat (t.toNat % 256) :: (jQ ((if n then Gz es else b).length) ++ (if n then Gz es else b))
def Gz:List Ai->List UInt8
 | []=>[]
 | v :: vs=>v.put ++ Gz vs
end
def Ai.body:Ai->List UInt8 | .mk _ b n es=>if n then Gz es else b
theorem aC6 (t:Int) (b:List UInt8) (n:Bool) (es:List Ai):(Ai.mk t b n es).put=UInt8.ofNat (t.toNat % 256) :: (jQ (Ai.mk t b n es).body.length ++ (Ai.mk t b n es).body):=by rw [Ai.put]; rfl
theorem O6:∀ a b:List Ai,Gz (a ++ b)=Gz a ++ Gz b
 | [],b=>by simp [Gz]
 | v :: vs,b=>by rw [aOp,Gz,Gz,O6 vs b,aJb]
theorem Vp {es:List Ai} {k:Nat} {d:Ai} (h:es[k]?=some d):Gz (es.take (k + 1))=Gz (es.take k) ++ d.put:=by
 obtain⟨hk,e⟩:=aDw.1 h
 rw [aO7 hk,O6,e]
 simp [Gz]
theorem Zi {es:List Ai} (k:Nat):(Gz (es.take k)).length<=(Gz es).length:=by
 have:=O6 (es.take k) (es.drop k)
 rw [aNv] at this
 rw [this,aEq]; omega
theorem eT {n:Nat} (h:n < 256 ^ 6):(jQ n).length<=7:=by
 unfold jQ
 split
 ·simp
 ·have:=qJ 6 n h
  unfold zI at this
  simp; omega
end
section
open Go
mutual
def Ai.sz:Ai->Nat
 | .mk _ b _ es=>b.length + Tu es + 1
def Tu:List Ai->Nat
 | []=>0
 | v :: vs=>v.sz + Tu vs
end
theorem Qt (v:Ai):v.sz=v.Bytes.length + Tu v.Elements + 1:=by cases v; rw [Ai.sz]
theorem dI:∀ {es:List Ai} {d:Ai},d∈es->d.sz<=Tu es
 | v :: vs,d,h=>by
  rw [Tu]
  rcases aE7.1 h with rfl | h
  ·omega
  ·have:=dI h; omega
theorem U2:∀ es:List Ai,es.length<=Tu es
 | []=>aHy _
 | v :: vs=>by
  have:=U2 vs
  rw [Tu,aIx,Qt]; omega
theorem Ut {v d:Ai} (h:d∈v.Elements):d.sz < v.sz:=by
 have:=dI h
 rw [Qt v]; omega
theorem dS (l:List Ai) (h:Tu l < 1073741824):C9 l=some l:=
 Sh T3 id Tu (fun l=>Tu l < 1073741824) (fun rec l hl hr=>by
  show C9.F rec l=some l
  unfold C9.F
  have hn:=U2 l
  refine (Pn l.length (fun i=>((i:Int),l.take i)) l ?_ ?_).trans ?_
  ·intro i hi
   obtain⟨e,he⟩:∃ e,l[i]?=some e:=⟨_,aAy hi⟩
   have h1:=dI (Eg he)
   have h2:=Qt e
   show C9.l1 rec l (i:Int) (l.take i)=_
   unfold C9.l1
   rw [H3 he,Fv (by simp; omega)]
   simp only [aOl,aAc]
   rw [hr e.Elements (by omega) (by omega)]
   simp only [id,aAc]
   rw [Fv (by simp; omega),Ia (by omega),Hf he]
   cases e; rfl
  ·show C9.l1 rec l (l.length:Int) (l.take l.length)=_
   unfold C9.l1
   rw [Fz,aKf]; rfl
  ·rfl) l h
theorem Tr (l:List Ai) (h:Tu l < 1073741824):Ii l=some (.mk 48 [] true l):=by unfold Ii; rw [dS l h]; rfl
theorem kI {n:Int} (h1:1<=n) (h2:n<=255):∃ m:Fin 256,n=(m.val:Int):=⟨⟨n.toNat,by omega⟩,by simp; omega⟩
theorem pZ:∀ m:Fin 256,(!decide ((m.val:Int).tmod 32=31))=((m.val:Int) % 32 != 31):=by decide +kernel
theorem oG:∀ m:Fin 256,((Ml (m.val:Int) 32).bind fun q=>(V2 q 2).bind fun r=>some (decide (r=1)))=some (mG (m.val:Int)):=by decide +kernel
theorem pU (n:Int):Mr n=some (kJ n):=by
 unfold Mr kJ
 by_cases h1:1<=n
 ·by_cases h2:n<=255
  ·obtain⟨m,rfl⟩:=kI h1 h2
   rw [<- pZ m,aAg h1,aAg h2]; rfl
  ·simp [h1,h2]
 ·simp [h1]
theorem Qk {n:Int} (h:kJ n=true):1<=n/\n<=255:=by
 unfold kJ at h
 simp only [aEs,aKi] at h
 exact⟨h.1.1,h.1.2⟩
theorem Sc (v:Ai):v.formed=(kJ v.Tag && (v.Nested == mG v.Tag) && !(v.Nested && decide (0 < v.Bytes.length)) && !(!v.Nested && decide (0 < v.Elements.length)) && Le v.Elements):=by cases v; rw [Ai.formed]
theorem hY (l:List Ai):(!l.any fun v=>!v.formed)=Le l:=by
 rw [Qe]
 induction l with
 | nil=>rfl
 | cons v l ih=>rw [aOh,List.all_cons,<- ih]; cases v.formed <;> simp
theorem dT (v:Ai) (h:v.sz < 1073741824):B0 v=some v.formed:=
 Sh T9 Ai.formed Ai.sz (fun v=>v.sz < 1073741824) (fun rec v hv hr=>by
  show B0.F rec v=some v.formed
  have hn:=U2 v.Elements
  have h0:=Qt v
  have hj1:B0.j1 rec v true=some false:=rfl
  have hj2:B0.j1 rec v false=some (Le v.Elements):=by
   unfold B0.j1
   have hl:=Pu (body:=fun q'=>B0.l2 rec v q') v.Elements (fun i=>(i:Int)) (fun v=>!v.formed) false true (fun i x hx=>by
     have h1:=Ut (Eg hx)
     have h2:=I9 hx
     unfold B0.l2
     rw [H3 hx,hr x (by omega) h1,Ia (by omega)]
     cases x.formed <;> rfl) (by unfold B0.l2; rw [Fz]; rfl)
   rw [aD6]
   refine Eq.trans hl ?_
   rw [<- hY]
   cases v.Elements.any fun v=>!v.formed <;> rfl
  unfold B0.F
  rw [pU,hj1,hj2,Sc]
  cases ht:kJ v.Tag
  ·rfl
  ·obtain⟨m,hm⟩:=kI (Qk ht).1 (Qk ht).2
   have hq:=oG m
   rw [hm]
   cases h1:Ml (m.val:Int) 32 with
   | none=>rw [h1] at hq; cases hq
   | some q=>
    rw [h1] at hq
    simp only [aAc] at hq
    cases h2:V2 q 2 with
    | none=>rw [h2] at hq; cases hq
    | some r=>
     rw [h2] at hq
     simp only [aAc,Option.some.injEq] at hq
     simp only [aAc,h2,hq]
     cases v.Nested <;> cases mG (m.val:Int) <;> by_cases hb:0 < v.Bytes.length <;> by_cases he:0 < v.Elements.length <;> simp [hb,he,hj1,hj2]) v h
theorem R3:∀ es:List Ai,Gu es<=Tu es
 | []=>aHy _
 | v :: vs=>by
  obtain⟨t,b,n,es⟩:=v
  have h1:=R3 es
  have h2:=R3 vs
  rw [Gu,Tu,Ai.depth,Ai.sz]; omega
theorem rS (v:Ai):v.depth<=v.sz:=by
 obtain⟨t,b,n,es⟩:=v
 have:=R3 es
 rw [Ai.depth,Ai.sz]; omega
theorem uK (v:Ai):v.depth=Gu v.Elements + 1:=by cases v; rw [Ai.depth]
theorem gM (v:Ai) (h:v.sz < 1073741824):Dh v=some (v.depth:Int):=
 Sh Wh (fun v=>(v.depth:Int)) Ai.sz (fun v=>v.sz < 1073741824) (fun rec v hv hr=>by
  show Dh.F rec v=some (v.depth:Int)
  unfold Dh.F
  have hn:=U2 v.Elements
  have h0:=Qt v
  have hd:=rS v
  have hq:=uK v
  refine (Pn v.Elements.length (fun i=>((Gu (v.Elements.take i):Int),(i:Int))) (v.depth:Int) ?_ ?_).trans ?_
  ·intro i hi
   obtain⟨e,he⟩:∃ e,v.Elements[i]?=some e:=⟨_,aAy hi⟩
   have h1:=Ut (Eg he)
   show Dh.l1 rec v (Gu (v.Elements.take i):Int) (i:Int)=_
   unfold Dh.l1
   rw [H3 he,hr e (by omega) h1,Ia (by omega),Tp he]
   simp only [aAc]
   congr 3
   omega
  ·show Dh.l1 rec v (Gu (v.Elements.take v.Elements.length):Int) (v.Elements.length:Int)=_
   unfold Dh.l1
   rw [Fz,aKf,Db (by omega),hq]; rfl
  ·rfl) v h
end
section
open Go
theorem dF (m:Nat):u8 (m:Int)=UInt8.ofNat m:=by
 apply UInt8.toNat_inj.1
 have:=iD (m:Int)
 rw [aPq]
 omega
theorem rN (n:Int) (k:Nat):u8 (n / 256 ^ k)=Ee n k:=rfl
theorem wP {k:IntKind} {x y:Int} (e:Nat) (hy:y=(e:Int)) (he:e<=k.bits):S0 k x y=some (x / 2 ^ e):=by
 subst hy
 unfold S0
 rw [if_neg (by omega),aIm,aPc he,aPi]
 exact Int.pow_nonneg (by omega)
theorem aFp {x:Int}:S0 .i64 x 8=some (x / 256):=wP (k:=.i64) 8 rfl (by decide)
theorem nM (n:Int) (k:Nat):(oY n k).length=k:=by unfold oY; simp
theorem Yd (x:Int) (y:UInt8) (r:List UInt8):Cz.l1 x (y :: r)=Cz.j2 x (y :: r) (!((decide (x=0) && decide ((y.toNat:Int) < 128)) || (decide (x=-1) && decide (128<=(y.toNat:Int))))):=by
 have G:Bo (y :: r) 0=some y:=rfl
 unfold Cz.l1
 by_cases h0:x=0
 ·have h1:¬ x=-1:=by omega
  by_cases c:(y.toNat:Int) < 128
  ·have c':¬ (128:Int)<=(y.toNat:Int):=by omega
   simp [h0,G,c,c']
  ·have c':(128:Int)<=(y.toNat:Int):=by omega
   simp [h0,G,c,c']
 ·by_cases h1:x=-1
  ·by_cases c:(y.toNat:Int) < 128
   ·have c':¬ (128:Int)<=(y.toNat:Int):=by omega
    simp [h1,G,c,c']
   ·have c':(128:Int)<=(y.toNat:Int):=by omega
    simp [h1,G,c,c']
  ·simp [h0,h1]
theorem eW (n:Int) (h1:-9223372036854775808<=n) (h2:n<=9223372036854775807):∀ d k,k + d=7->(∀ j,1<=j->j<=k->Gb n j=false)->B1 (fun q'=>Cz.l1 q'.1 q'.2) (n / 256 ^ (k + 1),(oY n 8).drop (7 - k))=some (Rh n):=by
 intro d
 induction d with
 | zero=>
  intro k hk hn
  obtain rfl:k=7:=by omega
  have hf:=(hO n h1 h2 7 (by omega)).1 rfl
  rw [Hp]
  dsimp only
  rw [So n 7 (by omega),Yd]
  have hs:=gC n 7 (by omega) hn rfl
  have hc:((decide (n / 256 ^ (7 + 1)=0) && decide (((Ee n 7).toNat:Int) < 128)) || (decide (n / 256 ^ (7 + 1)=-1) && decide (128<=((Ee n 7).toNat:Int))))=true:=by simpa using hf
  rw [hc]
  show some (Ai.mk 2 (Ee n 7 :: (oY n 8).drop (8 - 7)) false [])=some (Rh n)
  unfold Rh
  rw [lP n h1 h2,hs,<- So n 7 (by omega)]
 | succ d ih=>
  intro k hk hn
  have FI:=hO n h1 h2 k (by omega)
  rw [Hp]
  dsimp only
  rw [So n k (by omega),Yd]
  cases hf:Gb n (k + 1) with
  | true=>
   have hs:=gC n k (by omega) hn hf
   have hc:((decide (n / 256 ^ (k + 1)=0) && decide (((Ee n k).toNat:Int) < 128)) || (decide (n / 256 ^ (k + 1)=-1) && decide (128<=((Ee n k).toNat:Int))))=true:=by simpa using FI.1 hf
   rw [hc]
   show some (Ai.mk 2 (Ee n k :: (oY n 8).drop (8 - k)) false [])=some (Rh n)
   unfold Rh
   rw [lP n h1 h2,hs,<- So n k (by omega),show 8 - (k + 1)=7 - k by omega]
  | false=>
   have hc:((decide (n / 256 ^ (k + 1)=0) && decide (((Ee n k).toNat:Int) < 128)) || (decide (n / 256 ^ (k + 1)=-1) && decide (128<=((Ee n k).toNat:Int))))=false:=by
    cases hq:((decide (n / 256 ^ (k + 1)=0) && decide (((Ee n k).toNat:Int) < 128)) || (decide (n / 256 ^ (k + 1)=-1) && decide (128<=((Ee n k).toNat:Int)))) with
    | false=>rfl
    | true=>
     have:=FI.2 (by simpa using hq)
     rw [hf] at this; cases this
   rw [hc]
   have e:=ih (k + 1) (by omega) fun j a b=>by
    rcases aL2 k j with h | h
    ·obtain rfl:j=k + 1:=by omega
     exact hf
    ·exact hn j a h
   rw [So n (k + 1) (by omega),show 8 - (k + 1)=7 - k by omega,<- sY] at e
   unfold Cz.j2
   rw [aJf,aEw,Fv (by simp [nM]; omega),aFp,<- So n k (by omega)]
   exact e
theorem Me (n:Int) (h1:-9223372036854775808<=n) (h2:n<=9223372036854775807):Cz n=some (Rh n):=by
 unfold Cz
 rw [aFp]
 have:=eW n h1 h2 7 0 (by omega) (fun j a b=>by omega)
 rw [show (oY n 8).drop (7 - 0)=[Ee n 0] by rw [be8]; rfl] at this
 rw [aAc,show u8 n=Ee n 0 by rw [<- rN]; simp]
 exact this
theorem P9 (n:Int):(Rh n).sz<=9:=by
 unfold Rh
 rw [Qt]
 have h:=gR (oY n 8)
 rw [nM] at h
 show (qT n).length + Tu [] + 1<=9
 unfold qT
 rw [Tu]; omega
end
section
open Go
mutual
theorem jS:∀ v:Ai,v.sz < 67108864->v.put.length<=8 * v.sz
 | .mk t b n es,h=>by
  rw [Ai.sz] at h ⊢
  have h1:=Vi es (by omega)
  rw [Ai.put]
  cases n
  ·have h2:=eT (n:=b.length) (by omega)
   simp; omega
  ·have h2:=eT (n:=(Gz es).length) (by omega)
   simp; omega
theorem Vi:∀ es:List Ai,Tu es < 67108864->(Gz es).length<=8 * Tu es
 | [],_=>by simp [Gz]
 | v :: vs,h=>by
  rw [Tu] at h ⊢
  have h1:=jS v (by omega)
  have h2:=Vi vs (by omega)
  rw [Gz,aEq]; omega
end
theorem sH (n k:Nat) (hk:0 < k):V2 (n:Int) (k:Int)=some ((n % k:Nat):Int):=by
 unfold V2
 rw [if_neg (by omega),Int.tmod_eq_emod_of_nonneg (by omega)]; rfl
theorem sE (n k:Nat) (hk:0 < k) (hn:n < 4611686018427387904):Ml (n:Int) (k:Int)=some ((n / k:Nat):Int):=by
 unfold Ml
 have:n / k<=n:=Nat.div_le_self n k
 rw [if_neg (by omega),Int.tdiv_eq_ediv_of_nonneg (by omega),show ((n:Int) / (k:Int))=((n / k:Nat):Int) from rfl,aFs (by omega)]
theorem fP (n:Nat):∀ (b:List UInt8),n < 281474976710656->zI n + b.length<=1000->B1 (fun q'=>Ex.l1 q'.1 q'.2) ((n:Int),b)=some (UInt8.ofNat (128 + (be n ++ b).length) :: (be n ++ b)):=by
 induction n using Nat.strongRecOn with
 | _ n ih=>
  intro b hn hb
  rcases aH2 n with h0 | h0
  ·subst h0
   refine bI ?_
   show Ex.l1 ((0:Nat):Int) b=_
   unfold Ex.l1
   rw [aAk (by omega),aD6,Db (by omega),Fv (by simp; omega),show (128:Int) + (b.length:Int)=((128 + b.length:Nat):Int) by omega,dF,aHt]
   rfl
  ·have hc:=mF h0
   have e:=ih (n / 256) (Nat.div_lt_self h0 (by omega)) ([UInt8.ofNat (n % 256)] ++ b) (aOx (Nat.div_le_self n 256) hn) (by simp; omega)
   refine (En (s':=(((n / 256:Nat):Int),[UInt8.ofNat (n % 256)] ++ b)) ?_).trans (e.trans ?_)
   ·show Ex.l1 (n:Int) b=_
    unfold Ex.l1
    rw [aAg (by omega),aEw,show (256:Int)=((256:Nat):Int) from rfl,sH n 256 (by omega),aAc,Fv (by simp; omega),aAc,sE n 256 (by omega) (by omega),aAc,dF]
   ·rw [tJ h0]
    simp
theorem fJ {n:Nat} (hn:n < 281474976710656):Ex (n:Int)=some (jQ n):=by
 unfold Ex jQ
 by_cases h:n < 128
 ·rw [aAg (by omega),if_pos h,dF]; rfl
 ·rw [aAk (by omega),if_neg h,aD6]
  have hc:=qJ 6 n (by simpa using hn)
  refine (fP n [] hn (by simp; omega)).trans ?_
  rw [aMl]; rfl
end
section
open Go
theorem gF (v:Ai):v.put=UInt8.ofNat (v.Tag.toNat % 256) :: (jQ v.body.length ++ v.body):=by cases v; exact aC6 _ _ _ _
theorem yQ (v:Ai):v.body=if v.Nested then Gz v.Elements else v.Bytes:=by cases v; rfl
theorem wT (v:Ai) (h:v.sz < 67108864):v.body.length<=8 * v.sz:=by
 have h1:=jS v h
 rw [gF] at h1
 simp at h1
 omega
theorem jX {v:Ai} (h:v.formed=true):u8 v.Tag=UInt8.ofNat (v.Tag.toNat % 256):=by
 rw [Sc] at h
 simp only [aEs] at h
 obtain⟨m,hm⟩:=kI (Qk h.1.1.1.1).1 (Qk h.1.1.1.1).2
 rw [hm,dF,aIm,aLg m.2]
theorem kU {v:Ai} (h:v.formed=true):v.Bytes ++ Gz v.Elements=v.body:=by
 rw [Sc] at h
 simp only [aEs] at h
 obtain⟨⟨⟨-,h1⟩,h2⟩,-⟩:=h
 rw [yQ]
 cases hn:v.Nested with
 | true=>
  rw [hn] at h1
  have:v.Bytes=[]:=aFc (by simp at h1; simpa using h1)
  rw [this]; rfl
 | false=>
  rw [hn] at h2
  have:v.Elements=[]:=aFc (by simp at h2; simpa using h2)
  rw [this]; simp [Gz]
theorem kO {v e:Ai} (h:v.formed=true) (he:e∈v.Elements):e.formed=true:=by
 rw [Sc] at h
 simp only [aEs] at h
 have:=h.2
 rw [Qe,aHf] at this
 exact this e he
def Fit (v:Ai):Prop:=v.formed=true/\v.sz < 67108864
theorem Fit.elem {v e:Ai} (h:Fit v) (he:e∈v.Elements):Fit e:=⟨kO h.1 he,Nat.lt_trans (Ut he) h.2⟩
theorem Xb {v:Ai} (h:Fit v) (i:Nat):(Gz (v.Elements.take i)).length<=536870912:=by
 have h1:=Zi (es:=v.Elements) i
 have h0:=Qt v
 have h2:=h.2
 have h3:=Vi v.Elements (by omega)
 omega
theorem pH (v:Ai) (h:Fit v):Du v=some v.put:=
 Sh Zc Ai.put Ai.sz Fit (fun rec v hv hr=>by
  show Du.F rec v=some v.put
  unfold Du.F
  have hn:=U2 v.Elements
  have h0:=Qt v
  have hz:=hv.2
  rw [Fv (by simp; omega),aOl,aAc]
  refine Eq.trans (congrArg (B1 _) ?_) (Pn v.Elements.length (fun i=>((i:Int),v.Bytes ++ Gz (v.Elements.take i))) v.put ?_ ?_)
  ·simp [Gz]
  ·intro i hi
   obtain⟨e,he⟩:∃ e,v.Elements[i]?=some e:=⟨_,aAy hi⟩
   have h1:=Ut (Eg he)
   have h2:=Xb hv i
   have h3:=jS e (by omega)
   show Du.l1 rec v (i:Int) (v.Bytes ++ Gz (v.Elements.take i))=_
   unfold Du.l1
   rw [H3 he,hr e (hv.elem (Eg he)) h1,aAc,Fv (by simp; omega),Ia (by omega),Vp he,aJb]
   rfl
  ·show Du.l1 rec v (v.Elements.length:Int) (v.Bytes ++ Gz (v.Elements.take v.Elements.length))=_
   have h4:=wT v hz
   have h5:=eT (n:=v.body.length) (by omega)
   unfold Du.l1
   rw [Fz,aKf,kU hv.1,fJ (by omega),aAc,Fv (by simp; omega),aAc,Fv (by simp; omega),aAc,jX hv.1,gF]
   simp [up]) v h
def uW (v:Ai):List UInt8×Int:=if v.formed then (if 16 < v.depth then ([],3) else if 4096 < v.put.length then ([],3) else (v.put,0)) else ([],1)
theorem cZ (v:Ai) (h:v.sz < 67108864):Kc v=some (uW v):=by
 unfold Kc uW
 rw [dT v (by omega),aAc]
 cases hf:v.formed with
 | false=>rfl
 | true=>
  rw [aHz,aD6,if_pos rfl,gM v (by omega),aAc]
  by_cases hd:16 < v.depth
  ·rw [aAg (by omega),if_pos hd]; rfl
  ·rw [aAk (by omega),if_neg hd,aD6,pH v ⟨hf,h⟩,aAc]
   by_cases hl:4096 < v.put.length
   ·rw [aAg (by omega),if_pos hl]; rfl
   ·rw [aAk (by omega),if_neg hl]; rfl
end
end Go.Proofs.YtkioneinddihlaaGreat
