/- Plain texts, joined. No program is in sight here. -/
import Derived.Test.YtbpchmikjiinpaaGreatP1
import Derived.WalkKit
import Derived.Test.YtbpchmikjiinpaaGreatL3
import Derived.Test.YtbpchmikjiinpaaGreatC1
set_option linter.unusedVariables false
set_option linter.unusedSimpArgs false
namespace Go.Proofs.YtbpchmikjiinpaaGreat
section
open Go
def oP (t:Int):Bool:=decide (1<=t) && decide (t<=255) && (t % 32 != 31)
def pG (t:Int):Bool:=t / 32 % 2 == 1
mutual
def Ae.formed:Ae->Bool
 | .mk t b n es=>oP t && (n == pG t) && !(n && decide (0 < b.length)) && !(!n && decide (0 < es.length)) && Mx es
def Mx:List Ae->Bool
 | []=>true
 | v :: vs=>v.formed && Mx vs
end
theorem S7:∀ es:List Ae,Mx es=es.all Ae.formed
 | []=>by simp [Mx]
 | v :: vs=>by rw [Mx,S7 vs,List.all_cons]
mutual
def Ae.depth:Ae->Nat
 | .mk _ _ _ es=>Ha es + 1
def Ha:List Ae->Nat
 | []=>0
 | v :: vs=>max v.depth (Ha vs)
end
theorem Tc:∀ a b:List Ae,Ha (a ++ b)=max (Ha a) (Ha b)
 | [],b=>by simp [Ha]
 | v :: vs,b=>by rw [aRp,Ha,Ha,Tc vs b,Nat.max_assoc]
theorem Vx {es:List Ae} {k:Nat} {d:Ae} (h:es[k]?=some d):Ha (es.take (k + 1))=max (Ha (es.take k)) d.depth:=by
 obtain⟨hk,e⟩:=aC4.1 h
 rw [aPy hk,Tc,e,Ha,Ha,Nat.max_zero]
mutual
def Ae.same:Ae->Ae->Bool
 | .mk t b n es,.mk t' b' n' es'=>t == t' && n == n' && b == b' && pK es es'
def pK:List Ae->List Ae->Bool
 | [],[]=>true
 | v :: vs,u :: us=>v.same u && pK vs us
 | _,_=>false
end
def K7:List UInt8->List UInt8
 | x :: y :: r=>if (x=0/\y < 128)\/(x=255/\128<=y) then K7 (y :: r) else x :: y :: r
 | l=>l
def sK (n:Int) (k:Nat):List UInt8:=(List.range k).map fun j=>UInt8.ofNat ((IntKind.u64.wrap n).toNat / 2 ^ (56 - 8 * j) % 256)
def xM (n:Int):List UInt8:=K7 (sK n 8)
def Ts (n:Int):Ae:=.mk 2 (xM n) false []
theorem iD (n:Int):0<=IntKind.u64.wrap n/\IntKind.u64.wrap n < 18446744073709551616:=by
 rw [IntKind.wrap_u64]; omega
theorem lJ:∀ l:List UInt8,(K7 l).length<=l.length
 | []=>by simp [K7]
 | [_]=>by simp [K7]
 | x :: y :: r=>by
  rw [K7]
  split
  ·have:=lJ (y :: r); simp at this ⊢; omega
  ·simp
def F9 (n:Int):Nat->Bool
 | 1=>decide (-128<=n/\n < 128)
 | 2=>decide (-32768<=n/\n < 32768)
 | 3=>decide (-8388608<=n/\n < 8388608)
 | 4=>decide (-2147483648<=n/\n < 2147483648)
 | 5=>decide (-549755813888<=n/\n < 549755813888)
 | 6=>decide (-140737488355328<=n/\n < 140737488355328)
 | 7=>decide (-36028797018963968<=n/\n < 36028797018963968)
 | 8=>true
 | _=>false
def Tx (n:Int):Nat:=if F9 n 1 then 1 else if F9 n 2 then 2 else if F9 n 3 then 3 else if F9 n 4 then 4 else if F9 n 5 then 5 else if F9 n 6 then 6 else if F9 n 7 then 7 else 8
def Ei (n:Int) (j:Nat):UInt8:=UInt8.ofNat ((n / 256 ^ j % 256).toNat)
theorem Fa (n:Int) (j:Nat):((Ei n j).toNat:Int)=n / 256 ^ j % 256:=by
 unfold Ei
 have h:0<=n / 256 ^ j % 256/\n / 256 ^ j % 256 < 256:=by omega
 rw [aS2,aSh (by omega)]
 omega
theorem iB (n:Int) (j:Nat) (hj:j<=7):(IntKind.u64.wrap n) / 2 ^ (8 * j) % 256=n / 256 ^ j % 256:=by
 rw [IntKind.wrap_u64]
 match j,hj with
 | 0,_=>simp
 | 1,_=>simp; omega
 | 2,_=>simp; omega
 | 3,_=>simp; omega
 | 4,_=>simp; omega
 | 5,_=>simp; omega
 | 6,_=>simp; omega
 | 7,_=>simp; omega
theorem be8 (n:Int):sK n 8=[Ei n 7,Ei n 6,Ei n 5,Ei n 4,Ei n 3,Ei n 2,Ei n 1,Ei n 0]:=by
 have key:∀ j,j<=7->UInt8.ofNat ((IntKind.u64.wrap n).toNat / 2 ^ (8 * j) % 256)=Ei n j:=by
  intro j hj
  have h:=iD n
  have h2:=iB n j hj
  unfold Ei
  rw [<- h2]
  obtain⟨m,hm⟩:=Int.eq_ofNat_of_zero_le h.1
  rw [hm]
  congr 1
 have h:=fun j hj=>key j hj
 unfold sK
 simp only [List.range,List.range.loop,aM9,List.map_nil]
 rw [<- h 7 (by omega),<- h 6 (by omega),<- h 5 (by omega),<- h 4 (by omega),<- h 3 (by omega),<- h 2 (by omega),<- h 1 (by omega),<- h 0 (by omega)]
theorem Ql {x y:UInt8} {r:List UInt8} {c:Bool} (h:(((x.toNat:Int)=0/\(y.toNat:Int) < 128)\/((x.toNat:Int)=255/\(128:Int)<=y.toNat))↔c=true):K7 (x :: y :: r)=if c then K7 (y :: r) else x :: y :: r:=by
 have h1:((x=0/\y < 128)\/(x=255/\128<=y))↔(((x.toNat:Int)=0/\(y.toNat:Int) < 128)\/((x.toNat:Int)=255/\(128:Int)<=y.toNat)):=by
  have e0:x=0↔(x.toNat:Int)=0:=⟨fun e=>by rw [e]; rfl,fun e=>UInt8.toNat.inj (by simp; omega)⟩
  have e1:x=255↔(x.toNat:Int)=255:=⟨fun e=>by rw [e]; rfl,fun e=>UInt8.toNat.inj (by simp; omega)⟩
  have e2:y < 128↔(y.toNat:Int) < 128:=by rw [UInt8.lt_iff_toNat_lt]; simp; omega
  have e3:128<=y↔(128:Int)<=y.toNat:=by rw [UInt8.le_iff_toNat_le]; simp; omega
  rw [e0,e1,e2,e3]
 rw [K7]
 by_cases hc:c=true
 ·rw [if_pos (h1.2 (h.2 hc)),if_pos hc]
 ·rw [if_neg (fun g=>hc (h.1 (h1.1 g))),if_neg hc]
theorem vA (n:Int) (_h1:-9223372036854775808<=n) (_h2:n<=9223372036854775807) (r:List UInt8):K7 (Ei n 7 :: Ei n 6 :: r)=if F9 n 7 then K7 (Ei n 6 :: r) else Ei n 7 :: Ei n 6 :: r:=by
 refine Ql ?_
 rw [Fa,Fa]; unfold F9; simp; omega
theorem xA (n:Int) (h:F9 n 7=true) (r:List UInt8):K7 (Ei n 6 :: Ei n 5 :: r)=if F9 n 6 then K7 (Ei n 5 :: r) else Ei n 6 :: Ei n 5 :: r:=by
 unfold F9 at h; simp at h
 refine Ql ?_
 rw [Fa,Fa]; unfold F9; simp; omega
theorem wP (n:Int) (h:F9 n 6=true) (r:List UInt8):K7 (Ei n 5 :: Ei n 4 :: r)=if F9 n 5 then K7 (Ei n 4 :: r) else Ei n 5 :: Ei n 4 :: r:=by
 unfold F9 at h; simp at h
 refine Ql ?_
 rw [Fa,Fa]; unfold F9; simp; omega
theorem uA (n:Int) (h:F9 n 5=true) (r:List UInt8):K7 (Ei n 4 :: Ei n 3 :: r)=if F9 n 4 then K7 (Ei n 3 :: r) else Ei n 4 :: Ei n 3 :: r:=by
 unfold F9 at h; simp at h
 refine Ql ?_
 rw [Fa,Fa]; unfold F9; simp; omega
theorem yH (n:Int) (h:F9 n 4=true) (r:List UInt8):K7 (Ei n 3 :: Ei n 2 :: r)=if F9 n 3 then K7 (Ei n 2 :: r) else Ei n 3 :: Ei n 2 :: r:=by
 unfold F9 at h; simp at h
 refine Ql ?_
 rw [Fa,Fa]; unfold F9; simp; omega
theorem uX (n:Int) (h:F9 n 3=true) (r:List UInt8):K7 (Ei n 2 :: Ei n 1 :: r)=if F9 n 2 then K7 (Ei n 1 :: r) else Ei n 2 :: Ei n 1 :: r:=by
 unfold F9 at h; simp at h
 refine Ql ?_
 rw [Fa,Fa]; unfold F9; simp; omega
theorem wT (n:Int) (h:F9 n 2=true) (r:List UInt8):K7 (Ei n 1 :: Ei n 0 :: r)=if F9 n 1 then K7 (Ei n 0 :: r) else Ei n 1 :: Ei n 0 :: r:=by
 unfold F9 at h; simp at h
 refine Ql ?_
 rw [Fa,Fa]; unfold F9; simp; omega
theorem Fh {n:Int} {j:Nat} (hj:1<=j) (h7:j<=6) (h:¬ F9 n (j + 1)=true):¬ F9 n j=true:=by
 match j,hj,h7 with
 | 1,_,_=>unfold F9 at *; simp at *; omega
 | 2,_,_=>unfold F9 at *; simp at *; omega
 | 3,_,_=>unfold F9 at *; simp at *; omega
 | 4,_,_=>unfold F9 at *; simp at *; omega
 | 5,_,_=>unfold F9 at *; simp at *; omega
 | 6,_,_=>unfold F9 at *; simp at *; omega
theorem pD (n:Int) (h1:-9223372036854775808<=n) (h2:n<=9223372036854775807):xM n=(sK n 8).drop (8 - Tx n):=by
 unfold xM
 rw [be8]
 by_cases f7:F9 n 7=true
 ·rw [vA n h1 h2,if_pos f7]
  by_cases f6:F9 n 6=true
  ·rw [xA n f7,if_pos f6]
   by_cases f5:F9 n 5=true
   ·rw [wP n f6,if_pos f5]
    by_cases f4:F9 n 4=true
    ·rw [uA n f5,if_pos f4]
     by_cases f3:F9 n 3=true
     ·rw [yH n f4,if_pos f3]
      by_cases f2:F9 n 2=true
      ·rw [uX n f3,if_pos f2]
       by_cases f1:F9 n 1=true
       ·rw [wT n f2,if_pos f1]
        rw [K7]
        ·simp [Tx,f1]
        ·intro x y r h; cases h
       ·rw [wT n f2,if_neg f1]
        simp [Tx,f1,f2]
      ·rw [uX n f3,if_neg f2]
       have f1:=Fh (j:=1) (by omega) (by omega) f2
       simp [Tx,f1,f2,f3]
     ·rw [yH n f4,if_neg f3]
      have f2:=Fh (j:=2) (by omega) (by omega) f3
      have f1:=Fh (j:=1) (by omega) (by omega) f2
      simp [Tx,f1,f2,f3,f4]
    ·rw [uA n f5,if_neg f4]
     have f3:=Fh (j:=3) (by omega) (by omega) f4
     have f2:=Fh (j:=2) (by omega) (by omega) f3
     have f1:=Fh (j:=1) (by omega) (by omega) f2
     simp [Tx,f1,f2,f3,f4,f5]
   ·rw [wP n f6,if_neg f5]
    have f4:=Fh (j:=4) (by omega) (by omega) f5
    have f3:=Fh (j:=3) (by omega) (by omega) f4
    have f2:=Fh (j:=2) (by omega) (by omega) f3
    have f1:=Fh (j:=1) (by omega) (by omega) f2
    simp [Tx,f1,f2,f3,f4,f5,f6]
  ·rw [xA n f7,if_neg f6]
   have f5:=Fh (j:=5) (by omega) (by omega) f6
   have f4:=Fh (j:=4) (by omega) (by omega) f5
   have f3:=Fh (j:=3) (by omega) (by omega) f4
   have f2:=Fh (j:=2) (by omega) (by omega) f3
   have f1:=Fh (j:=1) (by omega) (by omega) f2
   simp [Tx,f1,f2,f3,f4,f5,f6,f7]
 ·rw [vA n h1 h2,if_neg f7]
  have f6:=Fh (j:=6) (by omega) (by omega) f7
  have f5:=Fh (j:=5) (by omega) (by omega) f6
  have f4:=Fh (j:=4) (by omega) (by omega) f5
  have f3:=Fh (j:=3) (by omega) (by omega) f4
  have f2:=Fh (j:=2) (by omega) (by omega) f3
  have f1:=Fh (j:=1) (by omega) (by omega) f2
  simp [Tx,f1,f2,f3,f4,f5,f6,f7]
theorem mB (n:Int) (h1:-9223372036854775808<=n) (h2:n<=9223372036854775807) (k:Nat) (hk:k<=7) :
  F9 n (k + 1)=true↔(n / 256 ^ (k + 1)=0/\((Ei n k).toNat:Int) < 128)\/(n / 256 ^ (k + 1)=-1/\(128:Int)<=(Ei n k).toNat):=by
 match k,hk with
 | 0,_=>rw [Fa]; unfold F9; simp; omega
 | 1,_=>rw [Fa]; unfold F9; simp; omega
 | 2,_=>rw [Fa]; unfold F9; simp; omega
 | 3,_=>rw [Fa]; unfold F9; simp; omega
 | 4,_=>rw [Fa]; unfold F9; simp; omega
 | 5,_=>rw [Fa]; unfold F9; simp; omega
 | 6,_=>rw [Fa]; unfold F9; simp; omega
 | 7,_=>rw [Fa]; unfold F9; simp; omega
theorem Up (n:Int) (k:Nat) (hk:k<=7):(sK n 8).drop (7 - k)=Ei n k :: (sK n 8).drop (8 - k):=by
 rw [be8]
 match k,hk with
 | 0,_=>rfl
 | 1,_=>rfl
 | 2,_=>rfl
 | 3,_=>rfl
 | 4,_=>rfl
 | 5,_=>rfl
 | 6,_=>rfl
 | 7,_=>rfl
theorem kX (n:Int) (k:Nat) (hk:k<=7) (hn:∀ j,1<=j->j<=k->F9 n j=false) (hf:F9 n (k + 1)=true):Tx n=k + 1:=by
 have g:=fun j (h1:1<=j) (h2:j<=k)=>hn j h1 h2
 unfold Tx
 match k,hk,hf,g with
 | 0,_,hf,_=>simp [hf]
 | 1,_,hf,g=>simp [hf,g 1 (by omega) (by omega)]
 | 2,_,hf,g=>simp [hf,g 1 (by omega) (by omega),g 2 (by omega) (by omega)]
 | 3,_,hf,g=>simp [hf,g 1 (by omega) (by omega),g 2 (by omega) (by omega),g 3 (by omega) (by omega)]
 | 4,_,hf,g=>simp [hf,g 1 (by omega) (by omega),g 2 (by omega) (by omega),g 3 (by omega) (by omega),g 4 (by omega) (by omega)]
 | 5,_,hf,g=>simp [hf,g 1 (by omega) (by omega),g 2 (by omega) (by omega),g 3 (by omega) (by omega),g 4 (by omega) (by omega),g 5 (by omega) (by omega)]
 | 6,_,hf,g=>simp [hf,g 1 (by omega) (by omega),g 2 (by omega) (by omega),g 3 (by omega) (by omega),g 4 (by omega) (by omega),g 5 (by omega) (by omega),g 6 (by omega) (by omega)]
 | 7,_,_,g=>simp [g 1 (by omega) (by omega),g 2 (by omega) (by omega),g 3 (by omega) (by omega),g 4 (by omega) (by omega),g 5 (by omega) (by omega),g 6 (by omega) (by omega),g 7 (by omega) (by omega)]
theorem uO (n:Int) (k:Nat):n / 256 ^ (k + 1) / 256=n / 256 ^ (k + 1 + 1):=by
 rw [Int.pow_succ 256 (k + 1)]
 have h:(0:Int)<=256 ^ (k + 1):=Int.pow_nonneg (by omega)
 first | exact Int.ediv_ediv_of_nonneg h | exact Int.ediv_ediv_eq_ediv_mul _ h | (rw [Int.ediv_ediv,if_neg (by omega)]; simp)
def be (n:Nat):List UInt8:=if h:n=0 then [] else be (n / 256) ++ [UInt8.ofNat (n % 256)]
termination_by n
decreasing_by omega
theorem aI4:be 0=[]:=by rw [be]; rfl
theorem wV {n:Nat} (h:0 < n):be n=be (n / 256) ++ [UInt8.ofNat (n % 256)]:=by rw [be]; rw [dif_neg (by omega)]
def cnt (n:Nat):Nat:=(be n).length
theorem aDo:cnt 0=0:=by unfold cnt; rw [aI4]; rfl
theorem qM {n:Nat} (h:0 < n):cnt n=cnt (n / 256) + 1:=by unfold cnt; rw [wV h]; simp
theorem vI (k:Nat):∀ n,n < 256 ^ k->cnt n<=k:=by
 induction k with
 | zero=>
  intro n h
  have:n=0:=by simpa using h
  subst this
  rw [aDo]
  omega
 | succ k ih=>
  intro n h
  rcases aJv n with h0 | h0
  ·subst h0; rw [aDo]; omega
  ·rw [qM h0]
   have:=ih (n / 256) (by rw [Nat.pow_succ] at h; exact Nat.div_lt_of_lt_mul (by rw [Nat.mul_comm]; exact h))
   omega
def nB (n:Nat):List UInt8:=if n < 128 then [UInt8.ofNat n] else UInt8.ofNat (128 + cnt n) :: be n
mutual
def Ae.put:Ae->List UInt8
 | .mk t b n es=>UInt8.ofNat (t.toNat % 256) :: (nB ((if n then He es else b).length) ++ (if n then He es else b))
def He:List Ae->List UInt8
 | []=>[]
 | v :: vs=>v.put ++ He vs
end
def Ae.body:Ae->List UInt8 | .mk _ b n es=>if n then He es else b
theorem aHf (t:Int) (b:List UInt8) (n:Bool) (es:List Ae):(Ae.mk t b n es).put=UInt8.ofNat (t.toNat % 256) :: (nB (Ae.mk t b n es).body.length ++ (Ae.mk t b n es).body):=by rw [Ae.put]; rfl
theorem Ri:∀ a b:List Ae,He (a ++ b)=He a ++ He b
 | [],b=>by simp [He]
 | v :: vs,b=>by rw [aRp,He,He,Ri vs b,aLp]
theorem Yk {es:List Ae} {k:Nat} {d:Ae} (h:es[k]?=some d):He (es.take (k + 1))=He (es.take k) ++ d.put:=by
 obtain⟨hk,e⟩:=aC4.1 h
 rw [aPy hk,Ri,e]
 simp [He]
theorem bV {es:List Ae} (k:Nat):(He (es.take k)).length<=(He es).length:=by
 have:=Ri (es.take k) (es.drop k)
 rw [aOc] at this
 rw [this,aDd]; omega
theorem iC {n:Nat} (h:n < 256 ^ 6):(nB n).length<=7:=by
 unfold nB
 split
 ·simp
 ·have:=vI 6 n h
  unfold cnt at this
  simp; omega
end
section
open Go
mutual
def Ae.sz:Ae->Nat
 | .mk _ b _ es=>b.length + Wg es + 1
def Wg:List Ae->Nat
 | []=>0
 | v :: vs=>v.sz + Wg vs
end
theorem Td (v:Ae):v.sz=v.Bytes.length + Wg v.Elements + 1:=by cases v; rw [Ae.sz]
theorem jI:∀ {es:List Ae} {d:Ae},d∈es->d.sz<=Wg es
 | v :: vs,d,h=>by
  rw [Wg]
  rcases aC6.1 h with rfl | h
  ·omega
  ·have:=jI h; omega
theorem Xk:∀ es:List Ae,es.length<=Wg es
 | []=>aHx _
 | v :: vs=>by
  have:=Xk vs
  rw [Wg,aLg,Td]; omega
theorem Wr {v d:Ae} (h:d∈v.Elements):d.sz < v.sz:=by
 have:=jI h
 rw [Td v]; omega
theorem hX (l:List Ae) (h:Wg l < 1073741824):Cz l=some l:=
 Ut Xb id Wg (fun l=>Wg l < 1073741824) (fun rec l hl hr=>by
  show Cz.F rec l=some l
  unfold Cz.F
  have hn:=Xk l
  refine (Je l.length (fun i=>((i:Int),l.take i)) l ?_ ?_).trans ?_
  ·intro i hi
   obtain⟨e,he⟩:∃ e,l[i]?=some e:=⟨_,aBx hi⟩
   have h1:=jI (Dv he)
   have h2:=Td e
   show Cz.l1 rec l (i:Int) (l.take i)=_
   unfold Cz.l1
   rw [Er he,Dw (by simp; omega)]
   simp only [aQp,aAc]
   rw [hr e.Elements (by omega) (by omega)]
   simp only [id,aAc]
   rw [Dw (by simp; omega),Fm (by omega),Fl he]
   cases e; rfl
  ·show Cz.l1 rec l (l.length:Int) (l.take l.length)=_
   unfold Cz.l1
   rw [De,aLc]; rfl
  ·rfl) l h
theorem Vz (l:List Ae) (h:Wg l < 1073741824):Jk l=some (.mk 48 [] true l):=by unfold Jk; rw [hX l h]; rfl
theorem oG {n:Int} (h1:1<=n) (h2:n<=255):∃ m:Fin 256,n=(m.val:Int):=⟨⟨n.toNat,by omega⟩,by simp; omega⟩
theorem rN:∀ m:Fin 256,(!decide ((m.val:Int).tmod 32=31))=((m.val:Int) % 32 != 31):=by decide +kernel
theorem rG:∀ m:Fin 256,((Og (m.val:Int) 32).bind fun q=>(Yg q 2).bind fun r=>some (decide (r=1)))=some (pG (m.val:Int)):=by decide +kernel
theorem sM (n:Int):Oe n=some (oP n):=by
 unfold Oe oP
 by_cases h1:1<=n
 ·by_cases h2:n<=255
  ·obtain⟨m,rfl⟩:=oG h1 h2
   rw [<- rN m,aBe h1,aBe h2]; rfl
  ·simp [h1,h2]
 ·simp [h1]
theorem Sr {n:Int} (h:oP n=true):1<=n/\n<=255:=by
 unfold oP at h
 simp only [aFx,aN6] at h
 exact⟨h.1.1,h.1.2⟩
theorem U4 (v:Ae):v.formed=(oP v.Tag && (v.Nested == pG v.Tag) && !(v.Nested && decide (0 < v.Bytes.length)) && !(!v.Nested && decide (0 < v.Elements.length)) && Mx v.Elements):=by cases v; rw [Ae.formed]
theorem kP (l:List Ae):(!l.any fun v=>!v.formed)=Mx l:=by
 rw [S7]
 induction l with
 | nil=>rfl
 | cons v l ih=>rw [aR2,List.all_cons,<- ih]; cases v.formed <;> simp
theorem iN (v:Ae) (h:v.sz < 1073741824):By v=some v.formed:=
 Ut Wi Ae.formed Ae.sz (fun v=>v.sz < 1073741824) (fun rec v hv hr=>by
  show By.F rec v=some v.formed
  have hn:=Xk v.Elements
  have h0:=Td v
  have hj1:By.j1 rec v true=some false:=rfl
  have hj2:By.j1 rec v false=some (Mx v.Elements):=by
   unfold By.j1
   have hl:=Rl (body:=fun q'=>By.l2 rec v q') v.Elements (fun i=>(i:Int)) (fun v=>!v.formed) false true (fun i x hx=>by
     have h1:=Wr (Dv hx)
     have h2:=Il hx
     unfold By.l2
     rw [Er hx,hr x (by omega) h1,Fm (by omega)]
     cases x.formed <;> rfl) (by unfold By.l2; rw [De]; rfl)
   rw [aCv]
   refine aOs hl ?_
   rw [<- kP]
   cases v.Elements.any fun v=>!v.formed <;> rfl
  unfold By.F
  rw [sM,hj1,hj2,U4]
  cases ht:oP v.Tag
  ·rfl
  ·obtain⟨m,hm⟩:=oG (Sr ht).1 (Sr ht).2
   have hq:=rG m
   rw [hm]
   cases h1:Og (m.val:Int) 32 with
   | none=>rw [h1] at hq; cases hq
   | some q=>
    rw [h1] at hq
    simp only [aAc] at hq
    cases h2:Yg q 2 with
    | none=>rw [h2] at hq; cases hq
    | some r=>
     rw [h2] at hq
     simp only [aAc,Option.some.injEq] at hq
     simp only [aAc,h2,hq]
     cases v.Nested <;> cases pG (m.val:Int) <;> by_cases hb:0 < v.Bytes.length <;> by_cases he:0 < v.Elements.length <;> simp [hb,he,hj1,hj2]) v h
theorem T9:∀ es:List Ae,Ha es<=Wg es
 | []=>aHx _
 | v :: vs=>by
  obtain⟨t,b,n,es⟩:=v
  have h1:=T9 es
  have h2:=T9 vs
  rw [Ha,Wg,Ae.depth,Ae.sz]; omega
theorem tR (v:Ae):v.depth<=v.sz:=by
 obtain⟨t,b,n,es⟩:=v
 have:=T9 es
 rw [Ae.depth,Ae.sz]; omega
theorem vK (v:Ae):v.depth=Ha v.Elements + 1:=by cases v; rw [Ae.depth]
theorem mH (v:Ae) (h:v.sz < 1073741824):C5 v=some (v.depth:Int):=
 Ut Yr (fun v=>(v.depth:Int)) Ae.sz (fun v=>v.sz < 1073741824) (fun rec v hv hr=>by
  show C5.F rec v=some (v.depth:Int)
  unfold C5.F
  have hn:=Xk v.Elements
  have h0:=Td v
  have hd:=tR v
  have hq:=vK v
  refine (Je v.Elements.length (fun i=>((Ha (v.Elements.take i):Int),(i:Int))) (v.depth:Int) ?_ ?_).trans ?_
  ·intro i hi
   obtain⟨e,he⟩:∃ e,v.Elements[i]?=some e:=⟨_,aBx hi⟩
   have h1:=Wr (Dv he)
   show C5.l1 rec v (Ha (v.Elements.take i):Int) (i:Int)=_
   unfold C5.l1
   rw [Er he,hr e (by omega) h1,Fm (by omega),Vx he]
   simp only [aAc]
   congr 3
   omega
  ·show C5.l1 rec v (Ha (v.Elements.take v.Elements.length):Int) (v.Elements.length:Int)=_
   unfold C5.l1
   rw [De,aLc,Dz (by omega),hq]; rfl
  ·rfl) v h
end
section
open Go
theorem iQ (m:Nat):u8 (m:Int)=UInt8.ofNat m:=by
 apply UInt8.toNat_inj.1
 have:=mG (m:Int)
 rw [aS2]
 omega
theorem xT (n:Int) (k:Nat):u8 (n / 256 ^ k)=Ei n k:=rfl
theorem aAo {k:IntKind} {x y:Int} (e:Nat) (hy:y=(e:Int)) (he:e<=k.bits):Vd k x y=some (x / 2 ^ e):=by
 subst hy
 unfold Vd
 rw [if_neg (by omega),aK9,aSk he,aSt]
 exact Int.pow_nonneg (by omega)
theorem aIb {x:Int}:Vd .i64 x 8=some (x / 256):=aAo (k:=.i64) 8 rfl (by decide)
theorem pN (n:Int) (k:Nat):(sK n k).length=k:=by unfold sK; simp
theorem aY (x:Int) (y:UInt8) (r:List UInt8):Cr.l1 x (y :: r)=Cr.j2 x (y :: r) (!((decide (x=0) && decide ((y.toNat:Int) < 128)) || (decide (x=-1) && decide (128<=(y.toNat:Int))))):=by
 have G:Bu (y :: r) 0=some y:=rfl
 unfold Cr.l1
 by_cases h0:x=0
 ·have h1:¬ x=-1:=by omega
  by_cases c:(y.toNat:Int) < 128
  ·have c':¬ (128:Int)<=(y.toNat:Int):=by omega
   simp [h0,G,c,c']
  ·have c':(128:Int)<=(y.toNat:Int):=by omega
   simp [h0,G,c,c']
 ·by_cases h1:x=-1
  ·by_cases c:(y.toNat:Int) < 128
   ·have c':¬ (128:Int)<=(y.toNat:Int):=by omega
    simp [h1,G,c,c']
   ·have c':(128:Int)<=(y.toNat:Int):=by omega
    simp [h1,G,c,c']
  ·simp [h0,h1]
theorem jE (n:Int) (h1:-9223372036854775808<=n) (h2:n<=9223372036854775807):∀ d k,k + d=7->(∀ j,1<=j->j<=k->F9 n j=false)->B2 (fun q'=>Cr.l1 q'.1 q'.2) (n / 256 ^ (k + 1),(sK n 8).drop (7 - k))=some (Ts n):=by
 intro d
 induction d with
 | zero=>
  intro k hk hn
  obtain rfl:k=7:=by omega
  have hf:=(mB n h1 h2 7 (by omega)).1 rfl
  rw [Ih]
  dsimp only
  rw [Up n 7 (by omega),aY]
  have hs:=kX n 7 (by omega) hn rfl
  have hc:((decide (n / 256 ^ (7 + 1)=0) && decide (((Ei n 7).toNat:Int) < 128)) || (decide (n / 256 ^ (7 + 1)=-1) && decide (128<=((Ei n 7).toNat:Int))))=true:=by simpa using hf
  rw [hc]
  show some (Ae.mk 2 (Ei n 7 :: (sK n 8).drop (8 - 7)) false [])=some (Ts n)
  unfold Ts
  rw [pD n h1 h2,hs,<- Up n 7 (by omega)]
 | succ d ih=>
  intro k hk hn
  have FI:=mB n h1 h2 k (by omega)
  rw [Ih]
  dsimp only
  rw [Up n k (by omega),aY]
  cases hf:F9 n (k + 1) with
  | true=>
   have hs:=kX n k (by omega) hn hf
   have hc:((decide (n / 256 ^ (k + 1)=0) && decide (((Ei n k).toNat:Int) < 128)) || (decide (n / 256 ^ (k + 1)=-1) && decide (128<=((Ei n k).toNat:Int))))=true:=by simpa using FI.1 hf
   rw [hc]
   show some (Ae.mk 2 (Ei n k :: (sK n 8).drop (8 - k)) false [])=some (Ts n)
   unfold Ts
   rw [pD n h1 h2,hs,<- Up n k (by omega),show 8 - (k + 1)=7 - k by omega]
  | false=>
   have hc:((decide (n / 256 ^ (k + 1)=0) && decide (((Ei n k).toNat:Int) < 128)) || (decide (n / 256 ^ (k + 1)=-1) && decide (128<=((Ei n k).toNat:Int))))=false:=by
    cases hq:((decide (n / 256 ^ (k + 1)=0) && decide (((Ei n k).toNat:Int) < 128)) || (decide (n / 256 ^ (k + 1)=-1) && decide (128<=((Ei n k).toNat:Int)))) with
    | false=>rfl
    | true=>
     have:=FI.2 (by simpa using hq)
     rw [hf] at this; cases this
   rw [hc]
   have e:=ih (k + 1) (by omega) fun j a b=>by
    rcases aQa k j with h | h
    ·obtain rfl:j=k + 1:=by omega
     exact hf
    ·exact hn j a h
   rw [Up n (k + 1) (by omega),show 8 - (k + 1)=7 - k by omega,<- uO] at e
   unfold Cr.j2
   rw [aR7,aDb,Dw (by simp [pN]; omega),aIb,<- Up n k (by omega)]
   exact e
theorem Nx (n:Int) (h1:-9223372036854775808<=n) (h2:n<=9223372036854775807):Cr n=some (Ts n):=by
 unfold Cr
 rw [aIb]
 have:=jE n h1 h2 7 0 (by omega) (fun j a b=>by omega)
 rw [show (sK n 8).drop (7 - 0)=[Ei n 0] by rw [be8]; rfl] at this
 rw [aAc,show u8 n=Ei n 0 by rw [<- xT]; simp]
 exact this
theorem Ss (n:Int):(Ts n).sz<=9:=by
 unfold Ts
 rw [Td]
 have h:=lJ (sK n 8)
 rw [pN] at h
 show (xM n).length + Wg [] + 1<=9
 unfold xM
 rw [Wg]; omega
end
section
open Go
mutual
theorem oM:∀ v:Ae,v.sz < 67108864->v.put.length<=8 * v.sz
 | .mk t b n es,h=>by
  rw [Ae.sz] at h ⊢
  have h1:=Y3 es (by omega)
  rw [Ae.put]
  cases n
  ·have h2:=iC (n:=b.length) (by omega)
   simp; omega
  ·have h2:=iC (n:=(He es).length) (by omega)
   simp; omega
theorem Y3:∀ es:List Ae,Wg es < 67108864->(He es).length<=8 * Wg es
 | [],_=>by simp [He]
 | v :: vs,h=>by
  rw [Wg] at h ⊢
  have h1:=oM v (by omega)
  have h2:=Y3 vs (by omega)
  rw [He,aDd]; omega
end
theorem tO (n k:Nat) (hk:0 < k):Yg (n:Int) (k:Int)=some ((n % k:Nat):Int):=by
 unfold Yg
 rw [if_neg (by omega),Int.tmod_eq_emod_of_nonneg (by omega)]; rfl
theorem uR (n k:Nat) (hk:0 < k) (hn:n < 4611686018427387904):Og (n:Int) (k:Int)=some ((n / k:Nat):Int):=by
 unfold Og
 have:n / k<=n:=Nat.div_le_self n k
 rw [if_neg (by omega),Int.tdiv_eq_ediv_of_nonneg (by omega),show ((n:Int) / (k:Int))=((n / k:Nat):Int) from rfl,aIy (by omega)]
theorem jF (n:Nat):∀ (b:List UInt8),n < 281474976710656->cnt n + b.length<=1000->B2 (fun q'=>E4.l1 q'.1 q'.2) ((n:Int),b)=some (UInt8.ofNat (128 + (be n ++ b).length) :: (be n ++ b)):=by
 induction n using Nat.strongRecOn with
 | _ n ih=>
  intro b hn hb
  rcases aJv n with h0 | h0
  ·subst h0
   refine U3 ?_
   show E4.l1 ((0:Nat):Int) b=_
   unfold E4.l1
   rw [aBv (by omega),aCv,Dz (by omega),Dw (by simp; omega),show (128:Int) + (b.length:Int)=((128 + b.length:Nat):Int) by omega,iQ,aI4]
   rfl
  ·have hc:=qM h0
   have e:=ih (n / 256) (Nat.div_lt_self h0 (by omega)) ([UInt8.ofNat (n % 256)] ++ b) (Nat.lt_of_le_of_lt (Nat.div_le_self n 256) hn) (by simp; omega)
   refine (Fi (s':=(((n / 256:Nat):Int),[UInt8.ofNat (n % 256)] ++ b)) ?_).trans (e.trans ?_)
   ·show E4.l1 (n:Int) b=_
    unfold E4.l1
    rw [aBe (by omega),aDb,show (256:Int)=((256:Nat):Int) from rfl,tO n 256 (by omega),aAc,Dw (by simp; omega),aAc,uR n 256 (by omega) (by omega),aAc,iQ]
   ·rw [wV h0]
    simp
theorem iU {n:Nat} (hn:n < 281474976710656):E4 (n:Int)=some (nB n):=by
 unfold E4 nB
 by_cases h:n < 128
 ·rw [aBe (by omega),if_pos h,iQ]; rfl
 ·rw [aBv (by omega),if_neg h,aCv]
  have hc:=vI 6 n (by simpa using hn)
  refine (jF n [] hn (by simp; omega)).trans ?_
  rw [aOq]; rfl
end
section
open Go
theorem mD (v:Ae):v.put=UInt8.ofNat (v.Tag.toNat % 256) :: (nB v.body.length ++ v.body):=by cases v; exact aHf _ _ _ _
theorem zI (v:Ae):v.body=if v.Nested then He v.Elements else v.Bytes:=by cases v; rfl
theorem aAt (v:Ae) (h:v.sz < 67108864):v.body.length<=8 * v.sz:=by
 have h1:=oM v h
 rw [mD] at h1
 simp at h1
 omega
theorem oQ {v:Ae} (h:v.formed=true):u8 v.Tag=UInt8.ofNat (v.Tag.toNat % 256):=by
 rw [U4] at h
 simp only [aFx] at h
 obtain⟨m,hm⟩:=oG (Sr h.1.1.1.1).1 (Sr h.1.1.1.1).2
 rw [hm,iQ,aK9,aSh m.2]
theorem oN {v:Ae} (h:v.formed=true):v.Bytes ++ He v.Elements=v.body:=by
 rw [U4] at h
 simp only [aFx] at h
 obtain⟨⟨⟨-,h1⟩,h2⟩,-⟩:=h
 rw [zI]
 cases hn:v.Nested with
 | true=>
  rw [hn] at h1
  have:v.Bytes=[]:=aDn (by simp at h1; simpa using h1)
  rw [this]; rfl
 | false=>
  rw [hn] at h2
  have:v.Elements=[]:=aDn (by simp at h2; simpa using h2)
  rw [this]; simp [He]
theorem oJ {v e:Ae} (h:v.formed=true) (he:e∈v.Elements):e.formed=true:=by
 rw [U4] at h
 simp only [aFx] at h
 have:=h.2
 rw [S7,aG8] at this
 exact this e he
def Fit (v:Ae):Prop:=v.formed=true/\v.sz < 67108864
theorem Fit.elem {v e:Ae} (h:Fit v) (he:e∈v.Elements):Fit e:=⟨oJ h.1 he,Nat.lt_trans (Wr he) h.2⟩
theorem Zs {v:Ae} (h:Fit v) (i:Nat):(He (v.Elements.take i)).length<=536870912:=by
 have h1:=bV (es:=v.Elements) i
 have h0:=Td v
 have h2:=h.2
 have h3:=Y3 v.Elements (by omega)
 omega
theorem rF (v:Ae) (h:Fit v):Du v=some v.put:=
 Ut bF Ae.put Ae.sz Fit (fun rec v hv hr=>by
  show Du.F rec v=some v.put
  unfold Du.F
  have hn:=Xk v.Elements
  have h0:=Td v
  have hz:=hv.2
  rw [Dw (by simp; omega),aQp,aAc]
  refine aOs (congrArg (B2 _) ?_) (Je v.Elements.length (fun i=>((i:Int),v.Bytes ++ He (v.Elements.take i))) v.put ?_ ?_)
  ·simp [He]
  ·intro i hi
   obtain⟨e,he⟩:∃ e,v.Elements[i]?=some e:=⟨_,aBx hi⟩
   have h1:=Wr (Dv he)
   have h2:=Zs hv i
   have h3:=oM e (by omega)
   show Du.l1 rec v (i:Int) (v.Bytes ++ He (v.Elements.take i))=_
   unfold Du.l1
   rw [Er he,hr e (hv.elem (Dv he)) h1,aAc,Dw (by simp; omega),Fm (by omega),Yk he,aLp]
   rfl
  ·show Du.l1 rec v (v.Elements.length:Int) (v.Bytes ++ He (v.Elements.take v.Elements.length))=_
   have h4:=aAt v hz
   have h5:=iC (n:=v.body.length) (by omega)
   unfold Du.l1
   rw [De,aLc,oN hv.1,iU (by omega),aAc,Dw (by simp; omega),aAc,Dw (by simp; omega),aAc,oQ hv.1,mD]
   simp [up]) v h
def yG (v:Ae):List UInt8×Int:=if v.formed then (if 16 < v.depth then ([],3) else if 4096 < v.put.length then ([],3) else (v.put,0)) else ([],1)
theorem jJ (v:Ae) (h:v.sz < 67108864):Lq v=some (yG v):=by
 unfold Lq yG
 rw [iN v (by omega),aAc]
 cases hf:v.formed with
 | false=>rfl
 | true=>
  rw [aLb,aCv,if_pos rfl,mH v (by omega),aAc]
  by_cases hd:16 < v.depth
  ·rw [aBe (by omega),if_pos hd]; rfl
  ·rw [aBv (by omega),if_neg hd,aCv,rF v ⟨hf,h⟩,aAc]
   by_cases hl:4096 < v.put.length
   ·rw [aBe (by omega),if_pos hl]; rfl
   ·rw [aBv (by omega),if_neg hl]; rfl
end
end Go.Proofs.YtbpchmikjiinpaaGreat
