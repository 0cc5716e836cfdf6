/- Plain texts, joined. No program is in sight here. -/
import Derived.Test.YtchpcpaacenodaaGreatP1
import Derived.WalkKit
import Derived.Test.YtchpcpaacenodaaGreatL3
import Derived.Test.YtchpcpaacenodaaGreatC1
set_option linter.unusedVariables false
set_option linter.unusedSimpArgs false
namespace Go.Proofs.YtchpcpaacenodaaGreat
section
open Go
def lH (t:Int):Bool:=decide (1<=t) && decide (t<=255) && (t % 32 != 31)
def nE (t:Int):Bool:=t / 32 % 2 == 1
mutual
def Ah.formed:Ah->Bool
 | .mk t b n es=>lH t && (n == nE t) && !(n && decide (0 < b.length)) && !(!n && decide (0 < es.length)) && Ll es
def Ll:List Ah->Bool
 | []=>true
 | v :: vs=>v.formed && Ll vs
end
theorem Sg:∀ es:List Ah,Ll es=es.all Ah.formed
 | []=>by simp [Ll]
 | v :: vs=>by rw [Ll,Sg vs,List.all_cons]
mutual
def Ah.depth:Ah->Nat
 | .mk _ _ _ es=>G5 es + 1
def G5:List Ah->Nat
 | []=>0
 | v :: vs=>max v.depth (G5 vs)
end
theorem Sw:∀ a b:List Ah,G5 (a ++ b)=max (G5 a) (G5 b)
 | [],b=>by simp [G5]
 | v :: vs,b=>by rw [aI3,G5,G5,Sw vs b,Nat.max_assoc]
theorem Vn {es:List Ah} {k:Nat} {d:Ah} (h:es[k]?=some d):G5 (es.take (k + 1))=max (G5 (es.take k)) d.depth:=by
 obtain⟨hk,e⟩:=aD1.1 h
 rw [aI9 hk,Sw,e,G5,G5,Nat.max_zero]
mutual
def Ah.same:Ah->Ah->Bool
 | .mk t b n es,.mk t' b' n' es'=>t == t' && n == n' && b == b' && mX es es'
def mX:List Ah->List Ah->Bool
 | [],[]=>true
 | v :: vs,u :: us=>v.same u && mX vs us
 | _,_=>false
end
def Kg:List UInt8->List UInt8
 | x :: y :: r=>if (x=0/\y < 128)\/(x=255/\128<=y) then Kg (y :: r) else x :: y :: r
 | l=>l
def pU (n:Int) (k:Nat):List UInt8:=(List.range k).map fun j=>UInt8.ofNat ((IntKind.u64.wrap n).toNat / 2 ^ (56 - 8 * j) % 256)
def uV (n:Int):List UInt8:=Kg (pU n 8)
def Tz (n:Int):Ah:=.mk 2 (uV n) false []
theorem fB (n:Int):0<=IntKind.u64.wrap n/\IntKind.u64.wrap n < 18446744073709551616:=by
 rw [IntKind.wrap_u64]; omega
theorem jB:∀ l:List UInt8,(Kg l).length<=l.length
 | []=>by simp [Kg]
 | [_]=>by simp [Kg]
 | x :: y :: r=>by
  rw [Kg]
  split
  ·have:=jB (y :: r); simp at this ⊢; omega
  ·simp
def Gf (n:Int):Nat->Bool
 | 1=>decide (-128<=n/\n < 128)
 | 2=>decide (-32768<=n/\n < 32768)
 | 3=>decide (-8388608<=n/\n < 8388608)
 | 4=>decide (-2147483648<=n/\n < 2147483648)
 | 5=>decide (-549755813888<=n/\n < 549755813888)
 | 6=>decide (-140737488355328<=n/\n < 140737488355328)
 | 7=>decide (-36028797018963968<=n/\n < 36028797018963968)
 | 8=>true
 | _=>false
def Th (n:Int):Nat:=if Gf n 1 then 1 else if Gf n 2 then 2 else if Gf n 3 then 3 else if Gf n 4 then 4 else if Gf n 5 then 5 else if Gf n 6 then 6 else if Gf n 7 then 7 else 8
def Em (n:Int) (j:Nat):UInt8:=UInt8.ofNat ((n / 256 ^ j % 256).toNat)
theorem E6 (n:Int) (j:Nat):((Em n j).toNat:Int)=n / 256 ^ j % 256:=by
 unfold Em
 have h:0<=n / 256 ^ j % 256/\n / 256 ^ j % 256 < 256:=by omega
 rw [aJ2,aJe (by omega)]
 omega
theorem eR (n:Int) (j:Nat) (hj:j<=7):(IntKind.u64.wrap n) / 2 ^ (8 * j) % 256=n / 256 ^ j % 256:=by
 rw [IntKind.wrap_u64]
 match j,hj with
 | 0,_=>simp
 | 1,_=>simp; omega
 | 2,_=>simp; omega
 | 3,_=>simp; omega
 | 4,_=>simp; omega
 | 5,_=>simp; omega
 | 6,_=>simp; omega
 | 7,_=>simp; omega
theorem be8 (n:Int):pU n 8=[Em n 7,Em n 6,Em n 5,Em n 4,Em n 3,Em n 2,Em n 1,Em n 0]:=by
 have key:∀ j,j<=7->UInt8.ofNat ((IntKind.u64.wrap n).toNat / 2 ^ (8 * j) % 256)=Em n j:=by
  intro j hj
  have h:=fB n
  have h2:=eR n j hj
  unfold Em
  rw [<- h2]
  obtain⟨m,hm⟩:=Int.eq_ofNat_of_zero_le h.1
  rw [hm]
  congr 1
 have h:=fun j hj=>key j hj
 unfold pU
 simp only [List.range,List.range.loop,aIi,List.map_nil]
 rw [<- h 7 (by omega),<- h 6 (by omega),<- h 5 (by omega),<- h 4 (by omega),<- h 3 (by omega),<- h 2 (by omega),<- h 1 (by omega),<- h 0 (by omega)]
theorem Pg {x y:UInt8} {r:List UInt8} {c:Bool} (h:(((x.toNat:Int)=0/\(y.toNat:Int) < 128)\/((x.toNat:Int)=255/\(128:Int)<=y.toNat))↔c=true):Kg (x :: y :: r)=if c then Kg (y :: r) else x :: y :: r:=by
 have h1:((x=0/\y < 128)\/(x=255/\128<=y))↔(((x.toNat:Int)=0/\(y.toNat:Int) < 128)\/((x.toNat:Int)=255/\(128:Int)<=y.toNat)):=by
  have e0:x=0↔(x.toNat:Int)=0:=⟨fun e=>by rw [e]; rfl,fun e=>UInt8.toNat.inj (by simp; omega)⟩
  have e1:x=255↔(x.toNat:Int)=255:=⟨fun e=>by rw [e]; rfl,fun e=>UInt8.toNat.inj (by simp; omega)⟩
  have e2:y < 128↔(y.toNat:Int) < 128:=by rw [UInt8.lt_iff_toNat_lt]; simp; omega
  have e3:128<=y↔(128:Int)<=y.toNat:=by rw [UInt8.le_iff_toNat_le]; simp; omega
  rw [e0,e1,e2,e3]
 rw [Kg]
 by_cases hc:c=true
 ·rw [if_pos (h1.2 (h.2 hc)),if_pos hc]
 ·rw [if_neg (fun g=>hc (h.1 (h1.1 g))),if_neg hc]
theorem tP (n:Int) (_h1:-9223372036854775808<=n) (_h2:n<=9223372036854775807) (r:List UInt8):Kg (Em n 7 :: Em n 6 :: r)=if Gf n 7 then Kg (Em n 6 :: r) else Em n 7 :: Em n 6 :: r:=by
 refine Pg ?_
 rw [E6,E6]; unfold Gf; simp; omega
theorem qW (n:Int) (h:Gf n 7=true) (r:List UInt8):Kg (Em n 6 :: Em n 5 :: r)=if Gf n 6 then Kg (Em n 5 :: r) else Em n 6 :: Em n 5 :: r:=by
 unfold Gf at h; simp at h
 refine Pg ?_
 rw [E6,E6]; unfold Gf; simp; omega
theorem qZ (n:Int) (h:Gf n 6=true) (r:List UInt8):Kg (Em n 5 :: Em n 4 :: r)=if Gf n 5 then Kg (Em n 4 :: r) else Em n 5 :: Em n 4 :: r:=by
 unfold Gf at h; simp at h
 refine Pg ?_
 rw [E6,E6]; unfold Gf; simp; omega
theorem sX (n:Int) (h:Gf n 5=true) (r:List UInt8):Kg (Em n 4 :: Em n 3 :: r)=if Gf n 4 then Kg (Em n 3 :: r) else Em n 4 :: Em n 3 :: r:=by
 unfold Gf at h; simp at h
 refine Pg ?_
 rw [E6,E6]; unfold Gf; simp; omega
theorem rF (n:Int) (h:Gf n 4=true) (r:List UInt8):Kg (Em n 3 :: Em n 2 :: r)=if Gf n 3 then Kg (Em n 2 :: r) else Em n 3 :: Em n 2 :: r:=by
 unfold Gf at h; simp at h
 refine Pg ?_
 rw [E6,E6]; unfold Gf; simp; omega
theorem rK (n:Int) (h:Gf n 3=true) (r:List UInt8):Kg (Em n 2 :: Em n 1 :: r)=if Gf n 2 then Kg (Em n 1 :: r) else Em n 2 :: Em n 1 :: r:=by
 unfold Gf at h; simp at h
 refine Pg ?_
 rw [E6,E6]; unfold Gf; simp; omega
theorem tU (n:Int) (h:Gf n 2=true) (r:List UInt8):Kg (Em n 1 :: Em n 0 :: r)=if Gf n 1 then Kg (Em n 0 :: r) else Em n 1 :: Em n 0 :: r:=by
 unfold Gf at h; simp at h
 refine Pg ?_
 rw [E6,E6]; unfold Gf; simp; omega
theorem Fe {n:Int} {j:Nat} (hj:1<=j) (h7:j<=6) (h:¬ Gf n (j + 1)=true):¬ Gf n j=true:=by
 match j,hj,h7 with
 | 1,_,_=>unfold Gf at *; simp at *; omega
 | 2,_,_=>unfold Gf at *; simp at *; omega
 | 3,_,_=>unfold Gf at *; simp at *; omega
 | 4,_,_=>unfold Gf at *; simp at *; omega
 | 5,_,_=>unfold Gf at *; simp at *; omega
 | 6,_,_=>unfold Gf at *; simp at *; omega
theorem nD (n:Int) (h1:-9223372036854775808<=n) (h2:n<=9223372036854775807):uV n=(pU n 8).drop (8 - Th n):=by
 unfold uV
 rw [be8]
 by_cases f7:Gf n 7=true
 ·rw [tP n h1 h2,if_pos f7]
  by_cases f6:Gf n 6=true
  ·rw [qW n f7,if_pos f6]
   by_cases f5:Gf n 5=true
   ·rw [qZ n f6,if_pos f5]
    by_cases f4:Gf n 4=true
    ·rw [sX n f5,if_pos f4]
     by_cases f3:Gf n 3=true
     ·rw [rF n f4,if_pos f3]
      by_cases f2:Gf n 2=true
      ·rw [rK n f3,if_pos f2]
       by_cases f1:Gf n 1=true
       ·rw [tU n f2,if_pos f1]
        rw [Kg]
        ·simp [Th,f1]
        ·intro x y r h; cases h
       ·rw [tU n f2,if_neg f1]
        simp [Th,f1,f2]
      ·rw [rK n f3,if_neg f2]
       have f1:=Fe (j:=1) (by omega) (by omega) f2
       simp [Th,f1,f2,f3]
     ·rw [rF n f4,if_neg f3]
      have f2:=Fe (j:=2) (by omega) (by omega) f3
      have f1:=Fe (j:=1) (by omega) (by omega) f2
      simp [Th,f1,f2,f3,f4]
    ·rw [sX n f5,if_neg f4]
     have f3:=Fe (j:=3) (by omega) (by omega) f4
     have f2:=Fe (j:=2) (by omega) (by omega) f3
     have f1:=Fe (j:=1) (by omega) (by omega) f2
     simp [Th,f1,f2,f3,f4,f5]
   ·rw [qZ n f6,if_neg f5]
    have f4:=Fe (j:=4) (by omega) (by omega) f5
    have f3:=Fe (j:=3) (by omega) (by omega) f4
    have f2:=Fe (j:=2) (by omega) (by omega) f3
    have f1:=Fe (j:=1) (by omega) (by omega) f2
    simp [Th,f1,f2,f3,f4,f5,f6]
  ·rw [qW n f7,if_neg f6]
   have f5:=Fe (j:=5) (by omega) (by omega) f6
   have f4:=Fe (j:=4) (by omega) (by omega) f5
   have f3:=Fe (j:=3) (by omega) (by omega) f4
   have f2:=Fe (j:=2) (by omega) (by omega) f3
   have f1:=Fe (j:=1) (by omega) (by omega) f2
   simp [Th,f1,f2,f3,f4,f5,f6,f7]
 ·rw [tP n h1 h2,if_neg f7]
  have f6:=Fe (j:=6) (by omega) (by omega) f7
  have f5:=Fe (j:=5) (by omega) (by omega) f6
  have f4:=Fe (j:=4) (by omega) (by omega) f5
  have f3:=Fe (j:=3) (by omega) (by omega) f4
  have f2:=Fe (j:=2) (by omega) (by omega) f3
  have f1:=Fe (j:=1) (by omega) (by omega) f2
  simp [Th,f1,f2,f3,f4,f5,f6,f7]
theorem jO (n:Int) (h1:-9223372036854775808<=n) (h2:n<=9223372036854775807) (k:Nat) (hk:k<=7) :
  Gf n (k + 1)=true↔(n / 256 ^ (k + 1)=0/\((Em n k).toNat:Int) < 128)\/(n / 256 ^ (k + 1)=-1/\(128:Int)<=(Em n k).toNat):=by
 match k,hk with
 | 0,_=>rw [E6]; unfold Gf; simp; omega
 | 1,_=>rw [E6]; unfold Gf; simp; omega
 | 2,_=>rw [E6]; unfold Gf; simp; omega
 | 3,_=>rw [E6]; unfold Gf; simp; omega
 | 4,_=>rw [E6]; unfold Gf; simp; omega
 | 5,_=>rw [E6]; unfold Gf; simp; omega
 | 6,_=>rw [E6]; unfold Gf; simp; omega
 | 7,_=>rw [E6]; unfold Gf; simp; omega
theorem Uc (n:Int) (k:Nat) (hk:k<=7):(pU n 8).drop (7 - k)=Em n k :: (pU n 8).drop (8 - k):=by
 rw [be8]
 match k,hk with
 | 0,_=>rfl
 | 1,_=>rfl
 | 2,_=>rfl
 | 3,_=>rfl
 | 4,_=>rfl
 | 5,_=>rfl
 | 6,_=>rfl
 | 7,_=>rfl
theorem iM (n:Int) (k:Nat) (hk:k<=7) (hn:∀ j,1<=j->j<=k->Gf n j=false) (hf:Gf n (k + 1)=true):Th n=k + 1:=by
 have g:=fun j (h1:1<=j) (h2:j<=k)=>hn j h1 h2
 unfold Th
 match k,hk,hf,g with
 | 0,_,hf,_=>simp [hf]
 | 1,_,hf,g=>simp [hf,g 1 (by omega) (by omega)]
 | 2,_,hf,g=>simp [hf,g 1 (by omega) (by omega),g 2 (by omega) (by omega)]
 | 3,_,hf,g=>simp [hf,g 1 (by omega) (by omega),g 2 (by omega) (by omega),g 3 (by omega) (by omega)]
 | 4,_,hf,g=>simp [hf,g 1 (by omega) (by omega),g 2 (by omega) (by omega),g 3 (by omega) (by omega),g 4 (by omega) (by omega)]
 | 5,_,hf,g=>simp [hf,g 1 (by omega) (by omega),g 2 (by omega) (by omega),g 3 (by omega) (by omega),g 4 (by omega) (by omega),g 5 (by omega) (by omega)]
 | 6,_,hf,g=>simp [hf,g 1 (by omega) (by omega),g 2 (by omega) (by omega),g 3 (by omega) (by omega),g 4 (by omega) (by omega),g 5 (by omega) (by omega),g 6 (by omega) (by omega)]
 | 7,_,_,g=>simp [g 1 (by omega) (by omega),g 2 (by omega) (by omega),g 3 (by omega) (by omega),g 4 (by omega) (by omega),g 5 (by omega) (by omega),g 6 (by omega) (by omega),g 7 (by omega) (by omega)]
theorem uB (n:Int) (k:Nat):n / 256 ^ (k + 1) / 256=n / 256 ^ (k + 1 + 1):=by
 rw [Int.pow_succ 256 (k + 1)]
 have h:(0:Int)<=256 ^ (k + 1):=Int.pow_nonneg (by omega)
 first | exact Int.ediv_ediv_of_nonneg h | exact Int.ediv_ediv_eq_ediv_mul _ h | (rw [Int.ediv_ediv,if_neg (by omega)]; simp)
def be (n:Nat):List UInt8:=if h:n=0 then [] else be (n / 256) ++ [UInt8.ofNat (n % 256)]
termination_by n
decreasing_by omega
theorem aFg:be 0=[]:=by rw [be]; rfl
theorem tR {n:Nat} (h:0 < n):be n=be (n / 256) ++ [UInt8.ofNat (n % 256)]:=by rw [be]; rw [dif_neg (by omega)]
def yW (n:Nat):Nat:=(be n).length
theorem aAa:yW 0=0:=by unfold yW; rw [aFg]; rfl
theorem nH {n:Nat} (h:0 < n):yW n=yW (n / 256) + 1:=by unfold yW; rw [tR h]; simp
theorem uP (k:Nat):∀ n,n < 256 ^ k->yW n<=k:=by
 induction k with
 | zero=>
  intro n h
  have:n=0:=by simpa using h
  subst this
  rw [aAa]
  omega
 | succ k ih=>
  intro n h
  rcases aHq n with h0 | h0
  ·subst h0; rw [aAa]; omega
  ·rw [nH h0]
   have:=ih (n / 256) (by rw [Nat.pow_succ] at h; exact Nat.div_lt_of_lt_mul (by rw [Nat.mul_comm]; exact h))
   omega
def lX (n:Nat):List UInt8:=if n < 128 then [UInt8.ofNat n] else UInt8.ofNat (128 + yW n) :: be n
mutual
def Ah.put:Ah->List UInt8
 | .mk t b n es=>UInt8.ofNat (t.toNat % 256) :: (lX ((if n then Ha es else b).length) ++ (if n then Ha es else b))
def Ha:List Ah->List UInt8
 | []=>[]
 | v :: vs=>v.put ++ Ha vs
end
def Ah.body:Ah->List UInt8 | .mk _ b n es=>if n then Ha es else b
theorem aAs (t:Int) (b:List UInt8) (n:Bool) (es:List Ah):(Ah.mk t b n es).put=UInt8.ofNat (t.toNat % 256) :: (lX (Ah.mk t b n es).body.length ++ (Ah.mk t b n es).body):=by rw [Ah.put]; rfl
theorem Qa:∀ a b:List Ah,Ha (a ++ b)=Ha a ++ Ha b
 | [],b=>by simp [Ha]
 | v :: vs,b=>by rw [aI3,Ha,Ha,Qa vs b,aH4]
theorem Xf {es:List Ah} {k:Nat} {d:Ah} (h:es[k]?=some d):Ha (es.take (k + 1))=Ha (es.take k) ++ d.put:=by
 obtain⟨hk,e⟩:=aD1.1 h
 rw [aI9 hk,Qa,e]
 simp [Ha]
theorem bL {es:List Ah} (k:Nat):(Ha (es.take k)).length<=(Ha es).length:=by
 have:=Qa (es.take k) (es.drop k)
 rw [aIo] at this
 rw [this,aGd]; omega
theorem fR {n:Nat} (h:n < 256 ^ 6):(lX n).length<=7:=by
 unfold lX
 split
 ·simp
 ·have:=uP 6 n h
  unfold yW at this
  simp; omega
end
section
open Go
mutual
def Ah.sz:Ah->Nat
 | .mk _ b _ es=>b.length + V1 es + 1
def V1:List Ah->Nat
 | []=>0
 | v :: vs=>v.sz + V1 vs
end
theorem Sq (v:Ah):v.sz=v.Bytes.length + V1 v.Elements + 1:=by cases v; rw [Ah.sz]
theorem gM:∀ {es:List Ah} {d:Ah},d∈es->d.sz<=V1 es
 | v :: vs,d,h=>by
  rw [V1]
  rcases aFt.1 h with rfl | h
  ·omega
  ·have:=gM h; omega
theorem Wx:∀ es:List Ah,es.length<=V1 es
 | []=>aGz _
 | v :: vs=>by
  have:=Wx vs
  rw [V1,aH2,Sq]; omega
theorem Xb {v d:Ah} (h:d∈v.Elements):d.sz < v.sz:=by
 have:=gM h
 rw [Sq v]; omega
theorem fG (l:List Ah) (h:V1 l < 1073741824):C1 l=some l:=
 Ur Wa id V1 (fun l=>V1 l < 1073741824) (fun rec l hl hr=>by
  show C1.F rec l=some l
  unfold C1.F
  have hn:=Wx l
  refine (Q5 l.length (fun i=>((i:Int),l.take i)) l ?_ ?_).trans ?_
  ·intro i hi
   obtain⟨e,he⟩:∃ e,l[i]?=some e:=⟨_,aBo hi⟩
   have h1:=gM (Ia he)
   have h2:=Sq e
   show C1.l1 rec l (i:Int) (l.take i)=_
   unfold C1.l1
   rw [G7 he,Fr (by simp; omega)]
   simp only [aIu,aAc]
   rw [hr e.Elements (by omega) (by omega)]
   simp only [id,aAc]
   rw [Fr (by simp; omega),Iq (by omega),I9 he]
   cases e; rfl
  ·show C1.l1 rec l (l.length:Int) (l.take l.length)=_
   unfold C1.l1
   rw [Fs,aIc]; rfl
  ·rfl) l h
theorem Vy (l:List Ah) (h:V1 l < 1073741824):I7 l=some (.mk 48 [] true l):=by unfold I7; rw [fG l h]; rfl
theorem mB {n:Int} (h1:1<=n) (h2:n<=255):∃ m:Fin 256,n=(m.val:Int):=⟨⟨n.toNat,by omega⟩,by simp; omega⟩
theorem pF:∀ m:Fin 256,(!decide ((m.val:Int).tmod 32=31))=((m.val:Int) % 32 != 31):=by decide +kernel
theorem qM:∀ m:Fin 256,((M1 (m.val:Int) 32).bind fun q=>(Xu q 2).bind fun r=>some (decide (r=1)))=some (nE (m.val:Int)):=by decide +kernel
theorem pO (n:Int):Nb n=some (lH n):=by
 unfold Nb lH
 by_cases h1:1<=n
 ·by_cases h2:n<=255
  ·obtain⟨m,rfl⟩:=mB h1 h2
   rw [<- pF m,aAe h1,aAe h2]; rfl
  ·simp [h1,h2]
 ·simp [h1]
theorem Rv {n:Int} (h:lH n=true):1<=n/\n<=255:=by
 unfold lH at h
 simp only [aGc,aId] at h
 exact⟨h.1.1,h.1.2⟩
theorem Uf (v:Ah):v.formed=(lH v.Tag && (v.Nested == nE v.Tag) && !(v.Nested && decide (0 < v.Bytes.length)) && !(!v.Nested && decide (0 < v.Elements.length)) && Ll v.Elements):=by cases v; rw [Ah.formed]
theorem iK (l:List Ah):(!l.any fun v=>!v.formed)=Ll l:=by
 rw [Sg]
 induction l with
 | nil=>rfl
 | cons v l ih=>rw [aIz,List.all_cons,<- ih]; cases v.formed <;> simp
theorem gE (v:Ah) (h:v.sz < 1073741824):Bt v=some v.formed:=
 Ur W2 Ah.formed Ah.sz (fun v=>v.sz < 1073741824) (fun rec v hv hr=>by
  show Bt.F rec v=some v.formed
  have hn:=Wx v.Elements
  have h0:=Sq v
  have hj1:Bt.j1 rec v true=some false:=rfl
  have hj2:Bt.j1 rec v false=some (Ll v.Elements):=by
   unfold Bt.j1
   have hl:=Rn (body:=fun q'=>Bt.l2 rec v q') v.Elements (fun i=>(i:Int)) (fun v=>!v.formed) false true (fun i x hx=>by
     have h1:=Xb (Ia hx)
     have h2:=Lb hx
     unfold Bt.l2
     rw [G7 hx,hr x (by omega) h1,Iq (by omega)]
     cases x.formed <;> rfl) (by unfold Bt.l2; rw [Fs]; rfl)
   rw [aCx]
   refine aIg hl ?_
   rw [<- iK]
   cases v.Elements.any fun v=>!v.formed <;> rfl
  unfold Bt.F
  rw [pO,hj1,hj2,Uf]
  cases ht:lH v.Tag
  ·rfl
  ·obtain⟨m,hm⟩:=mB (Rv ht).1 (Rv ht).2
   have hq:=qM m
   rw [hm]
   cases h1:M1 (m.val:Int) 32 with
   | none=>rw [h1] at hq; cases hq
   | some q=>
    rw [h1] at hq
    simp only [aAc] at hq
    cases h2:Xu q 2 with
    | none=>rw [h2] at hq; cases hq
    | some r=>
     rw [h2] at hq
     simp only [aAc,Option.some.injEq] at hq
     simp only [aAc,h2,hq]
     cases v.Nested <;> cases nE (m.val:Int) <;> by_cases hb:0 < v.Bytes.length <;> by_cases he:0 < v.Elements.length <;> simp [hb,he,hj1,hj2]) v h
theorem Tk:∀ es:List Ah,G5 es<=V1 es
 | []=>aGz _
 | v :: vs=>by
  obtain⟨t,b,n,es⟩:=v
  have h1:=Tk es
  have h2:=Tk vs
  rw [G5,V1,Ah.depth,Ah.sz]; omega
theorem tX (v:Ah):v.depth<=v.sz:=by
 obtain⟨t,b,n,es⟩:=v
 have:=Tk es
 rw [Ah.depth,Ah.sz]; omega
theorem sP (v:Ah):v.depth=G5 v.Elements + 1:=by cases v; rw [Ah.depth]
theorem jA (v:Ah) (h:v.sz < 1073741824):Dd v=some (v.depth:Int):=
 Ur Xs (fun v=>(v.depth:Int)) Ah.sz (fun v=>v.sz < 1073741824) (fun rec v hv hr=>by
  show Dd.F rec v=some (v.depth:Int)
  unfold Dd.F
  have hn:=Wx v.Elements
  have h0:=Sq v
  have hd:=tX v
  have hq:=sP v
  refine (Q5 v.Elements.length (fun i=>((G5 (v.Elements.take i):Int),(i:Int))) (v.depth:Int) ?_ ?_).trans ?_
  ·intro i hi
   obtain⟨e,he⟩:∃ e,v.Elements[i]?=some e:=⟨_,aBo hi⟩
   have h1:=Xb (Ia he)
   show Dd.l1 rec v (G5 (v.Elements.take i):Int) (i:Int)=_
   unfold Dd.l1
   rw [G7 he,hr e (by omega) h1,Iq (by omega),Vn he]
   simp only [aAc]
   congr 3
   omega
  ·show Dd.l1 rec v (G5 (v.Elements.take v.Elements.length):Int) (v.Elements.length:Int)=_
   unfold Dd.l1
   rw [Fs,aIc,Es (by omega),hq]; rfl
  ·rfl) v h
end
section
open Go
theorem gF (m:Nat):u8 (m:Int)=UInt8.ofNat m:=by
 apply aKb.1
 have:=jE (m:Int)
 rw [aJ2]
 omega
theorem rS (n:Int) (k:Nat):u8 (n / 256 ^ k)=Em n k:=rfl
theorem yL {k:IntKind} {x y:Int} (e:Nat) (hy:y=(e:Int)) (he:e<=k.bits):Qc k x y=some (x / 2 ^ e):=by
 subst hy
 unfold Qc
 rw [if_neg (by omega),aH1,aJh he,aJt]
 exact Int.pow_nonneg (by omega)
theorem aEw {x:Int}:Qc .i64 x 8=some (x / 256):=yL (k:=.i64) 8 rfl (by decide)
theorem nK (n:Int) (k:Nat):(pU n k).length=k:=by unfold pU; simp
theorem bF (x:Int) (y:UInt8) (r:List UInt8):Ct.l1 x (y :: r)=Ct.j2 x (y :: r) (!((decide (x=0) && decide ((y.toNat:Int) < 128)) || (decide (x=-1) && decide (128<=(y.toNat:Int))))):=by
 have G:B8 (y :: r) 0=some y:=rfl
 unfold Ct.l1
 by_cases h0:x=0
 ·have h1:¬ x=-1:=by omega
  by_cases c:(y.toNat:Int) < 128
  ·have c':¬ (128:Int)<=(y.toNat:Int):=by omega
   simp [h0,G,c,c']
  ·have c':(128:Int)<=(y.toNat:Int):=by omega
   simp [h0,G,c,c']
 ·by_cases h1:x=-1
  ·by_cases c:(y.toNat:Int) < 128
   ·have c':¬ (128:Int)<=(y.toNat:Int):=by omega
    simp [h1,G,c,c']
   ·have c':(128:Int)<=(y.toNat:Int):=by omega
    simp [h1,G,c,c']
  ·simp [h0,h1]
theorem gH (n:Int) (h1:-9223372036854775808<=n) (h2:n<=9223372036854775807):∀ d k,k + d=7->(∀ j,1<=j->j<=k->Gf n j=false)->Cl (fun q'=>Ct.l1 q'.1 q'.2) (n / 256 ^ (k + 1),(pU n 8).drop (7 - k))=some (Tz n):=by
 intro d
 induction d with
 | zero=>
  intro k hk hn
  obtain rfl:k=7:=by omega
  have hf:=(jO n h1 h2 7 (by omega)).1 rfl
  rw [H5]
  dsimp only
  rw [Uc n 7 (by omega),bF]
  have hs:=iM n 7 (by omega) hn rfl
  have hc:((decide (n / 256 ^ (7 + 1)=0) && decide (((Em n 7).toNat:Int) < 128)) || (decide (n / 256 ^ (7 + 1)=-1) && decide (128<=((Em n 7).toNat:Int))))=true:=by simpa using hf
  rw [hc]
  show some (Ah.mk 2 (Em n 7 :: (pU n 8).drop (8 - 7)) false [])=some (Tz n)
  unfold Tz
  rw [nD n h1 h2,hs,<- Uc n 7 (by omega)]
 | succ d ih=>
  intro k hk hn
  have FI:=jO n h1 h2 k (by omega)
  rw [H5]
  dsimp only
  rw [Uc n k (by omega),bF]
  cases hf:Gf n (k + 1) with
  | true=>
   have hs:=iM n k (by omega) hn hf
   have hc:((decide (n / 256 ^ (k + 1)=0) && decide (((Em n k).toNat:Int) < 128)) || (decide (n / 256 ^ (k + 1)=-1) && decide (128<=((Em n k).toNat:Int))))=true:=by simpa using FI.1 hf
   rw [hc]
   show some (Ah.mk 2 (Em n k :: (pU n 8).drop (8 - k)) false [])=some (Tz n)
   unfold Tz
   rw [nD n h1 h2,hs,<- Uc n k (by omega),show 8 - (k + 1)=7 - k by omega]
  | false=>
   have hc:((decide (n / 256 ^ (k + 1)=0) && decide (((Em n k).toNat:Int) < 128)) || (decide (n / 256 ^ (k + 1)=-1) && decide (128<=((Em n k).toNat:Int))))=false:=by
    cases hq:((decide (n / 256 ^ (k + 1)=0) && decide (((Em n k).toNat:Int) < 128)) || (decide (n / 256 ^ (k + 1)=-1) && decide (128<=((Em n k).toNat:Int)))) with
    | false=>rfl
    | true=>
     have:=FI.2 (by simpa using hq)
     rw [hf] at this; cases this
   rw [hc]
   have e:=ih (k + 1) (by omega) fun j a b=>by
    rcases aI0 k j with h | h
    ·obtain rfl:j=k + 1:=by omega
     exact hf
    ·exact hn j a h
   rw [Uc n (k + 1) (by omega),show 8 - (k + 1)=7 - k by omega,<- uB] at e
   unfold Ct.j2
   rw [aJg,aD8,Fr (by simp [nK]; omega),aEw,<- Uc n k (by omega)]
   exact e
theorem Ms (n:Int) (h1:-9223372036854775808<=n) (h2:n<=9223372036854775807):Ct n=some (Tz n):=by
 unfold Ct
 rw [aEw]
 have:=gH n h1 h2 7 0 (by omega) (fun j a b=>by omega)
 rw [show (pU n 8).drop (7 - 0)=[Em n 0] by rw [be8]; rfl] at this
 rw [aAc,show u8 n=Em n 0 by rw [<- rS]; simp]
 exact this
theorem R0 (n:Int):(Tz n).sz<=9:=by
 unfold Tz
 rw [Sq]
 have h:=jB (pU n 8)
 rw [nK] at h
 show (uV n).length + V1 [] + 1<=9
 unfold uV
 rw [V1]; omega
end
section
open Go
mutual
theorem lS:∀ v:Ah,v.sz < 67108864->v.put.length<=8 * v.sz
 | .mk t b n es,h=>by
  rw [Ah.sz] at h ⊢
  have h1:=X6 es (by omega)
  rw [Ah.put]
  cases n
  ·have h2:=fR (n:=b.length) (by omega)
   simp; omega
  ·have h2:=fR (n:=(Ha es).length) (by omega)
   simp; omega
theorem X6:∀ es:List Ah,V1 es < 67108864->(Ha es).length<=8 * V1 es
 | [],_=>by simp [Ha]
 | v :: vs,h=>by
  rw [V1] at h ⊢
  have h1:=lS v (by omega)
  have h2:=X6 vs (by omega)
  rw [Ha,aGd]; omega
end
theorem vL (n k:Nat) (hk:0 < k):Xu (n:Int) (k:Int)=some ((n % k:Nat):Int):=by
 unfold Xu
 rw [if_neg (by omega),Int.tmod_eq_emod_of_nonneg (by omega)]; rfl
theorem rI (n k:Nat) (hk:0 < k) (hn:n < 4611686018427387904):M1 (n:Int) (k:Int)=some ((n / k:Nat):Int):=by
 unfold M1
 have:n / k<=n:=Nat.div_le_self n k
 rw [if_neg (by omega),Int.tdiv_eq_ediv_of_nonneg (by omega),show ((n:Int) / (k:Int))=((n / k:Nat):Int) from rfl,aEb (by omega)]
theorem fJ (n:Nat):∀ (b:List UInt8),n < 281474976710656->yW n + b.length<=1000->Cl (fun q'=>Ex.l1 q'.1 q'.2) ((n:Int),b)=some (UInt8.ofNat (128 + (be n ++ b).length) :: (be n ++ b)):=by
 induction n using Nat.strongRecOn with
 | _ n ih=>
  intro b hn hb
  rcases aHq n with h0 | h0
  ·subst h0
   refine dL ?_
   show Ex.l1 ((0:Nat):Int) b=_
   unfold Ex.l1
   rw [aAg (by omega),aCx,Es (by omega),Fr (by simp; omega),show (128:Int) + (b.length:Int)=((128 + b.length:Nat):Int) by omega,gF,aFg]
   rfl
  ·have hc:=nH h0
   have e:=ih (n / 256) (Nat.div_lt_self h0 (by omega)) ([UInt8.ofNat (n % 256)] ++ b) (Nat.lt_of_le_of_lt (Nat.div_le_self n 256) hn) (by simp; omega)
   refine (Ej (s':=(((n / 256:Nat):Int),[UInt8.ofNat (n % 256)] ++ b)) ?_).trans (e.trans ?_)
   ·show Ex.l1 (n:Int) b=_
    unfold Ex.l1
    rw [aAe (by omega),aD8,show (256:Int)=((256:Nat):Int) from rfl,vL n 256 (by omega),aAc,Fr (by simp; omega),aAc,rI n 256 (by omega) (by omega),aAc,gF]
   ·rw [tR h0]
    simp
theorem eM {n:Nat} (hn:n < 281474976710656):Ex (n:Int)=some (lX n):=by
 unfold Ex lX
 by_cases h:n < 128
 ·rw [aAe (by omega),if_pos h,gF]; rfl
 ·rw [aAg (by omega),if_neg h,aCx]
  have hc:=uP 6 n (by simpa using hn)
  refine (fJ n [] hn (by simp; omega)).trans ?_
  rw [List.append_nil]; rfl
end
section
open Go
theorem iS (v:Ah):v.put=UInt8.ofNat (v.Tag.toNat % 256) :: (lX v.body.length ++ v.body):=by cases v; exact aAs _ _ _ _
theorem wG (v:Ah):v.body=if v.Nested then Ha v.Elements else v.Bytes:=by cases v; rfl
theorem yR (v:Ah) (h:v.sz < 67108864):v.body.length<=8 * v.sz:=by
 have h1:=lS v h
 rw [iS] at h1
 simp at h1
 omega
theorem kK {v:Ah} (h:v.formed=true):u8 v.Tag=UInt8.ofNat (v.Tag.toNat % 256):=by
 rw [Uf] at h
 simp only [aGc] at h
 obtain⟨m,hm⟩:=mB (Rv h.1.1.1.1).1 (Rv h.1.1.1.1).2
 rw [hm,gF,aH1,aJe m.2]
theorem mL {v:Ah} (h:v.formed=true):v.Bytes ++ Ha v.Elements=v.body:=by
 rw [Uf] at h
 simp only [aGc] at h
 obtain⟨⟨⟨-,h1⟩,h2⟩,-⟩:=h
 rw [wG]
 cases hn:v.Nested with
 | true=>
  rw [hn] at h1
  have:v.Bytes=[]:=aGb (by simp at h1; simpa using h1)
  rw [this]; rfl
 | false=>
  rw [hn] at h2
  have:v.Elements=[]:=aGb (by simp at h2; simpa using h2)
  rw [this]; simp [Ha]
theorem lA {v e:Ah} (h:v.formed=true) (he:e∈v.Elements):e.formed=true:=by
 rw [Uf] at h
 simp only [aGc] at h
 have:=h.2
 rw [Sg,aGf] at this
 exact this e he
def Fit (v:Ah):Prop:=v.formed=true/\v.sz < 67108864
theorem Fit.elem {v e:Ah} (h:Fit v) (he:e∈v.Elements):Fit e:=⟨lA h.1 he,Nat.lt_trans (Xb he) h.2⟩
theorem Yu {v:Ah} (h:Fit v) (i:Nat):(Ha (v.Elements.take i)).length<=536870912:=by
 have h1:=bL (es:=v.Elements) i
 have h0:=Sq v
 have h2:=h.2
 have h3:=X6 v.Elements (by omega)
 omega
theorem oZ (v:Ah) (h:Fit v):Dz v=some v.put:=
 Ur Zy Ah.put Ah.sz Fit (fun rec v hv hr=>by
  show Dz.F rec v=some v.put
  unfold Dz.F
  have hn:=Wx v.Elements
  have h0:=Sq v
  have hz:=hv.2
  rw [Fr (by simp; omega),aIu,aAc]
  refine aIg (congrArg (Cl _) ?_) (Q5 v.Elements.length (fun i=>((i:Int),v.Bytes ++ Ha (v.Elements.take i))) v.put ?_ ?_)
  ·simp [Ha]
  ·intro i hi
   obtain⟨e,he⟩:∃ e,v.Elements[i]?=some e:=⟨_,aBo hi⟩
   have h1:=Xb (Ia he)
   have h2:=Yu hv i
   have h3:=lS e (by omega)
   show Dz.l1 rec v (i:Int) (v.Bytes ++ Ha (v.Elements.take i))=_
   unfold Dz.l1
   rw [G7 he,hr e (hv.elem (Ia he)) h1,aAc,Fr (by simp; omega),Iq (by omega),Xf he,aH4]
   rfl
  ·show Dz.l1 rec v (v.Elements.length:Int) (v.Bytes ++ Ha (v.Elements.take v.Elements.length))=_
   have h4:=yR v hz
   have h5:=fR (n:=v.body.length) (by omega)
   unfold Dz.l1
   rw [Fs,aIc,mL hv.1,eM (by omega),aAc,Fr (by simp; omega),aAc,Fr (by simp; omega),aAc,kK hv.1,iS]
   simp [up]) v h
def rU (v:Ah):List UInt8×Int:=if v.formed then (if 16 < v.depth then ([],3) else if 4096 < v.put.length then ([],3) else (v.put,0)) else ([],1)
theorem gN (v:Ah) (h:v.sz < 67108864):Ks v=some (rU v):=by
 unfold Ks rU
 rw [gE v (by omega),aAc]
 cases hf:v.formed with
 | false=>rfl
 | true=>
  rw [aG4,aCx,if_pos rfl,jA v (by omega),aAc]
  by_cases hd:16 < v.depth
  ·rw [aAe (by omega),if_pos hd]; rfl
  ·rw [aAg (by omega),if_neg hd,aCx,oZ v ⟨hf,h⟩,aAc]
   by_cases hl:4096 < v.put.length
   ·rw [aAe (by omega),if_pos hl]; rfl
   ·rw [aAg (by omega),if_neg hl]; rfl
end
end Go.Proofs.YtchpcpaacenodaaGreat
