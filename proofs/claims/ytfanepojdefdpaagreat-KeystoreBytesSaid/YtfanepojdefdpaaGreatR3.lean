/- Plain texts, joined. No program is in sight here. -/
import Derived.Test.YtfanepojdefdpaaGreatD8
import Derived.Test.YtfanepojdefdpaaGreatK6
import Derived.Test.YtfanepojdefdpaaGreatM2
set_option linter.unusedVariables false
set_option linter.unusedSimpArgs false
set_option maxRecDepth 100000
namespace Go.Proofs.YtfanepojdefdpaaGreat
section
open Go
def Yj (a:Int) (l:List UInt8):Int:=l.foldl (fun a x=>a * 256 + (x.toNat:Int)) a
def uG (x:UInt8):Int:=if 128<=(x.toNat:Int) then -1 else 0
theorem orN (z:Int) (y:Nat) (hy:y < 256):(((BitVec.ofInt 64 (z * 256) ||| BitVec.ofInt 64 (y:Int)).toNat:Nat):Int)=(z * 256 + y) % 18446744073709551616:=by
 rw [BitVec.toNat_or,aG1,aG1]
 have e1:(((2 ^ 64:Nat):Int))=18446744073709551616:=by decide
 rw [e1]
 have h1:0<=z * 256 % 18446744073709551616/\z * 256 % 18446744073709551616 < 18446744073709551616:=by omega
 have h2:((y:Int) % 18446744073709551616).toNat=y:=by omega
 rw [h2,lC _ _ (by omega) hy]
 omega
theorem Td (z:Int):BitVec.ofInt 64 (IntKind.u64.wrap z)=BitVec.ofInt 64 z:=by
 apply aIc
 rw [aG1,aG1,IntKind.wrap_u64]
 have e1:(((2 ^ 64:Nat):Int))=18446744073709551616:=by decide
 rw [e1]
 omega
theorem cX (z:Int):BitVec.ofInt 64 (IntKind.i64.wrap z)=BitVec.ofInt 64 z:=by
 apply aIc
 rw [aG1,aG1,IntKind.wrap_i64]
 have e1:(((2 ^ 64:Nat):Int))=18446744073709551616:=by decide
 rw [e1]
 omega
theorem jV (z:Int):IntKind.u64.wrap (IntKind.u64.wrap z * 256)=IntKind.u64.wrap (z * 256):=by simp only [IntKind.wrap_u64]; omega
theorem gO (z:Int):IntKind.i64.wrap (IntKind.i64.wrap z * 256)=IntKind.i64.wrap (z * 256):=by simp only [IntKind.wrap_i64]; omega
theorem aD0 (z:Int) (y:UInt8):Zk .u64 (IntKind.u64.wrap (IntKind.u64.wrap z * 256)) (IntKind.u64.wrap (y.toNat:Int))=IntKind.u64.wrap (z * 256 + y.toNat):=by
 show IntKind.u64.wrap ((BitVec.ofInt 64 _ ||| BitVec.ofInt 64 _).toNat:Int)=_
 rw [jV,Td,Td,orN z _ y.toNat_lt]
 simp only [IntKind.wrap_u64]; omega
theorem aEp (z:Int) (y:UInt8):Zk .i64 (IntKind.i64.wrap (IntKind.i64.wrap z * 256)) (y.toNat:Int)=IntKind.i64.wrap (z * 256 + y.toNat):=by
 show IntKind.i64.wrap ((BitVec.ofInt 64 _ ||| BitVec.ofInt 64 _).toNat:Int)=_
 rw [gO,cX,orN z _ y.toNat_lt]
 simp only [IntKind.wrap_i64]; omega
def Qk:List UInt8->Int
 | []=>0
 | x :: r=>IntKind.i64.wrap (Yj (uG x) (x :: r))
theorem iQ (z:Int):IntKind.i64.wrap (IntKind.u64.wrap z)=IntKind.i64.wrap z:=by simp only [IntKind.wrap_u64,IntKind.wrap_i64]; omega
theorem qD (z:Int):IntKind.i64.wrap z=W z:=by rw [IntKind.wrap_i64]; unfold W; omega
theorem Vb (l:List UInt8):-9223372036854775808<=Qk l/\Qk l<=9223372036854775807:=by
 cases l with
 | nil=>exact⟨by decide,by decide⟩
 | cons x r=>
  show _<=IntKind.i64.wrap (Yj (uG x) (x :: r))/\IntKind.i64.wrap (Yj (uG x) (x :: r))<=_
  rw [qD]; exact aV _
theorem Wr {a b:List UInt8}:(Zr a=Zr b)↔a=b:=by
 unfold Zr
 constructor
 ·intro h
  injection h with h
  exact aIg.2 h |> fun h=>by simpa using h
 ·rintro rfl; rfl
def Gd (v:Aa) (t:Int):Bool:=decide (v.Tag=t) && (!v.Nested && decide (v.Elements.length=0))
def Eo (v:Aa):Option Int:=if Gd v 2/\1<=v.Bytes.length/\v.Bytes.length<=8/\U2 (Qk v.Bytes)=v.Bytes then some (Qk v.Bytes) else none
def fE (c:UInt8):Bool:=decide ((c.toNat:Int) < 32) || decide (126 < (c.toNat:Int))
def Do (v:Aa):Option ByteArray:=if Gd v 12/\v.Bytes.any fE=false then some (Zr v.Bytes) else none
def H0 (v:Aa):Option Bool:=if Gd v 1/\(v.Bytes=[0]\/v.Bytes=[255]) then some (decide (v.Bytes=[255])) else none
def Cc (v:Aa):Option (List Aa):=if v.Tag=48/\v.formed=true then some v.Elements else none
def Md {α:Type} (d:α):Option α->α×Int
 | some a=>(a,0)
 | none=>(d,1)
theorem U7 (v:Aa) (t:Int):Jp v t=some (Gd v t):=by
 unfold Jp Gd
 have e:decide ((v.Elements.length:Int)=0)=decide (v.Elements.length=0):=by
  by_cases h:v.Elements.length=0
  ·rw [aBu h,aBu (by omega)]
  ·rw [aBo h,aBo (by omega)]
 rw [e]
 cases decide (v.Tag=t) <;> cases v.Nested <;> rfl
theorem aB8 (x:Int):fF .u64 x 8=some (IntKind.u64.wrap (x * 256)):=rfl
theorem oL:∀ (l:List UInt8) (a:Int),l.foldl (fun s (e:UInt8)=>Zk .u64 (IntKind.u64.wrap (s * 256)) (IntKind.u64.wrap (e.toNat:Int))) (IntKind.u64.wrap a)=IntKind.u64.wrap (Yj a l)
 | [],_=>rfl
 | x :: l,a=>by
  rw [List.foldl_cons,aD0,oL l]; rfl
theorem rK:∀ (l:List UInt8) (a:Int),l.foldl (fun s (e:UInt8)=>Zk .i64 (IntKind.i64.wrap (s * 256)) (e.toNat:Int)) (IntKind.i64.wrap a)=IntKind.i64.wrap (Yj a l)
 | [],_=>rfl
 | x :: l,a=>by
  rw [List.foldl_cons,aEp,rK l]; rfl
theorem Z9 (v:Aa) (h1:Gd v 2=true) (h2:1<=v.Bytes.length) (h3:v.Bytes.length<=8):Md 0 (Eo v)=if U2 (Qk v.Bytes)=v.Bytes then (Qk v.Bytes,0) else (0,1):=by
 unfold Eo
 by_cases h:U2 (Qk v.Bytes)=v.Bytes
 ·rw [if_pos ⟨h1,h2,h3,h⟩,if_pos h]; rfl
 ·rw [if_neg (fun q=>h q.2.2.2),if_neg h]; rfl
theorem lQ (v:Aa):Cd v=some (Md 0 (Eo v)):=by
 unfold Cd
 rw [U7,aAo]
 have J:Eo v=none->Cd.j1 v true=some (Md 0 (Eo v)):=fun h=>by rw [h]; rfl
 cases hp:Gd v 2 with
 | false=>exact J (by unfold Eo; rw [if_neg (fun q=>by rw [hp] at q; exact absurd q.1 (by decide))])
 | true=>
  rw [aEv,aCc]
  by_cases h1:v.Bytes.length < 1
  ·rw [aBu (by omega)]
   exact J (by unfold Eo; rw [if_neg (fun q=>by omega)])
  rw [aBo (by omega),aCc]
  by_cases h8:8 < v.Bytes.length
  ·rw [aBu (by omega)]
   exact J (by unfold Eo; rw [if_neg (fun q=>by omega)])
  rw [aBo (by omega)]
  unfold Cd.j1
  rw [aCc]
  obtain⟨x,r,hb⟩:∃ x r,v.Bytes=x :: r:=by
   cases hv:v.Bytes with
   | nil=>rw [hv] at h1; simp at h1
   | cons x r=>exact⟨x,r,rfl⟩
  have L:∀ a:Int,a=uG x->Cd.j2 v (IntKind.u64.wrap a)=some (Md 0 (Eo v)):=by
   intro a ha
   unfold Cd.j2
   have fin:∀ s,Cd.l3 v s (v.Bytes.length:Int)=up ((C2 (W s)).bind fun y_2=>(J8 y_2.Bytes v.Bytes).bind fun y_3=>cond (!y_3) (some (0,1)) (some (W s,0))):=by
    intro s; unfold Cd.l3; rw [D7]
   refine (Q4 (body:=fun q'=>Cd.l3 v q'.1 q'.2) v.Bytes (fun s (e:UInt8)=>Zk .u64 (IntKind.u64.wrap (s * 256)) (IntKind.u64.wrap (e.toNat:Int))) (IntKind.u64.wrap a) (fun s=>if (U2 (W s))=v.Bytes then (W s,0) else (0,1)) (by unfold Lo; omega) (fun i e s he=>?_) (fun s=>?_)).trans ?_
   ·show Cd.l3 v s (i:Int)=_
    unfold Cd.l3
    rw [Fm he,aB8,aAo]
   ·show Cd.l3 v s (v.Bytes.length:Int)=_
    rw [fin,tL,aAo]
    unfold J8
    rw [aAo]
    show up (cond (!decide (Zr (U2 (W s))=Zr v.Bytes)) _ _)=_
    by_cases h:U2 (W s)=v.Bytes
    ·rw [if_pos h,aBu (Wr.2 h)]; rfl
    ·rw [if_neg h,aBo (fun q=>h (Wr.1 q))]; rfl
   ·rw [oL,Z9 v hp (by omega) (by omega)]
    have e:W (IntKind.u64.wrap (Yj a v.Bytes))=Qk v.Bytes:=by
     rw [<- qD,iQ,hb,ha]; rfl
    rw [e]
  rw [Pm,hb]
  show cond (decide (128<=(x.toNat:Int))) _ _=_
  by_cases hx:128<=x.toNat
  ·rw [aBu (by omega),aEu]
   have:=L (-1) (by unfold uG; rw [if_pos (by omega)])
   exact this
  ·rw [aBo (by omega),aCc]
   have:=L 0 (by unfold uG; rw [if_neg (by omega)])
   exact this
theorem eD (v:Aa):Bp v=some (Md 0 (Eo v)):=by
 unfold Bp
 have J:Eo v=none->Bp.j1 v true=some (Md 0 (Eo v)):=fun h=>by rw [h]; rfl
 have N:Gd v 2=false->Eo v=none:=fun hp=>by unfold Eo; rw [if_neg (fun q=>by rw [hp] at q; exact absurd q.1 (by decide))]
 by_cases ht:v.Tag=2
 rotate_left
 ·rw [aBo ht]
  exact J (N (by unfold Gd; rw [aBo ht]; rfl))
 rw [aBu ht,aEv,aCc]
 cases hn:v.Nested with
 | true=>exact J (N (by unfold Gd; rw [hn]; simp))
 | false=>
 rw [aCc]
 by_cases he:v.Elements.length=0
 rotate_left
 ·rw [aBu (by omega)]
  exact J (N (by unfold Gd; rw [aBo he]; simp))
 rw [aBo (by omega),aCc]
 have hp:Gd v 2=true:=by unfold Gd; rw [hn,aBu ht,aBu he]; rfl
 by_cases h1:v.Bytes.length < 1
 ·rw [aBu (by omega)]
  exact J (by unfold Eo; rw [if_neg (fun q=>by omega)])
 rw [aBo (by omega),aCc]
 by_cases h8:8 < v.Bytes.length
 ·rw [aBu (by omega)]
  exact J (by unfold Eo; rw [if_neg (fun q=>by omega)])
 rw [aBo (by omega)]
 unfold Bp.j1
 rw [aCc]
 obtain⟨x,r,hb⟩:∃ x r,v.Bytes=x :: r:=by
  cases hv:v.Bytes with
  | nil=>rw [hv] at h1; simp at h1
  | cons x r=>exact⟨x,r,rfl⟩
 have L:∀ a:Int,a=uG x->Bp.j2 v (IntKind.i64.wrap a)=some (Md 0 (Eo v)):=by
  intro a ha
  unfold Bp.j2
  have hlo:Lo v.Bytes:=by unfold Lo; omega
  have key:Dp (fun q'=>Bp.l3 v q'.1 q'.2) (IntKind.i64.wrap a,0)=(fun s=>(Bo s).bind fun y=>cond (!decide ((Zr y.Bytes)=(Zr v.Bytes))) (some (0,1)) (some (s,0))) (v.Bytes.foldl (fun s (e:UInt8)=>Zk .i64 (IntKind.i64.wrap (s * 256)) (e.toNat:Int)) (IntKind.i64.wrap a)):=by
   refine jU (body:=fun q'=>Bp.l3 v q'.1 q'.2) v.Bytes (fun s (e:UInt8)=>Zk .i64 (IntKind.i64.wrap (s * 256)) (e.toNat:Int)) (IntKind.i64.wrap a) (fun s=>(Bo s).bind fun y=>cond (!decide ((Zr y.Bytes)=(Zr v.Bytes))) (some (0,1)) (some (s,0))) hlo (fun i e s he=>?_) (fun s=>?_)
   ·show Bp.l3 v s (i:Int)=_
    have hl:=Oe he
    unfold Bp.l3
    rw [aBu (by omega),aEu,aAv,aAo,Fs,he,aAo]
   ·show Bp.l3 v s (v.Bytes.length:Int)=_
    unfold Bp.l3; rw [D7]
  rw [key,rK,Z9 v hp (by omega) (by omega)]
  have e:IntKind.i64.wrap (Yj a v.Bytes)=Qk v.Bytes:=by rw [hb,ha]; rfl
  have hr:=Vb v.Bytes
  rw [e]
  dsimp only
  rw [Fh _ hr.1 hr.2,aAo]
  show cond (!decide (Zr (U2 (Qk v.Bytes))=Zr v.Bytes)) _ _=_
  by_cases h:U2 (Qk v.Bytes)=v.Bytes
  ·rw [if_pos h,aBu (Wr.2 h)]; rfl
  ·rw [if_neg h,aBo (fun q=>h (Wr.1 q))]; rfl
 rw [Pm,hb]
 show cond (decide (128<=(x.toNat:Int))) _ _=_
 by_cases hx:128<=x.toNat
 ·rw [aBu (by omega),aEu]
  have:=L (-1) (by unfold uG; rw [if_pos (by omega)])
  exact this
 ·rw [aBo (by omega),aCc]
  have:=L 0 (by unfold uG; rw [if_neg (by omega)])
  exact this
theorem Yw (v:Aa) (hb:Lo v.Bytes):Fi v=some (Md ⟨#[]⟩ (Do v)):=by
 unfold Fi
 rw [U7,aAo]
 unfold Do
 cases hp:Gd v 12 with
 | false=>rw [if_neg (by simp)]; rfl
 | true=>
  rw [aEv,aCc]
  have e:Fe v.Bytes (fun x0=>Gw x0)=some (v.Bytes.any fE):=by
   unfold Fe Bu
   have hL:=Yl (body:=fun q'=>Bu.l1 v.Bytes (fun x0=>Gw x0) q') v.Bytes fE hb (fun i x hx=>by
    unfold Bu.l1 Gw fE
    rw [Fm hx]
    dsimp only
    cases decide ((x.toNat:Int) < 32) <;> cases decide (126 < (x.toNat:Int)) <;> rfl) (by unfold Bu.l1; rw [D7]; rfl)
   rw [hL,aAo,iO]
  rw [e,aAo]
  cases v.Bytes.any fE with
  | true=>rw [if_neg (by simp)]; rfl
  | false=>rw [if_pos ⟨rfl,rfl⟩]; rfl
theorem Tb (v:Aa) (hb:Lo v.Bytes):Bv v=some (Md ⟨#[]⟩ (Do v)):=by
 unfold Bv
 have J:Gd v 12=false->Bv.j1 v true=some (Md ⟨#[]⟩ (Do v)):=fun h=>by unfold Do; rw [if_neg (fun q=>by rw [h] at q; exact absurd q.1 (by decide))]; rfl
 by_cases ht:v.Tag=12
 rotate_left
 ·rw [aBo ht]
  exact J (by unfold Gd; rw [aBo ht]; rfl)
 rw [aBu ht,aEv,aCc]
 cases hn:v.Nested with
 | true=>exact J (by unfold Gd; rw [hn]; simp)
 | false=>
 rw [aCc]
 by_cases he:v.Elements.length=0
 rotate_left
 ·rw [aBu (by omega)]
  exact J (by unfold Gd; rw [aBo he]; simp)
 rw [aBo (by omega)]
 have hp:Gd v 12=true:=by unfold Gd; rw [hn,aBu ht,aBu he]; rfl
 unfold Bv.j1 Do
 rw [aCc,hp]
 refine (Yu v.Bytes fE (⟨#[]⟩,1) (Zr v.Bytes,0) hb (fun i x hx=>?_) ?_).trans ?_
 ·show Bv.l2 v (i:Int)=_
  unfold Bv.l2 Bv.j3 fE
  rw [Fm hx]
  cases decide ((x.toNat:Int) < 32) <;> cases decide (126 < (x.toNat:Int)) <;> rfl
 ·show Bv.l2 v (v.Bytes.length:Int)=_
  unfold Bv.l2; rw [D7]; rfl
 ·cases v.Bytes.any fE with
  | true=>rw [if_neg (by simp)]; rfl
  | false=>rw [if_pos ⟨rfl,rfl⟩]; rfl
theorem eC {v:Aa} (hp:Gd v 1=true) (hl:v.Bytes.length=1):∃ x,v.Bytes=[x]/\H0 v=if x.toNat=0 then some false else if x.toNat=255 then some true else none:=by
 obtain⟨x,hx⟩:∃ x,v.Bytes=[x]:=by
  match h:v.Bytes with
  | [x]=>exact⟨x,rfl⟩
  | []=>rw [h] at hl; simp at hl
  | x :: y :: r=>rw [h] at hl; simp at hl
 refine⟨x,hx,?_⟩
 unfold H0
 rw [hx]
 by_cases h0:x.toNat=0
 ·have:x=0:=aGa.1 h0
  subst this
  rw [if_pos ⟨hp,.inl rfl⟩,if_pos h0]; rfl
 ·rw [if_neg h0]
  by_cases h1:x.toNat=255
  ·have:x=255:=aGa.1 h1
   subst this
   rw [if_pos ⟨hp,.inr rfl⟩,if_pos h1]; rfl
  ·rw [if_neg h1,if_neg]
   rintro⟨-,h | h⟩
   ·injection h with h; subst h; exact h0 rfl
   ·injection h with h; subst h; exact h1 rfl
theorem Tq {v:Aa} (h:Gd v 1=false\/v.Bytes.length≠1):H0 v=none:=by
 unfold H0
 rw [if_neg]
 rintro⟨h1,h2⟩
 rcases h with h | h
 ·rw [h] at h1; cases h1
 ·rcases h2 with h2 | h2 <;> rw [h2] at h <;> exact h rfl
theorem iW (v:Aa):Ee v=some (Md false (H0 v)):=by
 unfold Ee
 rw [U7,aAo]
 have J:H0 v=none->Ee.j1 v true=some (Md false (H0 v)):=fun h=>by rw [h]; rfl
 cases hp:Gd v 1 with
 | false=>exact J (Tq (.inl hp))
 | true=>
  rw [aEv,aCc]
  by_cases hl:v.Bytes.length=1
  rotate_left
  ·rw [aBo (by omega)]
   exact J (Tq (.inr hl))
  rw [aBu (by omega),aEv,aCc]
  obtain⟨x,hx,e⟩:=eC hp hl
  have D:C4 v.Bytes 0=some x:=by rw [Pm,hx]; rfl
  unfold Ee.j1
  rw [e,D]
  simp only [aAo]
  by_cases h0:x.toNat=0
  ·rw [aBu (show (x.toNat:Int)=0 by omega),if_pos h0,aBo (show ¬ (x.toNat:Int)=255 by omega)]; rfl
  ·rw [aBo (show ¬ (x.toNat:Int)=0 by omega),if_neg h0]
   by_cases h1:x.toNat=255
   ·rw [aBu (show (x.toNat:Int)=255 by omega),if_pos h1]; rfl
   ·rw [aBo (show ¬ (x.toNat:Int)=255 by omega),if_neg h1]; rfl
theorem bX (v:Aa):Df v=some (Md false (H0 v)):=by
 unfold Df
 have J:H0 v=none->Df.j1 v true=some (Md false (H0 v)):=fun h=>by rw [h]; rfl
 have N:Gd v 1=false->H0 v=none:=fun hp=>Tq (.inl hp)
 by_cases ht:v.Tag=1
 rotate_left
 ·rw [aBo ht]
  exact J (N (by unfold Gd; rw [aBo ht]; rfl))
 rw [aBu ht,aEv,aCc]
 cases hn:v.Nested with
 | true=>exact J (N (by unfold Gd; rw [hn]; simp))
 | false=>
 rw [aCc]
 by_cases he:v.Elements.length=0
 rotate_left
 ·rw [aBu (by omega)]
  exact J (N (by unfold Gd; rw [aBo he]; simp))
 rw [aBo (by omega),aCc]
 have hp:Gd v 1=true:=by unfold Gd; rw [hn,aBu ht,aBu he]; rfl
 by_cases hl:v.Bytes.length=1
 rotate_left
 ·rw [aBo (by omega)]
  exact J (Tq (.inr hl))
 rw [aBu (by omega),aEv,aCc]
 obtain⟨x,hx,e⟩:=eC hp hl
 have D:C4 v.Bytes 0=some x:=by rw [Pm,hx]; rfl
 unfold Df.j1
 rw [e,D]
 simp only [aAo]
 by_cases h0:x.toNat=0
 ·rw [aBu (show (x.toNat:Int)=0 by omega),if_pos h0,aBo (show ¬ (x.toNat:Int)=255 by omega)]; rfl
 ·rw [aBo (show ¬ (x.toNat:Int)=0 by omega),if_neg h0]
  by_cases h1:x.toNat=255
  ·rw [aBu (show (x.toNat:Int)=255 by omega),if_pos h1]; rfl
  ·rw [aBo (show ¬ (x.toNat:Int)=255 by omega),if_neg h1]; rfl
theorem Pa (v:Aa) (h:v.sz < 1073741824):En v=some (Md [] (Cc v)):=by
 unfold En Cc
 by_cases ht:v.Tag=48
 ·rw [aBu ht,aEv,aCc,gZ v h,aAo]
  cases hf:v.formed with
  | false=>rw [if_neg (by simp)]; rfl
  | true=>
   have:=In v
   rw [if_pos ⟨ht,rfl⟩]
   unfold En.j1
   rw [aEv,aCc,gK _ (by omega)]; rfl
 ·rw [aBo ht,if_neg (fun q=>ht q.1)]; rfl
theorem dH (v:Aa) (h:v.sz < 1073741824):Et v=some (Md [] (Cc v)):=by
 unfold Et Cc
 by_cases ht:v.Tag=48
 ·rw [aBu ht,aEv,aCc,Sq v h,aAo]
  cases hf:v.formed with
  | false=>rw [if_neg (by simp)]; rfl
  | true=>
   have:=In v
   rw [if_pos ⟨ht,rfl⟩]
   unfold Et.j1
   rw [aEv,aCc,Te _ (by omega)]; rfl
 ·rw [aBo ht,if_neg (fun q=>ht q.1)]; rfl
end
section
open Go
def one {α:Type} (f:Aa->Option α):List Aa->Option (α×List Aa)
 | []=>none
 | x :: t=>(f x).map fun a=>(a,t)
def Gk {α β:Type} (q:Option (β×List Aa)) (f:Aa->Option α):Option ((β×α)×List Aa):=q.bind fun p=>(one f p.2).map fun r=>((p.1,r.1),r.2)
theorem B1 {α β:Type} {q:Option (β×List Aa)} {f:Aa->Option α} {b:β×α} {t:List Aa} (h:Gk q f=some (b,t)):∃ x,q=some (b.1,x :: t)/\f x=some b.2:=by
 unfold Gk at h
 obtain⟨p,hq,h⟩:=aFp.1 h
 obtain⟨r,h1,h2⟩:=aFi.1 h
 injection h2 with h2 h3
 obtain⟨p1,l⟩:=p
 cases l with
 | nil=>cases h1
 | cons x t'=>
  obtain⟨a,h4,h5⟩:=aFi.1 h1
  subst h5 h2 h3
  exact⟨x,hq,h4⟩
def oY {β:Type} (r:Aj) (q:Option (β×List Aa)) (b:β):Prop:=G4 r.l < 1073741824/\((q=none/\r.Failed=true)\/∃ t,q=some (b,t)/\r=⟨t,false⟩)
theorem uF:Eo Ko=none:=rfl
theorem qR:Do Ko=none:=rfl
theorem oH:H0 Ko=none:=rfl
theorem sF:Cc Ko=none:=rfl
theorem aR (r:Aj) (hs:G4 r.l < 1073741824):Ok (Bb r) (fun y=>G4 y.2.l < 1073741824/\y.1.sz < 1073741824/\((r.Failed=true\/r.l=[])/\y.2.Failed=true/\y.1=Ko\/∃ x t,r.l=x :: t/\r.Failed=false/\y=(x,⟨t,false⟩))):=by
 unfold Bb
 have hz:Ko.sz < 1073741824:=by decide
 refine Ok.cond (fun hf=>?_) fun hf=>?_
 ·exact Ok.ret ⟨hs,hz,.inl ⟨.inl hf,rfl,rfl⟩⟩
 ·unfold Bb.j1
  refine Ok.cond (fun h0=>?_) fun h0=>?_
  ·have h0:=aE4 h0
   exact Ok.ret ⟨hs,hz,.inl ⟨.inr (aDu (by omega)),rfl,rfl⟩⟩
  ·have h0:=aFs h0
   obtain⟨l,fl⟩:=r
   dsimp only at hf h0 hs ⊢
   subst hf
   cases l with
   | nil=>simp at h0
   | cons x t=>
    rw [Pm]
    refine Ok.bindE (a:=x) rfl (Ok.bindE (jD (k:=1) (by simp)) (Ok.ret ?_))
    rw [G4] at hs
    exact⟨by show G4 t < _; omega,by show x.sz < _; omega,.inr ⟨x,t,rfl,rfl,rfl⟩⟩
def R0 {α:Type} (f:Aa->Option α) (g:Aj->Option (α×Aj)):Prop:=∀ {β:Type} (r:Aj) (q:Option (β×List Aa)) (b:β),oY r q b->Ok (g r) (fun y=>oY y.2 (Gk q f) (b,y.1))
theorem Wl {α:Type} {f:Aa->Option α} {g:Aj->Option (α×Aj)} (d:α) {h:Aa->Option (α×Int)} (hz:f Ko=none) (hh:∀ v:Aa,v.sz < 1073741824->h v=some (Md d (f v)))
  (D:∀ r,g r=(Bb r).bind fun y=>(h y.1).bind fun y_2=>cond (y.2.Failed) (some (y_2.1,(Aj.mk y.2.l true))) (some (y_2.1,(Aj.mk y.2.l (!decide (y_2.2=0)))))):R0 f g:=by
 intro β r q b hs
 rw [D]
 refine Ok.bind (aR r hs.1) fun y hy=>?_
 obtain⟨h1,h2,hy⟩:=hy
 refine Ok.bindE (hh y.1 h2) ?_
 rcases hs.2 with ⟨hq,hf⟩ | ⟨t,hq,hr⟩
 ·have hyf:y.2.Failed=true:=by
   rcases hy with ⟨-,h3,-⟩ | ⟨x,t,-,h4,-⟩
   ·exact h3
   ·rw [hf] at h4; cases h4
  rw [hyf,aEu,hq]
  exact Ok.ret ⟨h1,.inl ⟨rfl,rfl⟩⟩
 ·subst hr
  rcases hy with ⟨h3,h4,h5⟩ | ⟨x,t',h3,-,h5⟩
  ·rcases h3 with h3 | h3
   ·cases h3
   ·have h3:t=[]:=h3
    subst h3
    rw [h4,aEu,hq]
    exact Ok.ret ⟨h1,.inl ⟨rfl,rfl⟩⟩
  ·have h3:t=x :: t':=h3
   subst h3 h5
   rw [aCc,hq]
   refine Ok.ret ⟨h1,?_⟩
   cases hx:f x with
   | none=>exact .inl ⟨by unfold Gk one; simp [hx],rfl⟩
   | some a=>exact .inr ⟨t',by unfold Gk one; simp [hx,Md],rfl⟩
theorem T2 {v:Aa} (h:v.sz < 1073741824):Lo v.Bytes:=by
 have:=In v
 unfold Lo; omega
theorem Ru:R0 Eo Bz:=Wl 0 (h:=Cd) uF (fun v _=>lQ v) (fun _=>rfl)
theorem jE:R0 Do El:=Wl ⟨#[]⟩ (h:=Fi) qR (fun v hv=>Yw v (T2 hv)) (fun _=>rfl)
theorem sP:R0 H0 Fk:=Wl false (h:=Ee) oH (fun v _=>iW v) (fun _=>rfl)
theorem sO:R0 Cc D4:=Wl [] (h:=En) sF (fun v hv=>Pa v hv) (fun _=>rfl)
def Jv (n:Nat) (v:Aa):Option (Unit×List Aa):=(Cc v).bind fun l=>if l.length=n then some ((),l) else none
theorem H8 {v:Aa} {l:List Aa} (h:Cc v=some l):G4 l < v.sz:=by
 unfold Cc at h
 split at h
 ·injection h with h
  subst h
  have:=In v
  omega
 ·cases h
theorem Ym (v:Aa) (n:Nat) (hv:v.sz < 1073741824):Ok (Ed v (n:Int)) (fun r=>oY r (Jv n v) ()):=by
 unfold Ed Jv
 refine Ok.bindE (Pa v hv) ?_
 cases hl:Cc v with
 | none=>exact Ok.ret ⟨by show G4 [] < 1073741824; decide,.inl ⟨rfl,rfl⟩⟩
 | some l=>
  have:=H8 hl
  refine Ok.ret ⟨by show G4 l < 1073741824; omega,?_⟩
  show _\/∃ t,(if l.length=n then some ((),l) else none)=some ((),t)/\Aj.mk l (!decide ((l.length:Int)=(n:Int)))=⟨t,false⟩
  by_cases h:l.length=n
  ·have hd:(!decide ((l.length:Int)=(n:Int)))=false:=by rw [aBu (by omega)]; rfl
   exact .inr ⟨l,if_pos h,congrArg (Aj.mk l) hd⟩
  ·have hd:(!decide ((l.length:Int)=(n:Int)))=true:=by rw [aBo (by omega)]; rfl
   exact .inl ⟨if_neg h,hd⟩
theorem rT {β:Type} (r:Aj) (q:Option (β×List Aa)) (b:β) (hs:oY r q b):Ok (Bb r) (fun y=>oY y.2 (Gk q some) (b,y.1)/\y.1.sz < 1073741824):=by
 refine (aR r hs.1).mono fun y hy=>⟨⟨hy.1,?_⟩,hy.2.1⟩
 obtain⟨h1,h2,hy⟩:=hy
 rcases hs.2 with ⟨hq,hf⟩ | ⟨t,hq,hr⟩
 ·refine .inl ⟨by rw [hq]; rfl,?_⟩
  rcases hy with ⟨-,h3,-⟩ | ⟨x,t,-,h4,-⟩
  ·exact h3
  ·rw [hf] at h4; cases h4
 ·subst hr
  rcases hy with ⟨h3,h4,h5⟩ | ⟨x,t',h3,-,h5⟩
  ·rcases h3 with h3 | h3
   ·cases h3
   ·have h3:t=[]:=h3
    subst h3
    exact .inl ⟨by rw [hq]; rfl,h4⟩
  ·have h3:t=x :: t':=h3
   subst h3 h5
   exact .inr ⟨t',by rw [hq]; rfl,rfl⟩
def Py (l:List Aa):Option (((Unit×Int)×Int)×List Aa):=Gk (Gk (some ((),l)) Eo) Eo
def Kb (v:Aa):Option (Int×Int):=match (Cc v).bind Py with
 | some (((_,a),b),[])=>some (a,b)
 | _=>none
theorem dM {l:List Aa} {b:(Unit×Int)×Int} {t:List Aa} (h:Py l=some (b,t)):l.length=t.length + 2:=by
 obtain⟨x,h1,-⟩:=B1 h
 obtain⟨y,h2,-⟩:=B1 h1
 injection h2 with h2
 injection h2 with _ h2
 rw [h2]; rfl
theorem aBb (v:Aa) (hv:v.sz < 1073741824) {T:Type} {k:Int×Aj->Int×Aj->Option T} {Q:T->Prop} (hk:∀ y z:Int×Aj,((z.2.Failed=true/\Kb v=none)\/(z.2.Failed=false/\Kb v=some (y.1,z.1)))->Ok (k y z) Q) :
  Ok ((Ed v 2).bind fun x=>(Bz x).bind fun y=>(Bz y.2).bind fun z=>k y z) Q:=by
 refine Ok.bind (Ym v 2 hv) fun x hx=>?_
 refine Ok.bind (Ru x _ _ hx) fun y hy=>?_
 refine Ok.bind (Ru y.2 _ _ hy) fun z hz=>?_
 refine hk y z ?_
 rcases hz.2 with ⟨hq,hf⟩ | ⟨t,hq,hr⟩
 ·refine .inl ⟨hf,?_⟩
  unfold Kb
  cases hl:Cc v with
  | none=>rfl
  | some l=>
   rw [aAo]
   cases hp:Py l with
   | none=>rfl
   | some p=>
    obtain⟨⟨⟨u,a⟩,b⟩,t⟩:=p
    cases t with
    | cons _ _=>rfl
    | nil=>
     have hlen:=dM hp
     have:Jv 2 v=some ((),l):=by unfold Jv; rw [hl,aAo,if_pos (by simpa using hlen)]
     rw [this] at hq
     unfold Py at hp
     rw [hq] at hp; cases hp
 ·refine .inr ⟨by rw [hr],?_⟩
  have h0:=hq
  obtain⟨x1,h1,-⟩:=B1 hq
  obtain⟨x2,h2,-⟩:=B1 h1
  unfold Jv at h2
  obtain⟨l,h3,h4⟩:=aFp.1 h2
  split at h4
  ·rename_i hlen
   injection h4 with h4
   injection h4 with _ h4
   have ht:t=[]:=by
    rw [h4] at hlen
    simp at hlen
    exact hlen
   subst ht
   unfold Kb
   have:Jv 2 v=some ((),l):=by unfold Jv; rw [h3,aAo,if_pos hlen]
   rw [this] at h0
   rw [h3,aAo]
   unfold Py
   rw [h0]
  ·cases h4
def S4 (v:Aa):Option Aw:=(Kb v).map fun p=>⟨p.1,p.2⟩
theorem rM:R0 S4 B3:=by
 intro β r q b hs
 unfold B3
 refine Ok.bind (aR r hs.1) fun y hy=>?_
 obtain⟨h1,h2,hy⟩:=hy
 refine aBb y.1 h2 fun z w hz=>?_
 unfold B3.j1
 rcases hs.2 with ⟨hq,hf⟩ | ⟨t,hq,hr⟩
 ·have hyf:y.2.Failed=true:=by
   rcases hy with ⟨-,h3,-⟩ | ⟨x,t,-,h4,-⟩
   ·exact h3
   ·rw [hf] at h4; cases h4
  rw [hyf,aEu,hq]
  exact Ok.ret ⟨h1,.inl ⟨rfl,rfl⟩⟩
 ·subst hr
  rcases hy with ⟨h3,h4,h5⟩ | ⟨x,t',h3,-,h5⟩
  ·rcases h3 with h3 | h3
   ·cases h3
   ·have h3:t=[]:=h3
    subst h3
    rw [h4,aEu,hq]
    exact Ok.ret ⟨h1,.inl ⟨rfl,rfl⟩⟩
  ·have h3:t=x :: t':=h3
   subst h3 h5
   rw [aCc,hq]
   refine Ok.ret ⟨h1,?_⟩
   dsimp only at hz
   rcases hz with ⟨hz,e⟩ | ⟨hz,e⟩
   ·exact .inl ⟨by unfold Gk one S4; simp [e],hz⟩
   ·refine .inr ⟨t',by unfold Gk one S4; simp [e],?_⟩
    rw [hz]
def nZ (v:Aa):ByteArray:=(Do v).getD ⟨#[]⟩
def Lh (l:List Aa):Option (List ByteArray):=if l.all (fun v=>(Do v).isSome) then some (l.map nZ) else none
def O1 (v:Aa):Option (List ByteArray):=(Cc v).bind Lh
theorem iG (y:List Aa×Aj) (hs:G4 y.1 < 1073741824):Ok (Dp (fun q'=>Bd.l1 y q'.1 q'.2.1 q'.2.2) (0,y.2.Failed,([]:List ByteArray))) (fun z=>z=(y.1.map nZ,⟨y.2.l,y.2.Failed || !y.1.all (fun v=>(Do v).isSome)⟩)):=by
 have hn:=Gj y.1
 refine Ok.loop (fun s=>∃ k:Nat,k<=y.1.length/\s=((k:Int),(y.2.Failed || !(y.1.take k).all (fun v=>(Do v).isSome)),(y.1.take k).map nZ)) (fun s=>y.1.length - s.1.toNat) (fun s hk=>?_) ⟨0,aFb _,by simp⟩
 obtain⟨k,hk,rfl⟩:=hk
 show Ok (Bd.l1 y (k:Int) (y.2.Failed || !(y.1.take k).all (fun v=>(Do v).isSome)) ((y.1.take k).map nZ)) _
 unfold Bd.l1 Bd.j2
 refine Ok.cond (fun hc=>?_) fun hc=>?_
 ·have hc:=aE4 hc
  obtain⟨e,he⟩:∃ e,y.1[k]?=some e:=⟨_,aA1 (by omega)⟩
  have hm:=Iw (F5 he)
  rw [Fs]
  refine Ok.bindE he (Ok.bindE (Yw e (T2 (by omega))) ?_)
  have hx:(Md (⟨#[]⟩:ByteArray) (Do e)).1=nZ e:=by unfold nZ; cases Do e <;> rfl
  have hy:(!decide ((Md (⟨#[]⟩:ByteArray) (Do e)).2=0))=!(Do e).isSome:=by cases Do e <;> rfl
  have ha:Gl 16 ((y.1.take k).map nZ) [(Md (⟨#[]⟩:ByteArray) (Do e)).1]=some ((y.1.take (k + 1)).map nZ):=by
   rw [E2 (by simp; omega),hx,Dw he,aFw]; rfl
  have ht:(y.1.take (k + 1)).all (fun v=>(Do v).isSome)=((y.1.take k).all (fun v=>(Do v).isSome) && (Do e).isSome):=by rw [Dw he,aHi]; simp
  rw [F3 (by omega)]
  refine Ok.cond (fun hb=>?_) fun hb=>?_
  ·refine Ok.bindE ha (Ok.ret ⟨⟨k + 1,by omega,?_⟩,by show y.1.length - ((k + 1:Nat):Int).toNat < y.1.length - (k:Int).toNat; omega⟩)
   rw [ht]
   generalize (y.1.take k).all (fun v=>(Do v).isSome)=a at *
   generalize (Do e).isSome=c at *
   cases a <;> cases c <;> simp_all
  ·refine Ok.bindE ha (Ok.ret ⟨⟨k + 1,by omega,?_⟩,by show y.1.length - ((k + 1:Nat):Int).toNat < y.1.length - (k:Int).toNat; omega⟩)
   rw [ht,hy]
   generalize (y.1.take k).all (fun v=>(Do v).isSome)=a at *
   generalize (Do e).isSome=c at *
   cases a <;> cases c <;> simp_all
 ·have hc:=aFs hc
  have:k=y.1.length:=by omega
  subst this
  refine Ok.up (Ok.ret ?_)
  rw [aFg]
theorem X6 (r:Aj) (hs:G4 r.l < 1073741824):Ok (D4 r) (fun z=>G4 z.1 < 1073741824):=by
 unfold D4
 refine Ok.bind (aR r hs) fun y hy=>?_
 refine Ok.bindE (Pa y.1 hy.2.1) ?_
 have:G4 (Md ([]:List Aa) (Cc y.1)).1 < 1073741824:=by
  have h2:=hy.2.1
  cases hl:Cc y.1 with
  | none=>show G4 [] < _; decide
  | some l=>
   have:=H8 hl
   show G4 l < _
   omega
 exact Ok.cond (fun _=>Ok.ret this) fun _=>Ok.ret this
theorem uK:R0 O1 Bd:=by
 intro β r q b hs
 unfold Bd
 refine Ok.bind ((sO r q b hs).and (X6 r hs.1)) fun y hy=>?_
 refine (iG y hy.2).mono fun z hz=>?_
 subst hz
 rcases hy.1.2 with ⟨hq,hf⟩ | ⟨t,hq,hr⟩
 ·refine⟨hy.1.1,.inl ⟨?_,by show (y.2.Failed || _)=true; rw [hf]; rfl⟩⟩
  cases q with
  | none=>rfl
  | some p=>
   obtain⟨b',l⟩:=p
   cases l with
   | nil=>rfl
   | cons x l=>
    cases hx:Cc x with
    | none=>simp [Gk,one,O1,hx]
    | some _=>simp [Gk,one,hx] at hq
 ·obtain⟨x,h1,h2⟩:=B1 hq
  have e:Gk q O1=(Lh y.1).map fun a=>((b,a),t):=by
   rw [h1]
   cases ht:Lh y.1 <;> simp [Gk,one,O1,h2,ht]
  refine⟨hy.1.1,?_⟩
  rw [e,hr]
  unfold Lh
  cases ha:y.1.all (fun v=>(Do v).isSome) with
  | true=>exact .inr ⟨t,rfl,rfl⟩
  | false=>exact .inl ⟨rfl,rfl⟩
end
section
open Go
abbrev kV:=(((((((((((Unit×Int)×ByteArray)×ByteArray)×Aw)×Int)×Aw)×Int)×Int)×Bool)×Int)×List ByteArray)
def cT {β:Type} (q:Option (β×List Aa)):=Gk (Gk (Gk (Gk (Gk (Gk (Gk (Gk (Gk (Gk q Eo) Do) Do) S4) Eo) S4) Eo) Eo) H0) Eo
def Ni (q:Option (Unit×List Aa)):Option (kV×List Aa):=Gk (cT q) O1
def mkC (b:kV) (s:Int×Int):Ab:=match b with
 | (((((((((((_,a1),a2),a3),a4),a5),a6),a7),a8),a9),a10),a11)=>⟨a1,a2,a3,a4,a5,a6,a7,a8,a9,a10,a11,⟨s.1,s.2⟩⟩
theorem gH {l:List Aa} {b:kV} {t:List Aa} (h:Ni (some ((),l))=some (b,t)):l.length=t.length + 11:=by
 unfold Ni cT at h
 obtain⟨x1,h1,-⟩:=B1 h
 obtain⟨x2,h2,-⟩:=B1 h1
 obtain⟨x3,h3,-⟩:=B1 h2
 obtain⟨x4,h4,-⟩:=B1 h3
 obtain⟨x5,h5,-⟩:=B1 h4
 obtain⟨x6,h6,-⟩:=B1 h5
 obtain⟨x7,h7,-⟩:=B1 h6
 obtain⟨x8,h8,-⟩:=B1 h7
 obtain⟨x9,h9,-⟩:=B1 h8
 obtain⟨x10,h10,-⟩:=B1 h9
 obtain⟨x11,h11,-⟩:=B1 h10
 injection h11 with h11
 injection h11 with _ h11
 rw [h11]; rfl
def Ob (v:Aa):Option kV:=match (Cc v).bind (fun l=>Ni (some ((),l))) with
 | some (b,[])=>some b
 | _=>none
def F6 (v:Aa):Option Ab:=match Cc v with
 | some [x,y]=>(Ob x).bind fun b=>(Kb y).map fun s=>mkC b s
 | _=>none
def bJ:Ab:=Ab.mk 0 ⟨#[]⟩ ⟨#[]⟩ (Aw.mk 0 0) 0 (Aw.mk 0 0) 0 0 false 0 [] (Ct.mk 0 0)
theorem wL {v:Aa}:Ob v=(Ni (Jv 11 v)).map (·.1):=by
 unfold Ob Jv
 cases hl:Cc v with
 | none=>rfl
 | some l=>
  rw [aAo,aAo]
  by_cases h:l.length=11
  ·rw [if_pos h]
   cases hb:Ni (some ((),l)) with
   | none=>rfl
   | some p=>
    obtain⟨b,t⟩:=p
    have:=gH hb
    have ht:t=[]:=aDu (by omega)
    subst ht
    rfl
  ·rw [if_neg h]
   show _=none
   cases hb:Ni (some ((),l)) with
   | none=>rfl
   | some p=>
    obtain⟨b,t⟩:=p
    have:=gH hb
    cases t with
    | nil=>simp at this; omega
    | cons _ _=>rfl
theorem jY (v:Aa) (hv:v.sz < 1073741824):Cq v=some (match F6 v with | some c=>(c,true) | none=>(bJ,false)):=by
 refine (?_:Ok (Cq v) (fun y=>y=(match F6 v with | some c=>(c,true) | none=>(bJ,false)))) |> fun ⟨a,h1,h2⟩=>h1.trans (congrArg some h2)
 unfold Cq
 refine Ok.bind (Ym v 2 hv) fun y hy=>?_
 refine Ok.bind (rT y _ _ hy) fun y2 h2=>?_
 refine Ok.bind (Ym y2.1 11 h2.2) fun y3 h3=>?_
 refine Ok.bind (rT y2.2 _ _ h2.1) fun y4 h4=>?_
 unfold G8 G7 Hd G9 Hg G5 Ha G6
 simp only [Option.bind_assoc,aAo]
 refine Ok.bind (Ym y4.1 2 h4.2) fun y5 h5=>?_
 refine Ok.bind (Ru y3 _ _ h3) fun z1 k1=>?_
 refine Ok.bind (jE z1.2 _ _ k1) fun z2 k2=>?_
 refine Ok.bind (jE z2.2 _ _ k2) fun z3 k3=>?_
 refine Ok.bind (rM z3.2 _ _ k3) fun z4 k4=>?_
 refine Ok.bind (Ru z4.2 _ _ k4) fun z5 k5=>?_
 refine Ok.bind (rM z5.2 _ _ k5) fun z6 k6=>?_
 refine Ok.bind (Ru z6.2 _ _ k6) fun z7 k7=>?_
 refine Ok.bind (Ru z7.2 _ _ k7) fun z8 k8=>?_
 refine Ok.bind (sP z8.2 _ _ k8) fun z9 k9=>?_
 refine Ok.bind (Ru z9.2 _ _ k9) fun z10 k10=>?_
 refine Ok.bind (uK z10.2 _ _ k10) fun z11 k11=>?_
 refine Ok.bind (Ru y5 _ _ h5) fun w1 m1=>?_
 refine Ok.bind (Ru w1.2 _ _ m1) fun w2 m2=>?_
 have J:∀ y,F6 v=none->Ok (Cq.j1 y true) (fun y=>y=(match F6 v with | some c=>(c,true) | none=>(bJ,false))):=fun y h=>Ok.ret (by rw [h]; rfl)
 have outer:(y4.2.Failed=true/\F6 v=none)\/(y4.2.Failed=false/\Cc v=some [y2.1,y4.1]):=by
  rcases h4.1.2 with ⟨hq,hf⟩ | ⟨t,hq,hr⟩
  ·refine .inl ⟨hf,?_⟩
   unfold F6
   cases hl:Cc v with
   | none=>rfl
   | some l=>
    match l with
    | []=>rfl
    | [_]=>rfl
    | [a,b]=>
     have:Jv 2 v=some ((),[a,b]):=by unfold Jv; rw [hl]; rfl
     rw [this] at hq
     cases hq
    | _ :: _ :: _ :: _=>rfl
  ·refine .inr ⟨by rw [hr],?_⟩
   obtain⟨x,e1,e2⟩:=B1 hq
   obtain⟨x',e3,e4⟩:=B1 e1
   injection e2 with e2
   injection e4 with e4
   unfold Jv at e3
   obtain⟨l,e5,e6⟩:=aFp.1 e3
   split at e6
   ·rename_i hlen
    injection e6 with e6
    injection e6 with _ e6
    subst e6
    have ht:t=[]:=by simpa using hlen
    subst ht
    rw [e5,e2,e4]
   ·cases e6
 rcases outer with ⟨hf,hn⟩ | ⟨hf,hl⟩
 ·rw [hf,aEu]
  exact J _ hn
 rw [hf,aCc]
 have hp:F6 v=(Ob y2.1).bind fun b=>(Kb y4.1).map fun s=>mkC b s:=by unfold F6; rw [hl]
 rcases k11.2 with ⟨hq,hb⟩ | ⟨t,hq,hr⟩
 ·rw [hb,aEu]
  refine J _ ?_
  rw [hp,wL]
  have:Ni (Jv 11 y2.1)=none:=hq
  rw [this]; rfl
 ·have hb:Ni (Jv 11 y2.1)=some (((((((((((((),z1.1),z2.1),z3.1),z4.1),z5.1),z6.1),z7.1),z8.1),z9.1),z10.1),z11.1),t):=hq
  have hbf:z11.2.Failed=false:=by rw [hr]
  rw [hbf,aCc]
  rw [wL,hb] at hp
  simp only [aHy,aAo] at hp
  have hpair:(w2.2.Failed=true/\Kb y4.1=none)\/(w2.2.Failed=false/\Kb y4.1=some (w1.1,w2.1)):=by
   rcases m2.2 with ⟨hq2,hf2⟩ | ⟨t2,hq2,hr2⟩
   ·refine .inl ⟨hf2,?_⟩
    unfold Kb
    cases hl2:Cc y4.1 with
    | none=>rfl
    | some l2=>
     rw [aAo]
     cases hp2:Py l2 with
     | none=>rfl
     | some p2=>
      obtain⟨⟨⟨u,a⟩,b⟩,t3⟩:=p2
      cases t3 with
      | cons _ _=>rfl
      | nil=>
       have hlen:=dM hp2
       have:Jv 2 y4.1=some ((),l2):=by unfold Jv; rw [hl2,aAo,if_pos (by simpa using hlen)]
       rw [this] at hq2
       unfold Py at hp2
       rw [hq2] at hp2; cases hp2
   ·refine .inr ⟨by rw [hr2],?_⟩
    have h0:=hq2
    obtain⟨x1,e1,-⟩:=B1 hq2
    obtain⟨x2,e2,-⟩:=B1 e1
    unfold Jv at e2
    obtain⟨l2,e3,e4⟩:=aFp.1 e2
    split at e4
    ·rename_i hlen
     injection e4 with e4
     injection e4 with _ e4
     have ht:t2=[]:=by
      rw [e4] at hlen
      simp at hlen
      exact hlen
     subst ht
     unfold Kb
     have:Jv 2 y4.1=some ((),l2):=by unfold Jv; rw [e3,aAo,if_pos hlen]
     rw [this] at h0
     rw [e3,aAo]
     unfold Py
     rw [h0]
    ·cases e4
  rcases hpair with ⟨hf2,hn2⟩ | ⟨hf2,hs2⟩
  ·rw [hf2]
   refine J _ ?_
   rw [hp,hn2]; rfl
  ·rw [hf2]
   unfold Cq.j1
   rw [aCc]
   refine Ok.ret ?_
   rw [hp,hs2]; rfl
end
section
open Go
structure RB (r:Ad):Prop where
 sz:G4 r.L < 1073741824
 a0:0<=r.At
 a1:r.At<=r.L.length
def Rh {β:Type} (r:Ad) (q:Option (β×List Aa)) (b:β):Prop:=RB r/\((q=none/\r.OK=false)\/∃ t,q=some (b,t)/\r.OK=true/\r.L.drop r.At.toNat=t)
theorem gP (r:Ad) (hs:RB r):Ok (B2 r) (fun y=>RB y.2/\y.1.sz < 1073741824/\((r.OK=false\/r.L.drop r.At.toNat=[])/\y.2.OK=false/\y.1=Ko\/∃ x t,r.OK=true/\r.L.drop r.At.toNat=x :: t/\y.1=x/\y.2.OK=true/\y.2.L.drop y.2.At.toNat=t)):=by
 have hz:Ko.sz < 1073741824:=by decide
 have h0:=hs.a0
 have h1:=hs.a1
 have hn:=Gj r.L
 have hsz:=hs.sz
 unfold B2 B2.j1
 cases hf:r.OK with
 | false=>exact Ok.ret ⟨⟨hs.sz,hs.a0,hs.a1⟩,hz,.inl ⟨.inl rfl,rfl,rfl⟩⟩
 | true=>
  rw [aEv,aCc]
  refine Ok.cond (fun hc=>?_) fun hc=>?_
  ·have hc:=aE4 hc
   exact Ok.ret ⟨⟨hs.sz,hs.a0,hs.a1⟩,hz,.inl ⟨.inr (List.drop_eq_nil_of_le (by omega)),rfl,rfl⟩⟩
  ·have hc:=aFs hc
   rw [Fx (x:=r.At + 1) (by omega),Fx (by omega),show r.At + 1 - 1=r.At by omega]
   obtain⟨x,hx,hat⟩:=Oy (l:=r.L) h0 (by omega)
   have hd:r.L.drop r.At.toNat=x :: r.L.drop (r.At.toNat + 1):=by
    obtain⟨hk,e⟩:=aBw.1 hat
    rw [aG3 hk,e]
   have hm:=Iw (aEy hat)
   refine Ok.bindE hx (Ok.ret ⟨⟨hs.sz,by show 0<=r.At + 1; omega,by show r.At + 1<=(r.L.length:Int); omega⟩,by show x.sz < _; omega,.inr ⟨x,_,rfl,hd,rfl,rfl,?_⟩⟩)
   show r.L.drop (r.At + 1).toNat=_
   rw [show (r.At + 1).toNat=r.At.toNat + 1 by omega]
def X2 {α:Type} (f:Aa->Option α) (g:Ad->Option (α×Ad)):Prop:=∀ {β:Type} (r:Ad) (q:Option (β×List Aa)) (b:β),Rh r q b->Ok (g r) (fun y=>Rh y.2 (Gk q f) (b,y.1))
theorem Rh.step {β:Type} {r:Ad} {q:Option (β×List Aa)} {b:β} (hs:Rh r q b) {y:Aa×Ad} (hy:(r.OK=false\/r.L.drop r.At.toNat=[])/\y.2.OK=false/\y.1=Ko\/∃ x t,r.OK=true/\r.L.drop r.At.toNat=x :: t/\y.1=x/\y.2.OK=true/\y.2.L.drop y.2.At.toNat=t) :
  (y.2.OK=false/\y.1=Ko/\∀ {α:Type} (f:Aa->Option α),Gk q f=none)\/(y.2.OK=true/\∃ t,q=some (b,y.1 :: t)/\y.2.L.drop y.2.At.toNat=t):=by
 rcases hs.2 with ⟨hq,hf⟩ | ⟨t,hq,hr,hd⟩
 ·rcases hy with ⟨-,h3,h4⟩ | ⟨x,t,h4,-⟩
  ·exact .inl ⟨h3,h4,fun f=>by rw [hq]; rfl⟩
  ·rw [hf] at h4; cases h4
 ·rcases hy with ⟨h3,h4,h5⟩ | ⟨x,t',h3,h4,h5,h6,h7⟩
  ·refine .inl ⟨h4,h5,fun f=>?_⟩
   rcases h3 with h3 | h3
   ·rw [hr] at h3; cases h3
   ·rw [hd] at h3; subst h3; rw [hq]; rfl
  ·rw [hd] at h4
   subst h4 h5
   exact .inr ⟨h6,t',hq,h7⟩
theorem I6 {α β:Type} {b:β} {x:Aa} {t:List Aa} {f:Aa->Option α}:Gk (some (b,x :: t)) f=(f x).map fun a=>((b,a),t):=by
 cases h:f x <;> simp [Gk,one,h]
theorem cF {α:Type} {f:Aa->Option α} {g:Ad->Option (α×Ad)} (d:α) {h:Aa->Option (α×Int)} (hh:∀ v:Aa,v.sz < 1073741824->h v=some (Md d (f v)))
  (D:∀ r,g r=(B2 r).bind fun y=>(h y.1).bind fun y_2=>cond (y.2.OK) (some (y_2.1,(Ad.mk y.2.L y.2.At (decide (y_2.2=0))))) (some (y_2.1,(Ad.mk y.2.L y.2.At false)))):X2 f g:=by
 intro β r q b hs
 rw [D]
 refine Ok.bind (gP r hs.1) fun y hy=>?_
 obtain⟨h1,h2,hy⟩:=hy
 refine Ok.bindE (hh y.1 h2) ?_
 rcases hs.step hy with ⟨hf,-,hn⟩ | ⟨hf,t,hq,hd⟩
 ·rw [hf,aCc,hn]
  exact Ok.ret ⟨⟨h1.sz,h1.a0,h1.a1⟩,.inl ⟨rfl,rfl⟩⟩
 ·rw [hf,aEu,hq,I6]
  refine Ok.ret ⟨⟨h1.sz,h1.a0,h1.a1⟩,?_⟩
  cases hx:f y.1 with
  | none=>exact .inl ⟨rfl,rfl⟩
  | some a=>exact .inr ⟨t,rfl,rfl,hd⟩
theorem Rr:X2 Eo Dk:=cF 0 (h:=Bp) (fun v _=>eD v) (fun _=>rfl)
theorem bT:X2 Do Ef:=cF ⟨#[]⟩ (h:=Bv) (fun v hv=>Tb v (T2 hv)) (fun _=>rfl)
theorem pH:X2 H0 G3:=cF false (h:=Df) (fun v _=>bX v) (fun _=>rfl)
theorem lN (r:Ad) (hs:RB r) (ho:r.OK=true) (ha:r.At < (r.L.length:Int)):Ok (Ef r) (fun y=>y.2.L=r.L/\y.2.At=r.At + 1):=by
 have h0:=hs.a0
 have hn:=Gj r.L
 have hsz:=hs.sz
 unfold Ef B2 B2.j1
 rw [ho,aEv,aCc,aBo (by omega),aCc]
 rw [Fx (x:=r.At + 1) (by omega),Fx (by omega),show r.At + 1 - 1=r.At by omega]
 obtain⟨x,hx,hat⟩:=Oy (l:=r.L) h0 (by omega)
 have hm:=Iw (aEy hat)
 rw [hx,aAo,aAo,Tb x (T2 (by omega)),aAo]
 exact Ok.ret ⟨rfl,rfl⟩
def L4 (v:Aa):Option (Unit×List Aa):=(Cc v).map fun l=>((),l)
theorem iF (v:Aa) (hv:v.sz < 1073741824):Ok (It v) (fun r=>Rh r (L4 v) ()/\r.L=(Cc v).getD []):=by
 unfold It L4
 refine Ok.bindE (dH v hv) ?_
 cases hl:Cc v with
 | none=>exact Ok.ret ⟨⟨⟨by show G4 [] < 1073741824; decide,aHu _,aHu _⟩,.inl ⟨rfl,rfl⟩⟩,rfl⟩
 | some l=>
  have:=H8 hl
  exact Ok.ret ⟨⟨⟨by show G4 l < 1073741824; omega,aHu _,by show (0:Int)<=(l.length:Int); omega⟩,.inr ⟨l,rfl,rfl,rfl⟩⟩,rfl⟩
theorem U9 {β:Type} (r:Ad) (q:Option (β×List Aa)) (b:β) (hs:Rh r q b):Ok (Dz r) (fun z=>Rh z.2 (Gk q Cc) (b,z.1.L)/\Rh z.1 ((Gk q Cc).map fun p=>((),p.1.2)) ()):=by
 unfold Dz
 refine Ok.bind (gP r hs.1) fun y hy=>?_
 obtain⟨h1,h2,hy⟩:=hy
 refine Ok.bind (iF y.1 h2) fun z hz'=>?_
 obtain⟨hz,hzL⟩:=hz'
 rcases hs.step hy with ⟨hf,he,hn⟩ | ⟨hf,t,hq,hd⟩
 ·rw [hf,aCc,hn]
  refine Ok.ret ⟨⟨⟨h1.sz,h1.a0,h1.a1⟩,.inl ⟨rfl,rfl⟩⟩,hz.1,.inl ⟨rfl,?_⟩⟩
  rw [he] at hz
  rcases hz.2 with ⟨-,h⟩ | ⟨t,h,-⟩
  ·exact h
  ·cases h
 ·rw [hf,aEu,hq,I6]
  unfold L4 at hz
  cases hx:Cc y.1 with
  | none=>
   rw [hx] at hz
   rcases hz.2 with ⟨-,h⟩ | ⟨t,h,-⟩
   ·exact Ok.ret ⟨⟨⟨h1.sz,h1.a0,h1.a1⟩,.inl ⟨rfl,h⟩⟩,hz.1,.inl ⟨rfl,h⟩⟩
   ·cases h
  | some l=>
   rw [hx] at hz hzL
   have hzL:z.L=l:=hzL
   rcases hz.2 with ⟨h,-⟩ | ⟨t2,h,h3,h4⟩
   ·cases h
   ·have e:l=t2:=by
     injection h with h
     injection h with _ h
    subst e
    refine Ok.ret ⟨⟨⟨h1.sz,h1.a0,h1.a1⟩,.inr ⟨t,?_,h3,hd⟩⟩,hz.1,.inr ⟨l,rfl,h3,h4⟩⟩
    show some ((b,l),t)=some ((b,z.L),t)
    rw [hzL]
theorem Vm {β:Type} (r:Ad) (q:Option (β×List Aa)) (b:β) (hs:Rh r q b):∃ e,Ce r=some (e,r)/\((e=true/\q=some (b,[]))\/(e=false/\∀ b',q≠some (b',[]))):=by
 unfold Ce
 have h0:=hs.1.a0
 have h1:=hs.1.a1
 rcases hs.2 with ⟨hq,hf⟩ | ⟨t,hq,hf,hd⟩
 ·rw [hf,aCc]
  exact⟨false,rfl,.inr ⟨rfl,fun b' h=>by rw [hq] at h; cases h⟩⟩
 ·rw [hf,aEu]
  by_cases h:r.At=(r.L.length:Int)
  ·refine⟨_,rfl,.inl ⟨aBu h,?_⟩⟩
   rw [hq,<- hd,List.drop_eq_nil_of_le (by omega)]
  ·refine⟨_,rfl,.inr ⟨aBo h,fun b' h'=>?_⟩⟩
   rw [hq] at h'
   injection h' with h'
   injection h' with _ h'
   rw [h'] at hd
   have:=aF9.1 hd
   omega
theorem eX {v:Aa} {l:List Aa} (h:Cc v=some l):Kb v=match Py l with
 | some (((_,a),b),[])=>some (a,b)
 | _=>none:=by unfold Kb; rw [h]; rfl
theorem sU:X2 S4 Dd:=by
 intro β r q b hs
 unfold Dd Dd.j1
 refine Ok.bind (U9 r q b hs) fun z hz=>?_
 obtain⟨hz1,hz2⟩:=hz
 refine Ok.bind (Rr z.1 _ _ hz2) fun y1 h1=>?_
 refine Ok.bind (Rr y1.2 _ _ h1) fun y2 h2=>?_
 have hB:=hz1.1
 rcases hz1.2 with ⟨hq,hf⟩ | ⟨t,hq,hf,hd⟩
 ·rw [hf,aCc]
  refine Ok.ret ⟨⟨hB.sz,hB.a0,hB.a1⟩,.inl ⟨?_,rfl⟩⟩
  cases q with
  | none=>rfl
  | some p=>
   obtain⟨b',l⟩:=p
   cases l with
   | nil=>rfl
   | cons x l=>
    rw [I6] at hq ⊢
    cases hx:Cc x with
    | none=>unfold S4 Kb; rw [hx]; rfl
    | some _=>rw [hx] at hq; cases hq
 ·obtain⟨x,e1,e2⟩:=B1 hq
  have e1:q=some (b,x :: t):=e1
  have e2:Cc x=some z.1.L:=e2
  rw [hq] at h2
  obtain⟨e,he,hend⟩:=Vm y2.2 _ _ h2
  rw [hf,aEu]
  refine Ok.bindE he (Ok.ret ⟨⟨hB.sz,hB.a0,hB.a1⟩,?_⟩)
  rw [e1,I6]
  have hp:=eX e2
  have hpq:Py z.1.L=Gk (Gk ((some ((b,z.1.L),t)).map fun p:(β×List Aa)×List Aa=>((),p.1.2)) Eo) Eo:=rfl
  rw [hpq] at hp
  rcases hend with ⟨he1,hq2⟩ | ⟨he1,hq2⟩
  ·rw [hq2] at hp
   refine .inr ⟨t,?_,he1,hd⟩
   unfold S4
   rw [hp]; rfl
  ·refine .inl ⟨?_,he1⟩
   have:Kb x=none:=by
    rw [hp]
    split
    ·rename_i u a b' hm
     exact absurd hm (hq2 _)
    ·rfl
   unfold S4
   rw [this]; rfl
theorem qK (v:Aa) (hv:v.sz < 1073741824):Ok (Dn v) (fun z=>match F6 v with | some c=>z=(c,true) | none=>z.2=false):=by
 unfold Dn
 refine Ok.bind (iF v hv) fun y hy=>?_
 refine Ok.bind (U9 y _ _ hy.1) fun y2 h2=>?_
 refine Ok.bind (Rr y2.1 _ _ h2.2) fun z1 k1=>?_
 refine Ok.bind (bT z1.2 _ _ k1) fun z2 k2=>?_
 refine Ok.bind (bT z2.2 _ _ k2) fun z3 k3=>?_
 refine Ok.bind (sU z3.2 _ _ k3) fun z4 k4=>?_
 refine Ok.bind (Rr z4.2 _ _ k4) fun z5 k5=>?_
 refine Ok.bind (sU z5.2 _ _ k5) fun z6 k6=>?_
 refine Ok.bind (Rr z6.2 _ _ k6) fun z7 k7=>?_
 refine Ok.bind (Rr z7.2 _ _ k7) fun z8 k8=>?_
 refine Ok.bind (pH z8.2 _ _ k8) fun z9 k9=>?_
 refine Ok.bind (Rr z9.2 _ _ k9) fun z10 k10=>?_
 refine Ok.bind (U9 z10.2 _ _ k10) fun y13 h13=>?_
 obtain⟨kb,kn⟩:=h13
 have hB:=kn.1
 refine Ok.loop (fun s=>s.1.L=y13.1.L/\RB s.1/\(s.2.length:Int)=s.1.At - y13.1.At/\y13.1.At<=s.1.At/\
   ((s.1.OK=true/\y13.1.OK=true/\((y13.1.L.drop y13.1.At.toNat).take s.2.length).all (fun v=>(Do v).isSome)=true/\s.2=((y13.1.L.drop y13.1.At.toNat).take s.2.length).map nZ)\/(s.1.OK=false/\(y13.1.OK=false\/Lh (y13.1.L.drop y13.1.At.toNat)=none)))) (fun s=>(y13.1.L.length:Int).toNat + 1 - s.1.At.toNat) (fun s hs=>?_) ?_
 ·obtain⟨n,l⟩:=s
  obtain⟨a1,a2,a3,a4,a5⟩:=hs
  dsimp only at a1 a2 a3 a4 a5
  have hn:=Gj n.L
  have hsz:=a2.sz
  have b0:=a2.a0
  have b1:=a2.a1
  have c0:=hB.a0
  have c1:=hB.a1
  show Ok (Dn.l1 y2 z1 z2 z3 z4 z5 z6 z7 z8 z9 z10 y13 n l) _
  have fin:(n.OK=false\/(n.L.length:Int)<=n.At)->Ok (Dn.j2 y2 z1 z2 z3 z4 z5 z6 z7 z8 z9 z10 y13 n l false) (Rd' (fun s'=>(s'.1.L=y13.1.L/\RB s'.1/\(s'.2.length:Int)=s'.1.At - y13.1.At/\y13.1.At<=s'.1.At/\
    ((s'.1.OK=true/\y13.1.OK=true/\((y13.1.L.drop y13.1.At.toNat).take s'.2.length).all (fun v=>(Do v).isSome)=true/\s'.2=((y13.1.L.drop y13.1.At.toNat).take s'.2.length).map nZ)\/(s'.1.OK=false/\(y13.1.OK=false\/Lh (y13.1.L.drop y13.1.At.toNat)=none))))/\(y13.1.L.length:Int).toNat + 1 - s'.1.At.toNat < (y13.1.L.length:Int).toNat + 1 - ((n,l):Ad×List ByteArray).1.At.toNat) (fun z=>match F6 v with | some c=>z=(c,true) | none=>z.2=false)):=by
   intro hend
   unfold Dn.j2
   rw [aCc]
   refine Ok.up ?_
   refine Ok.bind (U9 y2.2 _ _ h2.1) fun y15 h15=>?_
   refine Ok.bind (Rr y15.1 _ _ h15.2) fun w1 m1=>?_
   refine Ok.bind (Rr w1.2 _ _ m1) fun w2 m2=>?_
   obtain⟨e18,he18,f18⟩:=Vm y15.2 _ _ h15.1
   obtain⟨e19,he19,f19⟩:=Vm y13.2 _ _ kb
   obtain⟨e21,he21,f21⟩:=Vm w2.2 _ _ m2
   have f20:∃ e,Ce n=some (e,n)/\((e=true/\y13.1.OK=true/\Lh (y13.1.L.drop y13.1.At.toNat)=some l)\/(e=false/\(y13.1.OK=false\/Lh (y13.1.L.drop y13.1.At.toNat)=none))):=by
    unfold Ce
    rcases a5 with ⟨o1,o2,o3,o4⟩ | ⟨o1,o2⟩
    ·rw [o1,aEu]
     rcases hend with h | h
     ·rw [o1] at h; cases h
     have hall:n.At=(n.L.length:Int):=by omega
     refine⟨_,rfl,.inl ⟨aBu hall,o2,?_⟩⟩
     have hlen:l.length=(y13.1.L.drop y13.1.At.toNat).length:=by
      rw [aD1]
      have:=congrArg List.length a1
      omega
     rw [hlen,aFg] at o3 o4
     unfold Lh
     rw [if_pos o3,o4]
    ·rw [o1,aCc]
     exact⟨_,rfl,.inr ⟨rfl,o2⟩⟩
   obtain⟨e20,he20,f20⟩:=f20
   refine Ok.bindE he18 ?_
   have houter:∀ x y,Cc v=some [x,y]->Gk (Gk (L4 v) Cc) Cc=((Cc x).bind fun l=>(Cc y).map fun m=>((((),l),m),[])):=by
    intro x y h
    unfold L4
    rw [h]
    show Gk (Gk (some ((),[x,y])) Cc) Cc=_
    rw [I6]
    cases hx:Cc x with
    | none=>rfl
    | some lx=>
     show Gk (some (((),lx),[y])) Cc=_
     rw [I6]
     cases Cc y <;> rfl
   have hno:F6 v=none->Ok (some ((Ab.mk z1.1 z2.1 z3.1 z4.1 z5.1 z6.1 z7.1 z8.1 z9.1 z10.1 l (Ct.mk w1.1 w2.1)),false)) (fun z:Ab×Bool=>match F6 v with | some c=>z=(c,true) | none=>z.2=false):=fun h=>Ok.ret (by rw [h])
   rcases f18 with ⟨g18,q18⟩ | ⟨g18,q18⟩
   rotate_left
   ·-- not two lists
    subst g18
    refine hno ?_
    unfold F6
    cases hl:Cc v with
    | none=>rfl
    | some l2=>
     match l2,hl with
     | [],_=>rfl
     | [_],_=>rfl
     | [x,y],hl=>
      have:=houter x y hl
      dsimp only
      cases hx:Cc x with
      | none=>unfold Ob; rw [hx]; rfl
      | some lx=>
       cases hy':Cc y with
       | none=>
        have:Kb y=none:=by unfold Kb; rw [hy']; rfl
        rw [this]
        cases Ob x <;> rfl
       | some ly=>
        rw [hx,hy'] at this
        exact absurd this (q18 _)
     | _ :: _ :: _ :: _,_=>rfl
   subst g18
   rw [show ((true,y15.2):Bool×Ad).1=true from rfl,aEu]
   obtain⟨y',p1,p2⟩:=B1 q18
   obtain⟨x',p3,p4⟩:=B1 p1
   have hl:Cc v=some [x',y']:=by
    unfold L4 at p3
    obtain⟨l3,q1,q2⟩:=aFi.1 p3
    injection q2 with _ q2
    rw [q1,q2]
   have p4:Cc x'=some y2.1.L:=p4
   have p2:Cc y'=some y15.1.L:=p2
   have hp:F6 v=(Ob x').bind fun b=>(Kb y').map fun s=>mkC b s:=by unfold F6; rw [hl]
   have hq0:Gk (L4 v) Cc=some (((),y2.1.L),[y']):=p1
   rw [hq0] at k1 k2 k3 k4 k5 k6 k7 k8 k9 k10 kb kn f19
   rw [q18] at m2 f21
   have hbody:Ob x'=match Ni (some ((),y2.1.L)) with
    | some (b,[])=>some b
    | _=>none:=by unfold Ob; rw [p4]; rfl
   have hpair:=eX p2
   have hb10:cT (some ((),y2.1.L))=Gk (Gk (Gk (Gk (Gk (Gk (Gk (Gk (Gk (Gk (Option.map (fun p:(Unit×List Aa)×List Aa=>((),p.1.2)) (some (((),y2.1.L),[y']))) Eo) Do) Do) S4) Eo) S4) Eo) Eo) H0) Eo:=rfl
   rw [<- hb10] at kb kn f19
   refine Ok.bindE he19 ?_
   rcases f19 with ⟨g19,q19⟩ | ⟨g19,q19⟩
   rotate_left
   ·subst g19
    refine hno ?_
    have:Ob x'=none:=by
     rw [hbody]
     cases hQ:Ni (some ((),y2.1.L)) with
     | none=>rfl
     | some p=>
      obtain⟨b,t⟩:=p
      cases t with
      | cons _ _=>rfl
      | nil=>
       exfalso
       unfold Ni at hQ
       obtain⟨xn,r1,r2⟩:=B1 hQ
       unfold O1 at r2
       obtain⟨ln,r3,-⟩:=aFp.1 r2
       refine q19 (b.1,ln) ?_
       rw [r1,I6,r3]; rfl
    rw [hp,this]; rfl
   subst g19
   rw [show ((true,y13.2):Bool×Ad).1=true from rfl,aEu]
   obtain⟨xn,r1,r2⟩:=B1 q19
   have r2:Cc xn=some y13.1.L:=r2
   have hdrop:y13.1.L.drop y13.1.At.toNat=y13.1.L/\y13.1.OK=true:=by
    rcases kn.2 with ⟨h,-⟩ | ⟨t,h,h3,h4⟩
    ·rw [q19] at h; cases h
    ·rw [q19] at h
     injection h with h
     injection h with _ h
     rw [h4,<- h]; exact⟨rfl,h3⟩
   rw [hdrop.1,hdrop.2] at f20
   refine Ok.bindE he20 ?_
   have hQ:Ni (some ((),y2.1.L))=(Lh y13.1.L).map fun a=>(((((((((((((),z1.1),z2.1),z3.1),z4.1),z5.1),z6.1),z7.1),z8.1),z9.1),z10.1),a),[]):=by
    unfold Ni
    rw [r1,I6]
    unfold O1
    rw [r2]; rfl
   rcases f20 with ⟨g20,-,q20⟩ | ⟨g20,q20⟩
   rotate_left
   ·subst g20
    refine hno ?_
    have q20:Lh y13.1.L=none:=by
     rcases q20 with h | h
     ·cases h
     ·exact h
    have:Ob x'=none:=by rw [hbody,hQ,q20]; rfl
    rw [hp,this]; rfl
   subst g20
   rw [show ((true,n):Bool×Ad).1=true from rfl,aEu]
   rw [q20] at hQ
   have hb:Ob x'=some ((((((((((((),z1.1),z2.1),z3.1),z4.1),z5.1),z6.1),z7.1),z8.1),z9.1),z10.1),l):=by rw [hbody,hQ]; rfl
   refine Ok.bindE he21 (Ok.ret ?_)
   have hpq:Py y15.1.L=Gk (Gk ((some ((((),y2.1.L),y15.1.L),[])).map fun p:((Unit×List Aa)×List Aa)×List Aa=>((),p.1.2)) Eo) Eo:=rfl
   rw [hpq] at hpair
   rcases f21 with ⟨g21,q21⟩ | ⟨g21,q21⟩
   ·rw [q21] at hpair
    rw [hp,hb,hpair,g21]; rfl
   ·have:Kb y'=none:=by
     rw [hpair]
     split
     ·rename_i u a b' hm
      exact absurd hm (q21 _)
     ·rfl
    rw [hp,hb,this,g21]; rfl
  unfold Dn.l1
  refine Ok.cond (fun hok=>?_) fun hok=>fin (.inl hok)
  by_cases hat:n.At < (n.L.length:Int)
  rotate_left
  ·rw [aBo hat]
   exact fin (.inr (by omega))
  rw [aBu hat]
  unfold Dn.j2
  rw [aEu]
  rcases a5 with ⟨o1,o2,o3,o4⟩ | ⟨o1,o2⟩
  rotate_left
  ·rw [o1] at hok; cases hok
  obtain⟨e,he⟩:∃ e,n.L[n.At.toNat]?=some e:=⟨_,aA1 (by omega)⟩
  have Zf:n.L.drop n.At.toNat=e :: n.L.drop (n.At.toNat + 1):=by
   obtain⟨hk,e'⟩:=aBw.1 he
   rw [aG3 hk,e']
  refine Ok.bind ((bT n (some ((),n.L.drop n.At.toNat)) () ⟨a2,.inr ⟨_,rfl,o1,rfl⟩⟩).and (lN n a2 o1 hat)) fun y14 h14=>?_
  obtain⟨⟨h14,h14s⟩,h14L,h14A⟩:=h14
  rw [Zf,I6] at h14s
  refine Ok.bindE (E2 (by rw [aEd]; omega)) ?_
  have hel:(y13.1.L.drop y13.1.At.toNat)[l.length]?=some e:=by
   rw [aE8,<- a1,show y13.1.At.toNat + l.length=n.At.toNat by omega]; exact he
  refine Ok.ret ⟨⟨h14L.trans a1,h14,?_,by show y13.1.At<=y14.2.At; omega,?_⟩,?_⟩
  ·show ((l ++ [y14.1]).length:Int)=y14.2.At - y13.1.At
   rw [aDw,aEd]; omega
  ·show _\/_
   dsimp only
   rcases h14s with ⟨g1,g2⟩ | ⟨t,g1,g2,g3⟩
   ·refine .inr ⟨g2,.inr ?_⟩
    have:Do e=none:=by cases hx:Do e with
     | none=>rfl
     | some _=>rw [hx] at g1; cases g1
    unfold Lh
    rw [if_neg]
    intro hall
    have:=aEb.1 hall e (F5 hel)
    rw [‹Do e=none›] at this
    cases this
   ·have ht:Do e=some y14.1:=by
     cases hx:Do e with
     | none=>rw [hx] at g1; cases g1
     | some s=>
      rw [hx] at g1
      injection g1 with g1
      injection g1 with g1 _
      injection g1 with _ g1
      rw [g1]
    refine .inl ⟨g2,o2,?_,?_⟩
    ·rw [aDw,aEd,Dw hel,aHi,o3]
     simp [ht]
    ·rw [aDw,aEd,Dw hel,aFw,<- o4]
     simp [nZ,ht]
  ·dsimp only
   have:=congrArg List.length a1
   omega
 ·refine⟨rfl,hB,by dsimp only; simp,aHu _,?_⟩
  cases ho:y13.1.OK with
  | true=>exact .inl ⟨rfl,rfl,by simp,by simp⟩
  | false=>exact .inr ⟨rfl,.inl rfl⟩
end
end Go.Proofs.YtfanepojdefdpaaGreat
