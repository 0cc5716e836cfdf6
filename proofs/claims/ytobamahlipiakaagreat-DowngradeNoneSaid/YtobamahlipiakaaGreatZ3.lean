/- Plain texts, joined. No program is in sight here. -/
import Derived.Test.YtobamahlipiakaaGreatX10
import Derived.Test.YtobamahlipiakaaGreatK4
import Derived.Test.YtobamahlipiakaaGreatL3
import Derived.Test.YtobamahlipiakaaGreatM2
set_option linter.unusedVariables false
set_option linter.unusedSimpArgs false
set_option maxRecDepth 100000
namespace Go.Proofs.YtobamahlipiakaaGreat
section
open Go
end
section
open Go
def Mn (r:Aw):Bool:=decide (0<=r.Alg) && (decide (r.Alg<=22) && (decide (0<=r.Below) && (decide (r.Below<=16384) && (decide (0<=r.Purpose) && (decide (r.Purpose<=4) && (decide (0<=r.From) && (decide (r.From < r.To) && decide (r.To<=40001))))))))
def Pj (k:Bl):Bool:=decide (1<=k.Purpose) && (decide (k.Purpose<=4) && (decide (0<=k.Days) && decide (k.Days<=40000)))
theorem aQy (b x:Bool):cond b (some x) (some false)=some (b && x):=by cases b <;> rfl
theorem aFs (r:Aw):Ob r=some (Mn r):=by
 unfold Ob Mn
 simp only [aQy]
theorem aLv (r:Aw):Pf r=some (Mn r):=aFs r
theorem aJp (k:Bl):Pp k=some (Pj k):=by
 unfold Pp Pj
 simp only [aQy]
theorem aRy (k:Bl):Qg k=some (Pj k):=aJp k
structure Xy (p:Bk):Prop where
 rules:p.Rules.length<=100000
 keeps:p.Keeps.length<=100000
def Wz (p:Bk):Int:=bif (decide (60 < (p.Rules.length:Int)) || decide (60 < (p.Keeps.length:Int))) || (p.Rules.any (fun r=>!Mn r) || p.Keeps.any (fun k=>!Pj k)) then 25 else 0
theorem aR7 {p:Bk} (h:Xy p):Fm p=some (Wz p):=by
 have h1:=h.rules
 have h2:=h.keeps
 have e1:F4 p.Rules (fun x0=>Hx x0)=some (p.Rules.any fun r=>!Mn r):=by
  have ei:Cb p.Rules (fun x0=>Hx x0)=some (Ja p.Rules fun r=>!Mn r):=by
   unfold Cb
   refine J7 p.Rules (fun r=>!Mn r) (Im (by omega)) (fun i x hx=>?_) ?_
   ·unfold Cb.l1
    rw [Dz hx]
    show ((Hx x).bind _)=_
    unfold Hx
    rw [aFs,aAg,aAg]
    cases Mn x <;> rfl
   ·unfold Cb.l1
    rw [Cy]; rfl
  unfold F4
  rw [ei,aAg,Mj]
 have e2:F2 p.Keeps (fun x0=>Hv x0)=some (p.Keeps.any fun r=>!Pj r):=by
  have ei:Ca p.Keeps (fun x0=>Hv x0)=some (Ja p.Keeps fun r=>!Pj r):=by
   unfold Ca
   refine J7 p.Keeps (fun r=>!Pj r) (Im (by omega)) (fun i x hx=>?_) ?_
   ·unfold Ca.l1
    rw [Dz hx]
    show ((Hv x).bind _)=_
    unfold Hv
    rw [aJp,aAg,aAg]
    cases Pj x <;> rfl
   ·unfold Ca.l1
    rw [Cy]; rfl
  unfold F2
  rw [ei,aAg,Mj]
 unfold Fm Fm.j1 Fm.j2 Wz
 rw [e1,aAg,e2,aAg]
 generalize (p.Rules.any fun r=>!Mn r)=b1
 generalize (p.Keeps.any fun r=>!Pj r)=b2
 generalize decide (60 < (p.Rules.length:Int))=b3
 generalize decide (60 < (p.Keeps.length:Int))=b4
 revert b1 b2 b3 b4
 decide
theorem aSr {p:Bk} (h:Xy p):Du p=some (Wz p):=by
 have h1:=h.rules
 have h2:=h.keeps
 have e3:Bz (fun q'=>Du.l3 p q') 0=some (bif p.Keeps.any (fun k=>!Pj k) then 25 else 0):=by
  refine M7 p.Keeps (fun k=>!Pj k) 25 0 (Im (by omega)) (fun i x hx=>?_) ?_
  ·unfold Du.l3
   rw [Dz hx,aRy,aAg]
   cases Pj x <;> rfl
  ·unfold Du.l3
   rw [Cy]; rfl
 have e2:Bz (fun q'=>Du.l2 p q') 0=some (bif p.Rules.any (fun k=>!Mn k) then 25 else bif p.Keeps.any (fun k=>!Pj k) then 25 else 0):=by
  refine M7 p.Rules (fun k=>!Mn k) 25 _ (Im (by omega)) (fun i x hx=>?_) ?_
  ·unfold Du.l2
   rw [Dz hx,aLv,aAg]
   cases Mn x <;> rfl
  ·unfold Du.l2
   rw [Cy,e3]; rfl
 unfold Du Du.j1 Wz
 rw [e2]
 generalize (p.Rules.any fun r=>!Mn r)=b1
 generalize (p.Keeps.any fun r=>!Pj r)=b2
 generalize decide (60 < (p.Rules.length:Int))=b3
 generalize decide (60 < (p.Keeps.length:Int))=b4
 revert b1 b2 b3 b4
 decide
def sS (r:Aw) (u:Ao) (pu:Int):Bool:=(decide (r.Alg=0) || decide (r.Alg=u.Alg)) && ((decide (r.Below=0) || (decide (0 < u.Bits) && decide (u.Bits < r.Below))) && (decide (r.Purpose=0) || decide (r.Purpose=pu)))
def Se (r:Aw) (u:Ao) (pu day:Int):Bool:=sS r u pu && (decide (r.From<=day) && decide (day < r.To))
theorem aP8 (r:Aw) (u:Ao) (pu:Int):D3 r u pu=some (sS r u pu):=by
 unfold D3 D3.j1 sS
 generalize decide (r.Alg=0)=b1
 generalize decide (r.Alg=u.Alg)=b2
 generalize decide (r.Below=0)=b3
 generalize decide (0 < u.Bits)=b4
 generalize decide (u.Bits < r.Below)=b5
 generalize decide (r.Purpose=0)=b6
 generalize decide (r.Purpose=pu)=b7
 revert b1 b2 b3 b4 b5 b6 b7
 decide +kernel
theorem aSs (r:Aw) (u:Ao) (pu day:Int):Lu r u pu day=some (Se r u pu day):=by
 unfold Lu Se sS
 generalize decide (r.Alg=0)=b1
 generalize decide (r.Alg=u.Alg)=b2
 generalize decide (r.Below=0)=b3
 generalize decide (0 < u.Bits)=b4
 generalize decide (u.Bits < r.Below)=b5
 generalize decide (r.Purpose=0)=b6
 generalize decide (r.Purpose=pu)=b7
 generalize decide (r.From<=day)=b8
 generalize decide (day < r.To)=b9
 revert b1 b2 b3 b4 b5 b6 b7 b8 b9
 decide +kernel
def O0 (l:List Aw) (p:Aw->Bool):Nat->Int
 | 0=>-1
 | n + 1=>match l[n]? with
  | some x=>bif p x then (n:Int) else O0 l p n
  | none=>-1
theorem bR {l:List Aw} {p:Aw->Bool}:∀ {n:Nat},n<=l.length->-1<=O0 l p n/\O0 l p n < n
 | 0,_=>⟨aXi _,by show (-1:Int) < 0; decide⟩
 | n + 1,h=>by
  have ih:=bR (l:=l) (p:=p) (n:=n) (by omega)
  have hn:l[n]?=some l[n]:=aCv (by omega)
  unfold O0
  rw [hn]
  dsimp only
  cases p l[n] with
  | true=>exact⟨by show (-1:Int)<=n; omega,by show (n:Int) < (n + 1:Nat); omega⟩
  | false=>exact⟨ih.1,by show O0 l p n < _; omega⟩
theorem gH {α:Type} {l:List α} {n:Nat} {x:α} (h:l[n]?=some x):Bm l (n:Int)=some x:=by
 rw [Ef]; exact h
theorem aQn {p:Bk} (h:Xy p) (u:Ao) (pu day:Int):Fv p u pu day=some (O0 p.Rules (fun r=>Se r u pu day) p.Rules.length):=by
 have hr:=h.rules
 have key:∀ n:Nat,n<=p.Rules.length->Bz (fun q'=>Fv.l1 p u pu day q') ((n:Int) - 1)=some (O0 p.Rules (fun r=>Se r u pu day) n):=by
  intro n
  induction n with
  | zero=>
   intro _
   refine D4 (x:=some (-1)) ?_
   unfold Fv.l1
   rfl
  | succ n ih=>
   intro hn
   have hx:p.Rules[n]?=some p.Rules[n]:=aCv (by omega)
   have e:(((n + 1:Nat):Int) - 1)=(n:Int):=by omega
   rw [e]
   unfold O0
   rw [hx]
   dsimp only
   have e0:Fv.l1 p u pu day (n:Int)=cond (Se p.Rules[n] u pu day) (up (some (n:Int))) (some (.next ((n:Int) - 1))):=by
    unfold Fv.l1
    rw [aA4 (Int.natCast_nonneg n),aEa,gH hx,aAg,aSs,aAg,Ej (by omega)]
   cases hm:Se p.Rules[n] u pu day with
   | true=>
    rw [hm] at e0
    exact D4 e0
   | false=>
    rw [hm] at e0
    rw [E0 e0]
    exact ih (by omega)
 unfold Fv
 rw [Ej (by omega)]
 exact key _ (aJf _)
theorem aPw {p:Bk} (h:Xy p) (u:Ao) (pu day:Int):Cm p u pu day=some (O0 p.Rules (fun r=>Se r u pu day) p.Rules.length):=by
 have hr:=h.rules
 have key:∀ n:Nat,n<=p.Rules.length->∃ c b,Bz (fun q'=>B0.l1 (fun a0' a1' q'=>yld (fun s'=>Cm.r1 u pu day a0' a1' s') q') p.Rules q'.1 q'.2) ((n:Int) - 1,((0,0):Nat×Int))=some (c,b)/\((c=0/\O0 p.Rules (fun r=>Se r u pu day) n=-1)\/(c=1/\O0 p.Rules (fun r=>Se r u pu day) n=b)):=by
  intro n
  induction n with
  | zero=>
   intro _
   refine⟨0,0,D4 (x:=some (0,0)) ?_,.inl ⟨rfl,rfl⟩⟩
   unfold B0.l1
   rfl
  | succ n ih=>
   intro hn
   have hx:p.Rules[n]?=some p.Rules[n]:=aCv (by omega)
   have e:(((n + 1:Nat):Int) - 1)=(n:Int):=by omega
   rw [e]
   unfold O0
   rw [hx]
   dsimp only
   have er:Cm.r1 u pu day (n:Int) p.Rules[n] 0=some (bif Se p.Rules[n] u pu day then (1,(n:Int)) else (0,0)):=by
    unfold Cm.r1 Cm.j2 Se
    rw [aP8,aAg]
    cases sS p.Rules[n] u pu <;> cases decide (p.Rules[n].From<=day) <;> cases decide (day < p.Rules[n].To) <;> rfl
   have e0:B0.l1 (fun a0' a1' q'=>yld (fun s'=>Cm.r1 u pu day a0' a1' s') q') p.Rules (n:Int) ((0,0):Nat×Int)=cond (Se p.Rules[n] u pu day) (up (some (1,(n:Int)))) (some (.next ((n:Int) - 1,(0,0)))):=by
    unfold B0.l1
    rw [aA4 (Int.natCast_nonneg n),aEa,gH hx,aAg]
    show (((Cm.r1 u pu day (n:Int) p.Rules[n] 0).map fun y=>(Nat.beq y.1 0,y))).bind _=_
    rw [er,Ej (by omega)]
    cases Se p.Rules[n] u pu day <;> rfl
   cases hm:Se p.Rules[n] u pu day with
   | true=>
    rw [hm] at e0
    exact⟨1,_,D4 e0,.inr ⟨rfl,rfl⟩⟩
   | false=>
    rw [hm] at e0
    rw [E0 e0]
    exact ih (by omega)
 unfold Cm Hr B0
 rw [aAg,Ej (by omega)]
 obtain⟨c,b,h1,h2⟩:=key _ (aJf _)
 rw [h1,aAg]
 rcases h2 with ⟨rfl,h2⟩ | ⟨rfl,h2⟩
 ·rw [h2]; rfl
 ·rw [h2]; rfl
def fF (p:Bk) (u:Ao) (pu day:Int):Bool:=match p.Rules[(O0 p.Rules (fun r=>Se r u pu day) p.Rules.length).toNat]? with
 | some r=>bif decide (O0 p.Rules (fun r=>Se r u pu day) p.Rules.length < 0) then true else r.Allow
 | none=>true
theorem wK {p:Bk} (h:Xy p) (u:Ao) (pu day:Int):(cond (decide (O0 p.Rules (fun r=>Se r u pu day) p.Rules.length < 0)) (some true) ((Bm p.Rules (O0 p.Rules (fun r=>Se r u pu day) p.Rules.length)).bind fun e=>some e.Allow))=some (fF p u pu day):=by
 obtain⟨h1,h2⟩:=bR (l:=p.Rules) (p:=fun r=>Se r u pu day) (aJf _)
 unfold fF
 generalize O0 p.Rules (fun r=>Se r u pu day) p.Rules.length=n at *
 by_cases hn:n < 0
 ·rw [aA4 hn]
  cases p.Rules[n.toNat]? <;> rfl
 ·obtain⟨m,rfl⟩:∃ m:Nat,n=(m:Int):=⟨n.toNat,by omega⟩
  have hx:p.Rules[m]?=some p.Rules[m]:=aCv (by omega)
  rw [aAw hn,aMr,hx,aDb,gH hx]
  rfl
theorem aFu {p:Bk} (h:Xy p) (u:Ao) (pu day:Int):Jm p u pu day=some (fF p u pu day):=by
 unfold Jm
 rw [aPw h,aAg]
 exact wK h u pu day
theorem aBk {p:Bk} (h:Xy p) (u:Ao) (pu day:Int):Ll p u pu day=some (fF p u pu day):=by
 unfold Ll
 rw [aQn h,aAg]
 exact wK h u pu day
def erS (p:Bk) (u:Ao) (pu day:Int):Int:=bif !decide (Wz p=0) then Wz p else bif !decide (0 < H8 u) then 7 else bif (decide (pu < 1) || decide (4 < pu)) || (decide (day < 0) || decide (40000 < day)) then 2 else 0
def aZ (p:Bk) (u:Ao) (pu day:Int):Bool×Int×Int:=bif !decide (erS p u pu day=0) then (false,0,erS p u pu day) else (fF p u pu day,O0 p.Rules (fun r=>Se r u pu day) p.Rules.length,0)
theorem aSv {p:Bk} (h:Xy p) (u:Ao) (pu day:Int):Jo p u pu day=some (aZ p u pu day):=by
 have e:Fw p u pu day=some (erS p u pu day):=by
  unfold Fw Fw.j1 erS
  rw [aR7 h,aAg,Sw,aAg]
  cases (!decide (Wz p=0)) <;> cases (!decide (0 < H8 u)) <;> cases decide (pu < 1) <;> cases decide (4 < pu) <;> cases decide (day < 0) <;> cases decide (40000 < day) <;> rfl
 unfold Jo aZ
 rw [e,aAg,aFu h,aAg,aPw h,aAg]
 cases (!decide (erS p u pu day=0)) <;> rfl
theorem aTg {p:Bk} (h:Xy p) (u:Ao) (pu day:Int):Ge p u pu day=some (aZ p u pu day):=by
 unfold Ge Ge.j1 Hk Hk.j1 aZ erS
 rw [aSr h,aAg,V4,aAg,aBk h,aAg,aQn h,aAg]
 by_cases h0:Wz p=0
 ·rw [h0]
  cases (!decide (0 < H8 u)) <;> cases decide (pu < 1) <;> cases decide (4 < pu) <;> cases decide (day < 0) <;> cases decide (40000 < day) <;> rfl
 ·have e1:(!decide (Wz p=0))=true:=by rw [aAw h0]; rfl
  rw [e1]
  show (some (Wz p)).bind _=_
  rw [aAg,e1]
  show _=some (bif !decide (Wz p=0) then _ else _)
  rw [e1]
  rfl
end
section
open Go
theorem aMd {x:Ah} (h1:cW x=true) (h2:∀ s∈x.Seals,(0<=s.Key/\s.Key<=2147483648)/\0<=s.Sum/\s.Sum < 4294967296) (h3:Zn x.Seals):N6 x=0:=by
 unfold N6
 have e:(List.range x.Seals.length).any (Uv x.Seals)=false:=by
  refine aR8.2 fun i hi=>?_
  have hi:=aSn.1 hi
  have hx:x.Seals[i]?=some x.Seals[i]:=aCv hi
  have hb:Uv x.Seals i=false:=by
   unfold Uv
   rw [R1 hx]
   have q:=h2 _ (List.getElem_mem hi)
   have e1:vJ x.Seals[i]=false:=by
    unfold vJ
    rw [aA4 q.1.1,aA4 q.1.2,aA4 q.2.1,aAw (by omega)]
    rfl
   rw [e1,aZk]
   by_cases h0:0 < i
   ·have hy:x.Seals[i - 1]?=some x.Seals[i - 1]:=aCv (by omega)
    have:=aV6.1 h3 (i - 1) i (by omega) hi (by omega)
    rw [R1 hy,aAw (p:=x.Seals[i].Key<=x.Seals[i - 1].Key) (by omega),Bool.and_false]
   ·rw [aAw h0,aR5]
  rw [hb]
  exact aX0
 rw [h1,e]
 rfl
structure MdX (x:Ah):Prop where
 pre:cW x=true
 asc:Zn x.Seals
 sls:∀ s∈x.Seals,(50<=s.Key/\s.Key<=54)/\0<=s.Sum/\s.Sum < 4294967296
theorem MdX.chk {x:Ah} (h:MdX x):N6 x=0:=aMd h.pre (fun s hs=>by have:=h.sls s hs; omega) h.asc
theorem MdX.len {x:Ah} (h:MdX x):x.Seals.length<=5:=by
 have:=dQ x.Seals 50 54 (fun s hs=>(h.sls s hs).1) h.asc
 omega
theorem mP {x:Ah} (h:cW x=true) {S:List Be} (hS:S.length<=8):cW ⟨x.Use,x.Purpose,x.Endpoint,x.Days,S⟩=true:=by
 unfold cW at h ⊢
 simp only [aF1] at h ⊢
 exact⟨h.1,h.2.1,h.2.2.1,h.2.2.2.1,h.2.2.2.2.1,h.2.2.2.2.2.1,h.2.2.2.2.2.2.1,aA4 (by omega)⟩
theorem MdX.sign {x:Ah} (h:MdX x) {k:Int} (hk:50<=k/\k<=54):MdX (bV x k).1:=by
 have hl:=h.len
 have hf:=aUn (kp k) x.Seals
 have e:bV x k=(⟨x.Use,x.Purpose,x.Endpoint,x.Days,Yl x.Seals k (Ih (Ik x))⟩,0):=by
  unfold bV
  rw [if_pos h.chk,if_pos (by omega),if_neg (by omega)]
 rw [e]
 have hs:∀ s∈Yl x.Seals k (Ih (Ik x)),(50<=s.Key/\s.Key<=54)/\0<=s.Sum/\s.Sum < 4294967296:=fun s hs=>by
  rcases aI2.1 hs with rfl | hs
  ·exact⟨hk,Xz _⟩
  ·exact h.sls s (aVk.1 hs).1
 have ha:Zn (Yl x.Seals k (Ih (Ik x))):=aGu h.asc k _
 refine⟨mP h.pre ?_,ha,hs⟩
 have:=dQ _ 50 54 (fun s hm=>(hs s hm).1) ha
 omega
theorem aCg {x:Ah} (h:Qf x) (k:Int):B4 x k=some (bV x k):=aRb h k
theorem P8 {d:Ad} (hd:L5 d) {u:Ao} (hs:decide (0 < H8 u)=true) (hu:(0<=u.Alg/\u.Alg<=100000)/\0<=u.Bits/\u.Bits<=100000) {e:ByteArray} (he:e.size<=32) (hn:Ha e=true):Ok (Cp d u e) (fun y=>(Qf y.1/\N6 y.1=0)/\L5 y.2):=by
 unfold Cp
 refine Ok.bind (Io hd _ (by decide) (by decide)) fun y1 h1=>?_
 refine Ok.bind (Io h1.2 _ (by decide) (by decide)) fun y2 h2=>?_
 refine Ok.bind (Io h2.2 _ (by decide) (by decide)) fun y3 h3=>?_
 refine Ok.bind (Hh h3.2 4 (by omega) (by omega)) fun y4 h4=>?_
 have b1:1<=y1.1/\y1.1<=3:=by
  have:=h1.1
  simp only [aF2,aF6,aQe] at this
  omega
 have b2:0<=y2.1/\y2.1<=30:=by
  have:=h2.1
  simp only [aF2,aF6,aQe] at this
  omega
 have b3:5<=y3.1/\y3.1<=200:=by
  have:=h3.1
  simp only [aF2,aF6,aQe] at this
  omega
 have b4:=h4.1
 rw [Ej (by omega)]
 have hp:cW ⟨⟨u.Alg,u.Bits⟩,y1.1,e,⟨y2.1,y2.1 + y3.1⟩,[]⟩=true:=by
  unfold cW
  simp only [aF1]
  refine⟨hs,aA4 b1.1,aA4 (by omega),hn,aA4 b2.1,?_,aA4 (by omega),rfl⟩
  rw [aAw (by omega)]; rfl
 refine Ok.loop (fun s:Int×Int×Int×Int×ByteArray×Int×Int×List Be=>(0<=s.1/\s.1<=4)/\Qf ⟨⟨s.2.1,s.2.2.1⟩,s.2.2.2.1,s.2.2.2.2.1,⟨s.2.2.2.2.2.1,s.2.2.2.2.2.2.1⟩,s.2.2.2.2.2.2.2⟩/\MdX ⟨⟨s.2.1,s.2.2.1⟩,s.2.2.2.1,s.2.2.2.2.1,⟨s.2.2.2.2.2.1,s.2.2.2.2.2.2.1⟩,s.2.2.2.2.2.2.2⟩) (fun s=>s.1.toNat) ?_
  ⟨⟨b4.1,by show y4.1<=4; omega⟩,⟨by show e.size<=200; omega,aOm _,by show _<=u.Alg/\u.Alg<=_; omega,by show _<=u.Bits/\u.Bits<=_; omega,by show _<=y1.1/\y1.1<=_; omega,by show _<=y2.1/\y2.1<=_; omega,by show _<=y2.1 + y3.1/\y2.1 + y3.1<=_; omega⟩,⟨hp,.nil,fun s hs=>by cases hs⟩⟩
 rintro⟨i,a1,a2,a3,a4,a5,a6,S⟩ ⟨⟨hi0,hi4⟩,hF,hM⟩
 dsimp only at hi0 hi4 hF hM
 show Ok (Cp.l1 y4 i a1 a2 a3 a4 a5 a6 S) _
 unfold Cp.l1
 refine Ok.cond (fun hb=>?_) (fun hb=>?_)
 ·have hb:=aEk hb
  rw [Ej (x:=50 + i) (by omega),Ej (x:=i - 1) (by omega)]
  refine Ok.bindE (aCg hF _) ?_
  exact Ok.ret ⟨⟨⟨by show 0<=i - 1; omega,by show i - 1<=4; omega⟩,aBa hF _,hM.sign (by omega)⟩,by show (i - 1).toNat < i.toNat; omega⟩
 ·refine Ok.up ?_
  have fin:∀ (S':List Be) (d':Ad),S'.length=S.length->Zn S'->(∀ s∈S',(50<=s.Key/\s.Key<=54)/\0<=s.Sum/\s.Sum < 4294967296)->L5 d'->Ok (Cp.j4 a1 a2 a3 a4 a5 a6 d'.L d'.At S') (fun y=>(Qf y.1/\N6 y.1=0)/\L5 y.2):=fun S' d' k1 k2 k3 k4=>by
   unfold Cp.j4
   have hl:=hM.len
   have hl:S.length<=5:=hl
   refine Ok.ret ⟨⟨⟨hF.nam,by show S'.length<=60; omega,hF.alg,hF.bits,hF.pur,hF.frm,hF.to⟩,?_⟩,k4⟩
   exact (MdX.mk (mP hM.pre (by omega)) k2 k3).chk
  have J3:∀ (b:Bool) (d':Ad),(b=true->0 < S.length)->L5 d'->Ok (Cp.j3 a1 a2 a3 a4 a5 a6 S b d'.L d'.At) (fun y=>(Qf y.1/\N6 y.1=0)/\L5 y.2):=fun b d' hb hd'=>by
   unfold Cp.j3
   refine Ok.cond (fun h1=>?_) (fun _=>fin _ _ rfl hM.asc hM.sls hd')
   have:=hb h1
   have hA:Zn S:=hM.asc
   have hS:∀ s∈S,(50<=s.Key/\s.Key<=54)/\0<=s.Sum/\s.Sum < 4294967296:=hM.sls
   cases S with
   | nil=>simp at this
   | cons s T=>
    refine Ok.bind (Rv (by omega) (by simp)) fun q hq=>?_
    have hq:s=q:=by simpa using hq
    subst hq
    have es:Ex (s :: T) ((0:Int).toNat) (Be.mk s.Key 7)=⟨s.Key,7⟩ :: T:=rfl
    rw [es]
    have hc:=aOn.1 hA
    refine fin _ _ rfl (aOn.2 ⟨fun b hb=>hc.1 b hb,hc.2⟩) (fun x hx=>?_) hd'
    rcases aF2.1 hx with rfl | hx
    ·exact⟨(hS s (.head _)).1,by show (0:Int)<=7; decide,by show (7:Int) < 4294967296; decide⟩
    ·exact hS x (.tail _ hx)
  refine Ok.cond (fun h1=>?_) (fun _=>J3 _ _ (fun h=>by cases h) h4.2)
  have h1:=aEk h1
  exact Ok.bind (Q7 h4.2 6 (by omega) (by omega)) fun y6 h6=>J3 _ _ (fun _=>by omega) h6
theorem lE {d:Ad} (hd:L5 d):Ok (Bu d) (fun y=>(y.1.Rules.length<=10/\y.1.Keeps.length<=10/\Wz y.1=0)/\L5 y.2):=by
 unfold Bu
 refine Ok.bind (Hh hd 7 (by omega) (by omega)) fun y hy=>?_
 have by1:=hy.1
 refine Ok.loop (fun s:Int×Ad×List Aw=>(0<=s.1/\s.1 + (s.2.2.length:Int)<=7)/\L5 s.2.1/\∀ x∈s.2.2,Mn x=true) (fun s=>s.1.toNat) ?_ ⟨⟨by1.1,by show y.1 + ((([]:List Aw).length:Nat):Int)<=7; simp; omega⟩,hy.2,fun x hx=>by cases hx⟩
 rintro⟨i,d1,l⟩ ⟨⟨h1,h2⟩,h3,h4⟩
 dsimp only at h1 h2 h3 h4
 show Ok (Bu.l1 i d1 l) _
 unfold Bu.l1
 refine Ok.cond (fun hb=>?_) (fun hb=>Ok.up ?_)
 ·have hb:=aEk hb
  refine Ok.bind (Q7 h3 3 (by omega) (by omega)) fun y2 k2=>?_
  refine Ok.bind (Io k2 _ (by decide) (by decide)) fun y3 k3=>?_
  have a1:0<=y3.1/\y3.1<=22:=by
   have:=k3.1
   simp only [aF2,aF6,aQe] at this
   omega
  refine Ok.bind (Q7 k3.2 2 (by omega) (by omega)) fun y4 k4=>?_
  have J5:∀ (b p f t:Int) (d':Ad),(0<=b/\b<=16384)->(0<=p/\p<=4)->0<=f->f < t->t<=40001->L5 d'->Ok (Bu.j5 i l y2 y3 b p f d' t) (Rd' (fun s':Int×Ad×List Aw=>((0<=s'.1/\s'.1 + (s'.2.2.length:Int)<=7)/\L5 s'.2.1/\∀ x∈s'.2.2,Mn x=true)/\s'.1.toNat < i.toNat) (fun y:Bk×Ad=>(y.1.Rules.length<=10/\y.1.Keeps.length<=10/\Wz y.1=0)/\L5 y.2)):=fun b p f t d' q1 q2 q3 q4 q5 q6=>by
   unfold Bu.j5
   refine Ok.bind (Ky (by rw [aF7]; omega)) fun l' hl'=>?_
   subst hl'
   rw [Ej (by omega)]
   refine Ok.ret ⟨⟨⟨by show 0<=i - 1; omega,?_⟩,q6,fun z hz=>?_⟩,by show (i - 1).toNat < i.toNat; omega⟩
   ·show i - 1 + ((l ++ [_]).length:Int)<=7
    rw [aF3,aF7]; omega
   ·rcases aHs.1 hz with hz | hz
    ·exact h4 z hz
    ·rw [aF4.1 hz]
     unfold Mn
     dsimp only
     rw [aA4 a1.1,aA4 a1.2,aA4 q1.1,aA4 q1.2,aA4 q2.1,aA4 q2.2,aA4 q3,aA4 q4,aA4 q5]
     rfl
  have J4:∀ (b p f:Int) (d':Ad),(0<=b/\b<=16384)->(0<=p/\p<=4)->(0<=f/\f<=100)->L5 d'->Ok (Bu.j4 i l y2 y3 b p d' f) _:=fun b p f d' q1 q2 q3 q4=>by
   unfold Bu.j4
   refine Ok.bind (Q7 q4 3 (by omega) (by omega)) fun z hz=>?_
   refine Ok.cond (fun _=>?_) (fun _=>J5 b p f 40001 _ q1 q2 q3.1 (by omega) (by omega) hz)
   refine Ok.bind (Io hz _ (by decide) (by decide)) fun z2 hz2=>?_
   have:=hz2.1
   simp only [aF2,aF6,aQe] at this
   rw [Ej (by omega)]
   exact J5 b p f _ _ q1 q2 q3.1 (by omega) (by omega) hz2.2
  have J3:∀ (b p:Int) (d':Ad),(0<=b/\b<=16384)->(0<=p/\p<=4)->L5 d'->Ok (Bu.j3 i l y2 y3 b d' p) _:=fun b p d' q1 q2 q4=>by
   unfold Bu.j3
   refine Ok.bind (Q7 q4 2 (by omega) (by omega)) fun z hz=>?_
   refine Ok.cond (fun _=>?_) (fun _=>J4 b p 0 _ q1 q2 (by omega) hz)
   refine Ok.bind (Io hz _ (by decide) (by decide)) fun z2 hz2=>?_
   have:=hz2.1
   simp only [aF2,aF6,aQe] at this
   exact J4 b p _ _ q1 q2 (by omega) hz2.2
  have J2:∀ (b:Int) (d':Ad),(0<=b/\b<=16384)->L5 d'->Ok (Bu.j2 i l y2 y3 d' b) _:=fun b d' q1 q4=>by
   unfold Bu.j2
   refine Ok.bind (Q7 q4 3 (by omega) (by omega)) fun z hz=>?_
   refine Ok.cond (fun _=>?_) (fun _=>J3 b 0 _ q1 (by omega) hz)
   refine Ok.bind (Hh hz 4 (by omega) (by omega)) fun z2 hz2=>?_
   have:=hz2.1
   rw [Ej (by omega)]
   exact J3 b _ _ q1 (by omega) hz2.2
  refine Ok.cond (fun _=>?_) (fun _=>J2 0 _ (by omega) k4)
  refine Ok.bind (Io k4 _ (by decide) (by decide)) fun z2 hz2=>?_
  have:=hz2.1
  simp only [aF2,aF6,aQe] at this
  exact J2 _ _ (by omega) hz2.2
 ·refine Ok.bind (Hh h3 3 (by omega) (by omega)) fun z hz=>?_
  have bz:=hz.1
  refine Ok.loop (fun s:Int×Ad×List Bl=>(0<=s.1/\s.1 + (s.2.2.length:Int)<=3)/\L5 s.2.1/\∀ x∈s.2.2,Pj x=true) (fun s=>s.1.toNat) ?_ ⟨⟨bz.1,by show z.1 + ((([]:List Bl).length:Nat):Int)<=3; simp; omega⟩,hz.2,fun x hx=>by cases hx⟩
  rintro⟨j,d2,m⟩ ⟨⟨g1,g2⟩,g3,g4⟩
  dsimp only at g1 g2 g3 g4
  show Ok (Bu.l6 l j d2 m) _
  unfold Bu.l6
  refine Ok.cond (fun hb=>?_) (fun hb=>Ok.up ?_)
  ·have hb:=aEk hb
   refine Ok.bind (Hh g3 4 (by omega) (by omega)) fun z1 e1=>?_
   refine Ok.bind (Io e1.2 _ (by decide) (by decide)) fun z2 e2=>?_
   refine Ok.bind (Ky (by rw [aF7]; omega)) fun l' hl'=>?_
   subst hl'
   have r1:=e1.1
   have r2:=e2.1
   simp only [aF2,aF6,aQe] at r2
   rw [Ej (x:=j - 1) (by omega),Ej (x:=1 + z1.1) (by omega)]
   refine Ok.ret ⟨⟨⟨by show 0<=j - 1; omega,?_⟩,e2.2,fun q hq=>?_⟩,by show (j - 1).toNat < j.toNat; omega⟩
   ·show j - 1 + ((m ++ [_]).length:Int)<=3
    rw [aF3,aF7]; omega
   ·rcases aHs.1 hq with hq | hq
    ·exact g4 q hq
    ·rw [aF4.1 hq]
     unfold Pj
     dsimp only
     rw [aA4 (by omega),aA4 (by omega),aA4 (by omega),aA4 (by omega)]
     rfl
  ·refine Ok.ret ⟨⟨by show l.length<=10; omega,by show m.length<=10; omega,?_⟩,g3⟩
   have e1:l.any (fun r=>!Mn r)=false:=aR8.2 fun x hx=>by rw [h4 x hx]; decide
   have e2:m.any (fun r=>!Pj r)=false:=aR8.2 fun x hx=>by rw [g4 x hx]; decide
   unfold Wz
   dsimp only
   rw [e1,e2,aAw (by omega),aAw (by omega)]
   rfl
end
section
open Go
def Ux (o:Cc) (u:Ao) (p:Int) (e:ByteArray) (day:Int) (x:Ah):Bool:=yU u p e x day && vaS x o
def iC (q:Ah->Bool) (m:Int) (l:List Ah):Int:=l.foldl (fun m x=>bif q x then max m x.Days.To else m) m
section
variable {l:List Ah} {o:Cc} {u:Ao} {p:Int} {e:ByteArray}
theorem aQk (hl:∀ x∈l,Qf x) (hn:l.length<=1000) (ho:o.Keys.length<=1000) (day:Int):Ct l o u p e day=some (iC (Ux o u p e day) 0 l,l.any (Ux o u p e day)):=by
 unfold Ct
 refine (Gs l.length (fun i=>((iC (Ux o u p e day) 0 (l.take i),(l.take i).any (Ux o u p e day),(i:Int)):Int×Bool×Int)) (iC (Ux o u p e day) 0 (l.take l.length),(l.take l.length).any (Ux o u p e day)) (fun i hi=>?_) ?_).trans (by rw [aR2])
 ·have hx:l[i]?=some l[i]:=aCv hi
  show Ct.l1 l o u p e day _ _ (i:Int)=_
  unfold Ct.l1
  rw [Dz hx,lL,aAg]
  have hv:=aMf (hl _ (Fr hx)) ho
  rw [hv,aAg,I9 hx,bBn]
  have ef:iC (Ux o u p e day) 0 (l.take i ++ [l[i]])=bif Ux o u p e day l[i] then max (iC (Ux o u p e day) 0 (l.take i)) l[i].Days.To else iC (Ux o u p e day) 0 (l.take i):=by
   unfold iC
   rw [bAw]
   rfl
  rw [ef]
  have ea:[l[i]].any (Ux o u p e day)=Ux o u p e day l[i]:=by simp
  rw [ea]
  unfold Ct.j2 Ct.j3 Ux
  rw [Fo (by omega)]
  cases yU u p e l[i] day with
  | false=>simp
  | true=>
   cases vaS l[i] o with
   | false=>simp
   | true=>simp
 ·show Ct.l1 l o u p e day _ _ (l.length:Int)=_
  unfold Ct.l1
  rw [Cy]
  rfl
theorem aM6 (hl:∀ x∈l,Qf x) (hn:l.length<=1000) (ho:o.Keys.length<=1000) (day:Int):Eo l o u p e day=some (l.any (Ux o u p e day)):=by
 unfold Eo
 refine (M7 l (Ux o u p e day) true false (Im (by omega)) (fun i x hx=>?_) ?_).trans (by cases l.any (Ux o u p e day) <;> rfl)
 ·unfold Eo.l1
  rw [Dz hx,aKh (hl _ (Fr hx)) ho,aAg,aHj,aAg]
  unfold Eo.j2 Ux
  cases yU u p e x day <;> cases vaS x o <;> rfl
 ·unfold Eo.l1
  rw [Cy]; rfl
def Uw (q:Bk) (l:List Ah) (o:Cc) (u:Ao) (p:Int) (e:ByteArray) (day:Int):Bool×Int:=
 bif !decide ((aZ q u p day).2.2=0) then (false,(aZ q u p day).2.2) else bif l.any (fun x=>!decide (N6 x=0)) then (false,26) else ((aZ q u p day).1 || l.any (Ux o u p e day),0)
theorem aQs {q:Bk} (hq:Xy q) (hl:∀ x∈l,Qf x) (hn:l.length<=1000) (ho:o.Keys.length<=1000) (day:Int):Il q l o u p e day=some (Uw q l o u p e day):=by
 have ec:Fe l (fun x0=>Fy x0)=some (l.any fun x=>!decide (N6 x=0)):=by
  have ei:Bt l (fun x0=>Fy x0)=some (Ja l fun x=>!decide (N6 x=0)):=by
   unfold Bt
   refine J7 l (fun x=>!decide (N6 x=0)) (Im (by omega)) (fun i x hx=>?_) ?_
   ·unfold Bt.l1
    rw [Dz hx]
    show ((Fy x).bind _)=_
    unfold Fy
    rw [pT (hl _ (Fr hx)),aAg,aAg]
    cases (!decide (N6 x=0)) <;> rfl
   ·unfold Bt.l1
    rw [Cy]; rfl
  unfold Fe
  rw [ei,aAg,Mj]
 unfold Il Uw
 rw [aSv hq,aAg,ec,aAg,aQk hl hn ho,aAg]
 cases (!decide ((aZ q u p day).2.2=0)) <;> cases (l.any fun x=>!decide (N6 x=0)) <;> cases (aZ q u p day).1 <;> rfl
theorem aO1 {q:Bk} (hq:Xy q) (hl:∀ x∈l,Qf x) (hn:l.length<=1000) (ho:o.Keys.length<=1000) (day:Int):Lq q l o u p e day=some (Uw q l o u p e day):=by
 have ec:Iv l=some (bif l.any (fun x=>!decide (N6 x=0)) then 26 else 0):=by
  unfold Iv
  refine M7 l (fun x=>!decide (N6 x=0)) 26 0 (Im (by omega)) (fun i x hx=>?_) ?_
  ·unfold Iv.l1
   rw [Dz hx,aEw (hl _ (Fr hx)),aAg]
   rcases Wi x with h | h <;> rw [h] <;> rfl
  ·unfold Iv.l1
   rw [Cy]; rfl
 unfold Lq Uw
 rw [aTg hq,aAg,ec,aAg,aM6 hl hn ho,aAg]
 cases (!decide ((aZ q u p day).2.2=0)) <;> cases (l.any fun x=>!decide (N6 x=0)) <;> cases (aZ q u p day).1 <;> rfl
end
end
end Go.Proofs.YtobamahlipiakaaGreat
