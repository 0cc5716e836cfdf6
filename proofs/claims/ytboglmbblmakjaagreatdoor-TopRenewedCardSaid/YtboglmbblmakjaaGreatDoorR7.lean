/- Plain texts, joined. No program is in sight here. -/
import Derived.Test.YtboglmbblmakjaaGreatDoorK4
import Derived.Test.YtboglmbblmakjaaGreatDoorL3
import Derived.Test.YtboglmbblmakjaaGreatDoorM2
import Derived.KernelRfl
import Derived.Test.YtboglmbblmakjaaGreatDoorME
import Derived.Test.YtboglmbblmakjaaGreatDoorK6
import Derived.Test.YtboglmbblmakjaaGreatDoorC1
set_option linter.unusedVariables false
set_option linter.unusedSimpArgs false
set_option maxRecDepth 100000
set_option maxHeartbeats 1000000
namespace Go.Proofs.YtboglmbblmakjaaGreatDoor
section
open Go
def Xm (r:Al):Bool:=decide (0<=r.Alg) && (decide (r.Alg<=22) && (decide (0<=r.Below) && (decide (r.Below<=16384) && (decide (0<=r.Purpose) && (decide (r.Purpose<=4) && (decide (0<=r.From) && (decide (r.From < r.To) && decide (r.To<=40001))))))))
def eT (k:Bk):Bool:=decide (1<=k.Purpose) && (decide (k.Purpose<=4) && (decide (0<=k.Days) && decide (k.Days<=40000)))
theorem aQd (b x:Bool):cond b (some x) (some false)=some (b && x):=by cases b <;> rfl
theorem aO9 (r:Al):Qx r=some (Xm r):=by
 unfold Qx Xm
 simp only [aQd]
theorem aS6 (k:Bk):R1 k=some (eT k):=by
 unfold R1 eT
 simp only [aQd]
structure pM (p:Br):Prop where
 rules:p.Rules.length<=100000
 keeps:p.Keeps.length<=100000
def zI (p:Br):Int:=bif (decide (60 < (p.Rules.length:Int)) || decide (60 < (p.Keeps.length:Int))) || (p.Rules.any (fun r=>!Xm r) || p.Keeps.any (fun k=>!eT k)) then 25 else 0
theorem aS8 {p:Br} (h:pM p):Eg p=some (zI p):=by
 have h1:=h.rules
 have h2:=h.keeps
 have e1:Gf p.Rules (fun x0=>I4 x0)=some (p.Rules.any fun r=>!Xm r):=by
  have ei:Co p.Rules (fun x0=>I4 x0)=some (Mg p.Rules fun r=>!Xm r):=by
   unfold Co
   refine Kp p.Rules (fun r=>!Xm r) (R3 (by omega)) (fun i x hx=>?_) ?_
   ·unfold Co.l1
    rw [G0 hx]
    show ((I4 x).bind _)=_
    unfold I4
    rw [aO9,aAy,aAy]
    cases Xm x <;> rfl
   ·unfold Co.l1
    rw [Fq]; rfl
  unfold Gf
  rw [ei,aAy,Of]
 have e2:Gi p.Keeps (fun x0=>I6 x0)=some (p.Keeps.any fun r=>!eT r):=by
  have ei:Cm p.Keeps (fun x0=>I6 x0)=some (Mg p.Keeps fun r=>!eT r):=by
   unfold Cm
   refine Kp p.Keeps (fun r=>!eT r) (R3 (by omega)) (fun i x hx=>?_) ?_
   ·unfold Cm.l1
    rw [G0 hx]
    show ((I6 x).bind _)=_
    unfold I6
    rw [aS6,aAy,aAy]
    cases eT x <;> rfl
   ·unfold Cm.l1
    rw [Fq]; rfl
  unfold Gi
  rw [ei,aAy,Of]
 unfold Eg Eg.j1 Eg.j2 zI
 rw [e1,aAy,e2,aAy]
 generalize (p.Rules.any fun r=>!Xm r)=b1
 generalize (p.Keeps.any fun r=>!eT r)=b2
 generalize decide (60 < (p.Rules.length:Int))=b3
 generalize decide (60 < (p.Keeps.length:Int))=b4
 revert b1 b2 b3 b4
 decide
def qR (r:Al) (u:Ah) (pu:Int):Bool:=(decide (r.Alg=0) || decide (r.Alg=u.Alg)) && ((decide (r.Below=0) || (decide (0 < u.Bits) && decide (u.Bits < r.Below))) && (decide (r.Purpose=0) || decide (r.Purpose=pu)))
def Ut (r:Al) (u:Ah) (pu day:Int):Bool:=qR r u pu && (decide (r.From<=day) && decide (day < r.To))
theorem aTe (r:Al) (u:Ah) (pu:Int):Eo r u pu=some (qR r u pu):=by
 unfold Eo Eo.j1 qR
 generalize decide (r.Alg=0)=b1
 generalize decide (r.Alg=u.Alg)=b2
 generalize decide (r.Below=0)=b3
 generalize decide (0 < u.Bits)=b4
 generalize decide (u.Bits < r.Below)=b5
 generalize decide (r.Purpose=0)=b6
 generalize decide (r.Purpose=pu)=b7
 revert b1 b2 b3 b4 b5 b6 b7
 decide +kernel
def Ta (l:List Al) (p:Al->Bool):Nat->Int
 | 0=>-1
 | n + 1=>match l[n]? with
  | some x=>bif p x then (n:Int) else Ta l p n
  | none=>-1
theorem eU {l:List Al} {p:Al->Bool}:∀ {n:Nat},n<=l.length->-1<=Ta l p n/\Ta l p n < n
 | 0,_=>⟨aUn _,by show (-1:Int) < 0; decide⟩
 | n + 1,h=>by
  have ih:=eU (l:=l) (p:=p) (n:=n) (by omega)
  have hn:l[n]?=some l[n]:=aBb (by omega)
  unfold Ta
  rw [hn]
  dsimp only
  cases p l[n] with
  | true=>exact⟨by show (-1:Int)<=n; omega,by show (n:Int) < (n + 1:Nat); omega⟩
  | false=>exact⟨ih.1,by show Ta l p n < _; omega⟩
theorem rC {α:Type} {l:List α} {n:Nat} {x:α} (h:l[n]?=some x):Bn l (n:Int)=some x:=by
 rw [F4]; exact h
theorem aOb {p:Br} (h:pM p) (u:Ah) (pu day:Int):C5 p u pu day=some (Ta p.Rules (fun r=>Ut r u pu day) p.Rules.length):=by
 have hr:=h.rules
 have key:∀ n:Nat,n<=p.Rules.length->∃ c b,C7 (fun q'=>A7.l1 (fun a0' a1' q'=>tO (fun s'=>C5.r1 u pu day a0' a1' s') q') p.Rules q'.1 q'.2) ((n:Int) - 1,((0,0):Nat×Int))=some (c,b)/\((c=0/\Ta p.Rules (fun r=>Ut r u pu day) n=-1)\/(c=1/\Ta p.Rules (fun r=>Ut r u pu day) n=b)):=by
  intro n
  induction n with
  | zero=>
   intro _
   refine⟨0,0,Mw (x:=some (0,0)) ?_,.inl ⟨rfl,rfl⟩⟩
   unfold A7.l1
   rfl
  | succ n ih=>
   intro hn
   have hx:p.Rules[n]?=some p.Rules[n]:=aBb (by omega)
   have e:(((n + 1:Nat):Int) - 1)=(n:Int):=by omega
   rw [e]
   unfold Ta
   rw [hx]
   dsimp only
   have er:C5.r1 u pu day (n:Int) p.Rules[n] 0=some (bif Ut p.Rules[n] u pu day then (1,(n:Int)) else (0,0)):=by
    unfold C5.r1 C5.j2 Ut
    rw [aTe,aAy]
    cases qR p.Rules[n] u pu <;> cases decide (p.Rules[n].From<=day) <;> cases decide (day < p.Rules[n].To) <;> rfl
   have e0:A7.l1 (fun a0' a1' q'=>tO (fun s'=>C5.r1 u pu day a0' a1' s') q') p.Rules (n:Int) ((0,0):Nat×Int)=cond (Ut p.Rules[n] u pu day) (up (some (1,(n:Int)))) (some (.next ((n:Int) - 1,(0,0)))):=by
    unfold A7.l1
    rw [aBd (Int.natCast_nonneg n),aHj,rC hx,aAy]
    show (((C5.r1 u pu day (n:Int) p.Rules[n] 0).map fun y=>(Nat.beq y.1 0,y))).bind _=_
    rw [er,Hh (by omega)]
    cases Ut p.Rules[n] u pu day <;> rfl
   cases hm:Ut p.Rules[n] u pu day with
   | true=>
    rw [hm] at e0
    exact⟨1,_,Mw e0,.inr ⟨rfl,rfl⟩⟩
   | false=>
    rw [hm] at e0
    rw [Ie e0]
    exact ih (by omega)
 unfold C5 Ix A7
 rw [aAy,Hh (by omega)]
 obtain⟨c,b,h1,h2⟩:=key _ (aKp _)
 rw [h1,aAy]
 rcases h2 with ⟨rfl,h2⟩ | ⟨rfl,h2⟩
 ·rw [h2]; rfl
 ·rw [h2]; rfl
def dB (p:Br) (u:Ah) (pu day:Int):Bool:=match p.Rules[(Ta p.Rules (fun r=>Ut r u pu day) p.Rules.length).toNat]? with
 | some r=>bif decide (Ta p.Rules (fun r=>Ut r u pu day) p.Rules.length < 0) then true else r.Allow
 | none=>true
theorem aGx {p:Br} (h:pM p) (u:Ah) (pu day:Int):(cond (decide (Ta p.Rules (fun r=>Ut r u pu day) p.Rules.length < 0)) (some true) ((Bn p.Rules (Ta p.Rules (fun r=>Ut r u pu day) p.Rules.length)).bind fun e=>some e.Allow))=some (dB p u pu day):=by
 obtain⟨h1,h2⟩:=eU (l:=p.Rules) (p:=fun r=>Ut r u pu day) (aKp _)
 unfold dB
 generalize Ta p.Rules (fun r=>Ut r u pu day) p.Rules.length=n at *
 by_cases hn:n < 0
 ·rw [aBd hn]
  cases p.Rules[n.toNat]? <;> rfl
 ·obtain⟨m,rfl⟩:∃ m:Nat,n=(m:Int):=⟨n.toNat,by omega⟩
  have hx:p.Rules[m]?=some p.Rules[m]:=aBb (by omega)
  rw [aBc hn,aQb,hx,aE8,rC hx]
  rfl
theorem sT {p:Br} (h:pM p) (u:Ah) (pu day:Int):I0 p u pu day=some (dB p u pu day):=by
 unfold I0
 rw [aOb h,aAy]
 exact aGx h u pu day
def erS (p:Br) (u:Ah) (pu day:Int):Int:=bif !decide (zI p=0) then zI p else bif !decide (0 < P8 u) then 7 else bif (decide (pu < 1) || decide (4 < pu)) || (decide (day < 0) || decide (40000 < day)) then 2 else 0
def aSv (p:Br) (u:Ah) (pu day:Int):Bool×Int×Int:=bif !decide (erS p u pu day=0) then (false,0,erS p u pu day) else (dB p u pu day,Ta p.Rules (fun r=>Ut r u pu day) p.Rules.length,0)
theorem aU1 {p:Br} (h:pM p) (u:Ah) (pu day:Int):G4 p u pu day=some (aSv p u pu day):=by
 have e:Ej p u pu day=some (erS p u pu day):=by
  unfold Ej Ej.j1 erS
  rw [aS8 h,aAy,Rl,aAy]
  cases (!decide (zI p=0)) <;> cases (!decide (0 < P8 u)) <;> cases decide (pu < 1) <;> cases decide (4 < pu) <;> cases decide (day < 0) <;> cases decide (40000 < day) <;> rfl
 unfold G4 aSv
 rw [e,aAy,sT h,aAy,aOb h,aAy]
 cases (!decide (erS p u pu day=0)) <;> rfl
end
section
def Hs (a f:Int):Br:=Br.mk [Al.mk false a 0 0 f 40001] []
def P6 (f:Int):Prop:=f=30\/f=60\/f=200
theorem aMd {f:Int} (h:P6 f):Jt [0,f,40001,40001]=some [0,f,40001,40001]:=by
 have hi:Bc [0,f,40001,40001] 0 4=some [0,f,40001,40001]:=by
  unfold Bc
  have st (i:Int) (hi:i=1\/i=2\/i=3):Bc.l1 0 4 i [0,f,40001,40001]=some (.next (i + 1,[0,f,40001,40001])):=by
   have e:Bc.l1 0 4 i [0,f,40001,40001]=C7 (fun q'=>Bc.l2 0 i q'.1 q'.2) (i,[0,f,40001,40001]):=by
    unfold Bc.l1
    rw [aBd (by omega:i < 4)]
    rfl
   rw [e]
   rcases h with rfl | rfl | rfl <;> rcases hi with rfl | rfl | rfl <;> exact Mw (x:=some (Lp.next (_,_))) (by kernel_rfl)
  exact (Ie (s':=(2,[0,f,40001,40001])) (st 1 (by omega))).trans ((Ie (s':=(3,[0,f,40001,40001])) (st 2 (by omega))).trans ((Ie (s':=(4,[0,f,40001,40001])) (st 3 (by omega))).trans (Mw (x:=some [0,f,40001,40001]) (by kernel_rfl))))
 have hp:Eh [0,f,40001,40001] 0 4 3=some [0,f,40001,40001]:=by
  unfold Eh
  refine cU ?_
  unfold Eh.l1
  have hd:decide (W (4 - 0)<=12)=true:=by kernel_rfl
  rw [hd,hi]
  rfl
 have hb:Hf (IntKind.wrap .u64 4)=some 3:=by kernel_rfl
 unfold Jt
 have hl:((([0,f,40001,40001]:List Int).length:Nat):Int)=4:=rfl
 rw [hl,hb,aAy,hp]
 rfl
theorem aA2 {f:Int} (h:P6 f):Cl [0,f,40001,40001]=some [0,f,40001]:=by
 have e:Cl [0,f,40001,40001]=C7 (fun q'=>Cl.l1 [0,f,40001,40001] q') 1:=rfl
 have e3:Cl.l1 [0,f,40001,40001] 3=C7 (fun q'=>Cl.l2 [0,f,40001,40001] 3 q'.1 q'.2.1 q'.2.2) (3,1,[0,f,40001,40001]):=rfl
 have e4:C7 (fun q'=>Cl.l2 [0,f,40001,40001] 3 q'.1 q'.2.1 q'.2.2) (3,1,[0,f,40001,40001])=some (Lp.done [0,f,40001]):=Mw (x:=some (Lp.done [0,f,40001])) rfl
 have e1:Cl.l1 [0,f,40001,40001] 1=some (Lp.next 2):=by rcases h with rfl | rfl | rfl <;> kernel_rfl
 have e2:Cl.l1 [0,f,40001,40001] 2=some (Lp.next 3):=by rcases h with rfl | rfl | rfl <;> kernel_rfl
 rw [e]
 exact (Ie e1).trans ((Ie e2).trans (cU (e3.trans e4)))
theorem aL6 {a f:Int} (h:P6 f):Jj (Hs a f)=some [0,f,40001]:=by
 unfold Jj
 refine (Ie (s':=(1,[0,f,40001])) (by kernel_rfl)).trans ?_
 refine (Mw (x:=(Jt [0,f,40001,40001]).bind fun y=>(Cl y).bind fun y_2=>some y_2) (by kernel_rfl)).trans ?_
 rw [aMd h,aAy,aA2 h]
 rfl
theorem pX {a f:Int} (ha:a≠0) (u:Ah) (pu day:Int):I0 (Hs a f) u pu day=some (!(decide (u.Alg=a) && (decide (f<=day) && decide (day < 40001)))):=by
 rw [sT (p:=Hs a f) (by constructor <;> (unfold Hs; simp))]
 have hm:Ut (Al.mk false a 0 0 f 40001) u pu day=(decide (u.Alg=a) && (decide (f<=day) && decide (day < 40001))):=by
  unfold Ut qR
  simp [ha,eq_comm]
 have e:dB (Hs a f) u pu day=!(Ut (Al.mk false a 0 0 f 40001) u pu day):=by
  unfold dB
  show (match ([Al.mk false a 0 0 f 40001]:List Al)[(bif Ut (Al.mk false a 0 0 f 40001) u pu day then (0:Int) else -1).toNat]? with
   | some r=>bif decide ((bif Ut (Al.mk false a 0 0 f 40001) u pu day then (0:Int) else -1) < 0) then true else r.Allow
   | none=>true)=_
  cases Ut (Al.mk false a 0 0 f 40001) u pu day <;> rfl
 rw [e,hm]
theorem wZ {a f:Int} (ha:a≠0) (h:P6 f) (u:Ah) (pu:Int):Ch (Hs a f) u pu=some (if u.Alg=a then [Bh.mk 0 f] else [Bh.mk 0 40001]):=by
 have hf:0 < f/\f < 40001:=by unfold P6 at h; omega
 unfold Ch
 rw [aL6 h,aAy]
 have w1:W (0 + 1)=1:=by kernel_rfl
 have w2:W (1 + 1)=2:=by kernel_rfl
 have w0:W ((([Bh.mk 0 f]:List Bh).length:Int) - 1)=0:=by
  rw [Hh (by simp)]
  simp
 have d0:decide ((0:Int) < W ((([0,f,40001]:List Int).length:Int) - 1))=true:=by kernel_rfl
 have d1:decide ((1:Int) < W ((([0,f,40001]:List Int).length:Int) - 1))=true:=by kernel_rfl
 have d2:decide ((2:Int) < W ((([0,f,40001]:List Int).length:Int) - 1))=false:=by kernel_rfl
 have n0:decide ((0:Int) < ((([]:List Bh).length:Nat):Int))=false:=by simp
 have n1:decide ((0:Int) < ((([Bh.mk 0 f]:List Bh).length:Nat):Int))=true:=by simp
 have g0:Bn [0,f,40001] 0=some 0:=by simp [Bn]
 have g1:Bn [0,f,40001] 1=some f:=by simp [Bn]
 have g2:Bn [0,f,40001] 2=some 40001:=by simp [Bn]
 have gs:Bn [Bh.mk 0 f] 0=some (Bh.mk 0 f):=by simp [Bn]
 have s1:Ch.l1 (Hs a f) u pu [0,f,40001] 0 []=some (Lp.next (1,[Bh.mk 0 f])):=by
  unfold Ch.l1
  rw [d0,aHj,g0,aAy,w1,g1,aAy,pX ha,aAy,aBc (show ¬ f<=0 by omega),Bool.false_and,Bool.and_false,aVw,aI7,aE8,n0,aE8]
  unfold Ch.j2
  rw [aE8,Gd (by simp),aAy]
  unfold Ch.j3
  rw [w1,aVl]
 have s2:Ch.l1 (Hs a f) u pu [0,f,40001] 1 [Bh.mk 0 f]=some (Lp.next (2,if u.Alg=a then [Bh.mk 0 f] else [Bh.mk 0 40001])):=by
  unfold Ch.l1
  rw [d1,aHj,g1,aAy,w2,g2,aAy,pX ha,aAy,aBd (aUn f),aBd hf.2,bD1,Bool.and_true,bD3]
  by_cases hu:u.Alg=a
  ·rw [aBd hu,aHj,if_pos hu]
   unfold Ch.j3
   rw [w2]
  ·rw [aBc hu,aE8,if_neg hu,n1,aHj,w0,gs,aAy]
   show Ch.j2 1 [Bh.mk 0 f] f 40001 (decide (f=f))=_
   rw [aBd rfl]
   unfold Ch.j2
   rw [aHj,w0,gs,aAy]
   have z:Jd [Bh.mk 0 f] (0:Int).toNat (Bh.mk (Bh.mk 0 f).From 40001)=[Bh.mk 0 40001]:=by simp [Jd]
   rw [z]
   unfold Ch.j3
   rw [w2]
 have s3 (out:List Bh):Ch.l1 (Hs a f) u pu [0,f,40001] 2 out=up (some out):=by
  unfold Ch.l1
  rw [d2,aE8]
 let B:Int×List Bh->Option (Lp (Int×List Bh) (List Bh)):=fun q'=>Ch.l1 (Hs a f) u pu [0,f,40001] q'.1 q'.2
 have t1:C7 B (0,[])=C7 B (1,[Bh.mk 0 f]):=Ie s1
 have t2:C7 B (1,[Bh.mk 0 f])=C7 B (2,if u.Alg=a then [Bh.mk 0 f] else [Bh.mk 0 40001]):=Ie s2
 have t3:C7 B (2,if u.Alg=a then [Bh.mk 0 f] else [Bh.mk 0 40001])=some (if u.Alg=a then [Bh.mk 0 f] else [Bh.mk 0 40001]):=Mw (s3 _)
 rw [t2,t3] at t1
 exact t1
end
section
def Sy (a:Int):Prop:=a=2\/a=1\/a=5
theorem uR (a f:Int):pM (Hs a f):=by constructor <;> (unfold Hs; simp)
theorem aTv {a f:Int} (ha:Sy a) (hf:P6 f):zI (Hs a f)=0:=by rcases ha with rfl | rfl | rfl <;> rcases hf with rfl | rfl | rfl <;> decide +kernel
theorem Yh {a f:Int} (ha:Sy a) (hf:P6 f):Eg (Hs a f)=some 0:=by rw [aS8 (uR a f),aTv ha hf]
section
variable {a f:Int} (ha:Sy a) (hf:P6 f)
theorem aL2 (ha:Sy a):a≠0:=by unfold Sy at ha; omega
theorem oD (ha:Sy a) (hf:P6 f) {u:Ah} (hu:0 < P8 u) {pu:Int} (hp:1<=pu/\pu<=4) {day:Int} (hd:0<=day/\day<=40000):Ej (Hs a f) u pu day=some 0:=by
 unfold Ej
 rw [Yh ha hf,aAy,Rl,aAy,aBd hu,aBc (show ¬ pu < 1 by omega),aBc (show ¬ 4 < pu by omega),aBc (show ¬ day < 0 by omega),aBc (show ¬ 40000 < day by omega)]
 rfl
theorem pR (ha:Sy a) (hf:P6 f) {u:Ah} (hu:0 < P8 u) {pu:Int} (hp:1<=pu/\pu<=4):I5 (Hs a f) u pu=some (if u.Alg=a then (f,true,0) else (0,false,0)):=by
 unfold I5
 rw [oD ha hf hu hp (by omega),aAy,aBd rfl,aI7,aE8,wZ (aL2 ha) hf,aAy]
 have hf':f≠40001:=by unfold P6 at hf; omega
 have w (s:Bh):Bn [s] (W ((([s]:List Bh).length:Int) - 1))=some s:=by
  rw [Hh (by simp)]
  simp [Bn]
 by_cases h:u.Alg=a
 ·rw [if_pos h,if_pos h,aBc (by simp),aE8,w,aAy]
  show cond (decide (f=40001)) _ _=_
  rw [aBc hf',aE8]
 ·rw [if_neg h,if_neg h,aBc (by simp),aE8,w,aAy]
  show cond (decide ((40001:Int)=40001)) _ _=_
  rw [aBd rfl,aHj]
theorem xF (ha:Sy a) (hf:P6 f) {u:Ah} (hu:0 < P8 u) {pu:Int} (hp:1<=pu/\pu<=4):M4 (Hs a f) u pu=some (if u.Alg=a then [Bh.mk 0 f] else [Bh.mk 0 40001],0):=by
 unfold M4
 rw [oD ha hf hu hp (by omega),aAy,aBd rfl,aI7,aE8,wZ (aL2 ha) hf,aAy]
def lkT (a f:Int) (x:A1):Bd:=⟨x.Day,if x.Use.Alg=a then f else 0,decide (x.Use.Alg=a)⟩
def Pj (a f:Int) (i:Aq):List Bd:=i.Links.map (lkT a f)
theorem nI {i:Aq} (fi:Rx i) (hi:mE i):A9 i=some 0:=Dc.zero (Ql fi) hi
theorem aPo (ha:Sy a) (hf:P6 f) {i:Aq} (fi:Rx i) (hi:mE i):F1 (Hs a f) i=some (if i.Kind=1 then .c235 (Pj a f i) else .c236 (Pj a f i),0):=by
 have hl:=hi.len
 unfold F1
 rw [Yh ha hf,aAy,aBd rfl,aI7,aE8,nI fi hi,aAy,aBd rfl,aI7,aE8]
 refine Je i.Links.length (fun k=>((k:Int),(i.Links.take k).map (lkT a f))) _ (fun k hk=>?_) ?_
 ·obtain⟨x,hx⟩:∃ x,i.Links[k]?=some x:=⟨_,aBb hk⟩
  show F1.l1 (Hs a f) i (k:Int) _=_
  unfold F1.l1
  rw [G0 hx,pR ha hf (hi.use x (E7 hx)) hi.purpose,aAy]
  have e:(if x.Use.Alg=a then (f,true,(0:Int)) else (0,false,0))=((lkT a f x).fall,(lkT a f x).falls,0):=by
   unfold lkT
   by_cases h:x.Use.Alg=a
   ·rw [if_pos h,if_pos h,aBd h]
   ·rw [if_neg h,if_neg h,aBc h]
  rw [e]
  show (Hc 72 _ _).bind _=_
  rw [Gd (by simp; omega),aAy,Kf (by omega),M1 hx,aUk]
  rfl
 ·show F1.l1 (Hs a f) i (i.Links.length:Int) _=_
  unfold F1.l1
  rw [Fq,aQa]
  by_cases h:i.Kind=1
  ·rw [if_pos h,aBd h]; rfl
  ·rw [if_neg h,aBc h]; rfl
def OkA (s:List Bd) (m:Nat):Prop:=∀ p x,s[m - 1]?=some p->s[m]?=some x->p.falls=true->x.day < p.fall
def tU (s:List Bd) (n:Nat):Prop:=1<=n/\n<=s.length/\(∀ m,1<=m->m < n->OkA s m)/\(n < s.length->¬ OkA s n)
theorem aG0 {s:List Bd} (h:1<=s.length/\s.length<=1000):∃ n:Nat,tU s n/\Cr s=some (n:Int):=by
 have:Ok (Cr s) (fun r=>∃ n:Nat,tU s n/\r=(n:Int)):=by
  unfold Cr
  refine Ok.loop (fun r=>∃ n:Nat,r=(n:Int)/\1<=n/\n<=s.length/\∀ m,1<=m->m < n->OkA s m) (fun r=>s.length - r.toNat) ?_ ⟨1,rfl,by omega,by omega,fun m _ _=>by omega⟩
  rintro _ ⟨n,rfl,h1,h2,h3⟩
  unfold Cr.l1 Cr.j2
  refine Ok.cond (fun hb=>?_) fun hb=>?_
  ·have hb:=aDm hb
   obtain⟨p,hp⟩:∃ p,s[n - 1]?=some p:=⟨_,aBb (by omega)⟩
   obtain⟨x,hx⟩:∃ x,s[n]?=some x:=⟨_,aBb (by omega)⟩
   rw [Hh (x:=(n:Int) - 1) (by omega),show (n:Int) - 1=((n - 1:Nat):Int) by omega,F4,hp,aAy,F4,hx,aAy,Hh (x:=(n:Int) + 1) (by omega)]
   have nx (h:OkA s n):Ok (some (Lp.next ((n:Int) + 1)):Option (Lp Int Int)) (gP (fun s'=>(∃ n:Nat,s'=(n:Int)/\1<=n/\n<=s.length/\∀ m,1<=m->m < n->OkA s m)/\s.length - s'.toNat < s.length - ((n:Nat):Int).toNat) fun r=>∃ n:Nat,tU s n/\r=(n:Int)):=
    Ok.ret ⟨⟨n + 1,by omega,by omega,by omega,fun m h4 h5=>if e:m=n then e ▸ h else h3 m h4 (by omega)⟩,by omega⟩
   refine Ok.cond (fun hp2=>nx fun p' x' hp' hx' hf'=>?_) fun hp2=>Ok.cond (fun hd=>nx fun p' x' hp' hx' hf'=>?_) fun hd=>Ok.up (Ok.ret ⟨n,⟨h1,h2,h3,fun _ hk=>?_⟩,rfl⟩)
   ·rw [hp] at hp'; cases hp'
    rw [hf'] at hp2; cases hp2
   ·rw [hp] at hp'; cases hp'
    rw [hx] at hx'; cases hx'
    exact aDm hd
   ·have hd:=aF4 hd
    have hfl:p.falls=true:=by simpa using hp2
    exact hd (hk p x hp hx hfl)
  ·have hb:=aF4 hb
   exact Ok.up (Ok.ret ⟨n,⟨h1,h2,h3,fun h=>by omega⟩,rfl⟩)
 obtain⟨_,h1,n,h2,rfl⟩:=this
 exact⟨n,h2,h1⟩
theorem tU.all {s:List Bd} {n:Nat} (h:tU s n) (k:∀ m,1<=m->m < s.length->OkA s m):n=s.length:=by
 obtain⟨h1,h2,h3,h4⟩:=h
 by_cases e:n < s.length
 ·exact absurd (k n h1 e) (h4 e)
 ·omega
theorem lD {s:List Bd} {n:Nat} (h:tU s n) (hs:s.length<=1000) (hc:Cr s=some (n:Int)) {p:Bd} (hp:s[n - 1]?=some p):Fz s=some (if p.falls then (max p.day p.fall,true) else (0,false)):=by
 obtain⟨h1,h2,-,-⟩:=h
 unfold Fz Ia
 rw [hc,aAy,Hh (by omega),show (n:Int) - 1=((n - 1:Nat):Int) by omega,F4,hp,aAy,aAy]
 cases h:p.falls <;> rfl
structure Sgn (a f:Int) (i:Aq) (n:Nat) (p:Bd):Prop where
 cnt:tU (Pj a f i) n
 at_:(Pj a f i)[n - 1]?=some p
 fails:Dh (Hs a f) i=some (if p.falls then (max p.day p.fall,true,0) else (0,false,0))
 latest:∀ e,i.Links[i.Links.length - 1]?=some e->Bv (Hs a f) i=some (if n=i.Links.length then (if (if p.falls then max p.day p.fall - 1 else 40000)<=e.Day then (0,false,0) else ((if p.falls then max p.day p.fall - 1 else 40000),true,0)) else (0,false,0))
theorem pJ {i:Aq} {m:Nat} {p:Bd} (h:(Pj a f i)[m]?=some p):∃ x,i.Links[m]?=some x/\p=lkT a f x:=by
 unfold Pj at h
 rw [aKm] at h
 cases hx:i.Links[m]? with
 | none=>rw [hx] at h; cases h
 | some x=>rw [hx] at h; cases h; exact⟨x,rfl,rfl⟩
theorem Ua {i:Aq}:(Pj a f i).length=i.Links.length:=bD2 _
theorem Z8 (ha:Sy a) (hf:P6 f) {i:Aq} (fi:Rx i) (hi:mE i) (hk:i.Kind=2):∃ n p,Sgn a f i n p:=by
 have hl:=hi.len
 obtain⟨n,hn,hc⟩:=aG0 (s:=Pj a f i) (by rw [Ua]; omega)
 obtain⟨p,hp⟩:∃ p,(Pj a f i)[n - 1]?=some p:=⟨_,aBb (by have:=hn.1; have:=hn.2.1; omega)⟩
 obtain⟨x,hx,ex⟩:=pJ hp
 have hxd:=hi.day x (E7 hx)
 have hff:p.fall=0\/p.fall=f:=by rw [ex]; unfold lkT; dsimp only; split <;> simp
 have hpd:p.day=x.Day:=by rw [ex]; rfl
 have hF:=lD hn (by rw [Ua]; omega) hc hp
 have ho:F1 (Hs a f) i=some (.c236 (Pj a f i),0):=by rw [aPo ha hf fi hi,if_neg (by omega)]
 refine⟨n,p,hn,hp,?_,fun e he=>?_⟩
 ·unfold Dh Dh.j1
  rw [ho,aAy]
  show (Fz (Pj a f i)).bind _=_
  rw [hF,aAy]
  cases h:p.falls <;> rfl
 ·have J (L:Int):Bv.j3 i L=some (if L<=e.Day then (0,false,0) else (L,true,0)):=by
   unfold Bv.j3
   rw [Hh (by omega),show (i.Links.length:Int) - 1=((i.Links.length - 1:Nat):Int) by omega,F4,he,aAy]
   by_cases h:L<=e.Day
   ·rw [aBd h,if_pos h]; rfl
   ·rw [aBc h,if_neg h]; rfl
  unfold Bv
  rw [ho,aAy]
  show (It (Pj a f i)).bind _=_
  unfold It
  rw [hc,aAy,aAy,Ua]
  by_cases hx2:n=i.Links.length
  ·rw [if_pos hx2,aBd (by omega)]
   unfold Bv.j1
   show (Fz (Pj a f i)).bind _=_
   rw [hF,aAy]
   unfold Bv.j2
   have hdf:0<=max p.day p.fall/\max p.day p.fall<=40000:=by unfold P6 at hf; omega
   cases h:p.falls
   ·exact J 40000
   ·show Bv.j3 i (W (max p.day p.fall - 1))=_
    rw [Hh (by omega)]
    exact J _
  ·rw [if_neg hx2,aBc (by omega)]
   rfl
theorem tI (ha:Sy a) (hf:P6 f) {i:Aq} (fi:Rx i) (hi:mE i) (hk:i.Kind=1):Ok (Dh (Hs a f) i) (fun r=>r.2.2=0)/\Bv (Hs a f) i=some (0,false,0):=by
 have hl:=hi.len
 have ho:F1 (Hs a f) i=some (.c235 (Pj a f i),0):=by rw [aPo ha hf fi hi,if_pos hk]
 have hF:Ok (Bt (Pj a f i)) (fun _=>True):=by
  unfold Bt
  refine Ok.loop (fun s=>∃ k:Nat,s.2.2=(k:Int)) (fun s=>(Pj a f i).length - s.2.2.toNat) ?_ ⟨0,rfl⟩
  rintro⟨x,b,_⟩ ⟨k,rfl⟩
  show Ok (Bt.l1 (Pj a f i) x b (k:Int)) _
  unfold Bt.l1 Bt.j2 Bt.j3 Ia
  have hll:(Pj a f i).length=i.Links.length:=Ua
  refine Ok.cond (fun hb=>?_) fun _=>Ok.up (Ok.ret trivial)
  have hb:=aDm hb
  obtain⟨p,hp⟩:∃ p,(Pj a f i)[k]?=some p:=⟨_,aBb (by omega)⟩
  rw [F4,hp,aAy,aAy,Hh (by omega)]
  have nx (z:Int) (c:Bool):Ok (some (Lp.next (z,c,(k:Int) + 1)):Option (Lp (Int×Bool×Int) (Int×Bool))) (gP (fun s'=>(∃ k:Nat,s'.2.2=(k:Int))/\(Pj a f i).length - s'.2.2.toNat < (Pj a f i).length - ((k:Nat):Int).toNat) fun _=>True):=
   Ok.ret ⟨⟨k + 1,by show (k:Int) + 1=_; omega⟩,by show (Pj a f i).length - ((k:Int) + 1).toNat < _; omega⟩
  refine Ok.cond (fun _=>Ok.cond (fun _=>Ok.cond (fun _=>nx _ _) fun _=>nx _ _) fun _=>Ok.cond (fun _=>nx _ _) fun _=>nx _ _) fun _=>Ok.cond (fun _=>nx _ _) fun _=>nx _ _
 refine⟨?_,?_⟩
 ·unfold Dh Dh.j1
  rw [ho,aAy]
  show Ok ((Bt (Pj a f i)).bind _) _
  exact Ok.bind hF fun r _=>Ok.ret rfl
 ·unfold Bv
  rw [ho,aAy]
  rfl
structure pG (a f:Int) (i:Aq):Prop where
 kind:i.Kind=2
 time:∀ m,1<=m->m < i.Links.length->OkA (Pj a f i) m
 last:∃ e,i.Links[i.Links.length - 1]?=some e/\e.Use.Alg=a/\e.Day + 1 < f
 til:f<=i.Until
theorem aJx (ha:Sy a) (hf:P6 f) {i:Aq} (fi:Rx i) (hi:mE i):Ok (Rp (Hs a f) i) (fun r=>r.1=true->r.2.2=true->pG a f i):=by
 have hl:=hi.len
 unfold Rp
 rcases hi.kind with hk | hk
 ·obtain⟨h1,h2⟩:=tI ha hf fi hi hk
  rw [h2]
  refine Ok.bind h1 fun r hr=>?_
  rw [aAy]
  refine Ok.cond (fun _=>Ok.ret fun _ h=>by cases h) fun _=>Ok.ret fun h _=>by cases h
 ·obtain⟨n,p,h⟩:=Z8 ha hf fi hi hk
  obtain⟨e,he⟩:∃ e,i.Links[i.Links.length - 1]?=some e:=⟨_,aBb (by omega)⟩
  rw [h.fails,h.latest e he,aAy,aAy]
  cases hp:p.falls with
  | false=>exact Ok.ret fun h _=>by cases h
  | true=>
   rw [if_pos rfl,if_pos rfl]
   refine Ok.ret fun h1 h2=>?_
   have h1:=aDm h1
   replace h2:(if n=i.Links.length then (if max p.day p.fall - 1<=e.Day then ((0:Int),false,(0:Int)) else (max p.day p.fall - 1,true,0)) else (0,false,0)).2.1=true:=h2
   by_cases hn:n=i.Links.length
   ·rw [if_pos hn] at h2
    by_cases hm:max p.day p.fall - 1<=e.Day
    ·rw [if_pos hm] at h2; cases h2
    ·obtain⟨x,hx,ex⟩:=pJ h.at_
     rw [hn,he] at hx
     cases hx
     have hal:e.Use.Alg=a:=by rw [ex] at hp; exact aDm hp
     have e1:p.day=e.Day:=by rw [ex]; rfl
     have e2:p.fall=f:=by rw [ex]; exact if_pos hal
     rw [e1,e2] at h1 hm
     exact⟨hk,fun m m1 m2=>h.cnt.2.2.1 m m1 (by omega),⟨e,he,hal,by omega⟩,by omega⟩
   ·rw [if_neg hn] at h2; cases h2
end
end
section
def F3:Ah:=⟨3,0⟩
def N3:Ah:=⟨4,0⟩
theorem aHf:0 < P8 F3/\0 < P8 N3:=by decide +kernel
theorem aJw {a:Int} (ha:Sy a):F3.Alg≠a/\N3.Alg≠a:=by
 unfold Sy at ha
 constructor
 ·show (3:Int)≠a
  omega
 ·show (4:Int)≠a
  omega
theorem aLa {α:Type} {l:List α} {e:α} (h:l[l.length - 1]?=some e) (hl:l.length<=1000000):Bn l (W ((l.length:Int) - 1))=some e:=by
 have:=I3 h
 rw [Hh (by omega),show (l.length:Int) - 1=((l.length - 1:Nat):Int) by omega,F4,h]
theorem wL (s:List A1) (h:s.length<=1000000):D4 s=some s:=by
 unfold D4 D4.j1
 have e:Hc 72 ([]:List A1) s=some s:=Gd (by simp; omega)
 rw [e]
 unfold Yr
 cases s with
 | nil=>rw [if_pos rfl]; exact if_pos rfl
 | cons x l=>rw [if_neg (by simp)]; rfl
theorem wW {from' to:Int} (h:from' < 40001) (h0:0<=from'):Nf [Bh.mk 0 40001] from' to=some (from',decide (from'<=to)):=by
 have hc:Gb 0 [Bh.mk 0 40001] from'=some true:=by
  unfold Gb
  show (some (Bh.mk 0 40001)).bind _=_
  rw [aAy]
  show some (decide (from' < 40001))=_
  rw [aBd h]
 have hs:Fj 1 (fun x0=>Gb x0 [Bh.mk 0 40001] from')=some 0:=by
  unfold Fj
  have e1:Fj.l1 (fun x0=>Gb x0 [Bh.mk 0 40001] from') 0 1=some (.next (0,0)):=by
   unfold Fj.l1
   have q:Q3 .u64 (IntKind.wrap .u64 (W (0 + 1))) 1=some 0:=by kernel_rfl
   have w0:W 0=0:=by kernel_rfl
   rw [q,aAy,w0]
   show cond true ((Gb 0 [Bh.mk 0 40001] from').bind _) _=_
   rw [hc,aAy]
   rfl
  exact (Ie (body:=fun q'=>Fj.l1 (fun x0=>Gb x0 [Bh.mk 0 40001] from') q'.1 q'.2) e1).trans (Mw (x:=some 0) rfl)
 unfold Nf
 show (Fj 1 _).bind _=_
 rw [hs,aAy]
 show cond (decide ((0:Int)=1)) _ _=_
 rw [aBc (by omega),aE8]
 show (some (Bh.mk 0 40001)).bind _=_
 rw [aAy]
 show some (max from' 0,decide (max from' 0<=to))=_
 rw [show max from' 0=from' by omega]
section
variable {a f:Int}
theorem aLz (ha:Sy a) (hf:P6 f) {pu:Int} (hp:1<=pu/\pu<=4) {from' to:Int} (h0:0<=from') (h1:from'<=to) (h2:to<=40000):B2 (Hs a f) [F3,N3] pu from' to=some (⟨F3,from'⟩,true):=by
 obtain⟨v2,v3⟩:=aHf
 obtain⟨n2,n3⟩:=aJw ha
 unfold B2
 have J2 (l:A1) (e:Ah) (y:Int×Bool):B2.j2 false 0 0 l e y 40001=some (.next (true,40001,1,⟨e,y.1⟩)):=by
  unfold B2.j2 B2.j3 B2.j4
  rw [aVw,aHj,aHj]
  rfl
 have J3 (l:A1) (e:Ah) (b:Bool):B2.j2 true 40001 1 l e (l.Day,b) 40001=some (.next (true,40001,2,l)):=by
  unfold B2.j2 B2.j3 B2.j4
  rw [aI7,aE8,aBc (show ¬ (40001:Int) < 40001 by omega),aE8,aBd rfl,aHj,aBc (show ¬ l.Day < l.Day by omega),aE8]
  rfl
 have e1:B2.l1 (Hs a f) [F3,N3] pu from' to false 0 0 (A1.mk (Ah.mk 0 0) 0)=some (.next (true,40001,1,⟨F3,from'⟩)):=by
  unfold B2.l1
  rw [show decide ((0:Int) < (([F3,N3].length:Nat):Int))=true from by kernel_rfl,aHj,show Bn [F3,N3] 0=some F3 from by simp [Bn],aAy,xF ha hf v2 hp,aAy,if_neg n2,wW (by omega) h0,aAy,aBd h1]
  show (I5 _ _ _).bind _=_
  rw [pR ha hf v2 hp,if_neg n2,aAy]
  exact J2 ⟨⟨0,0⟩,0⟩ F3 (from',true)
 have e2:B2.l1 (Hs a f) [F3,N3] pu from' to true 40001 1 ⟨F3,from'⟩=some (.next (true,40001,2,⟨F3,from'⟩)):=by
  unfold B2.l1
  rw [show decide ((1:Int) < (([F3,N3].length:Nat):Int))=true from by kernel_rfl,aHj,show Bn [F3,N3] 1=some N3 from by simp [Bn],aAy,xF ha hf v3 hp,aAy,if_neg n3,wW (by omega) h0,aAy,aBd h1]
  show (I5 _ _ _).bind _=_
  rw [pR ha hf v3 hp,if_neg n3,aAy]
  exact J3 ⟨F3,from'⟩ _ _
 have e3:B2.l1 (Hs a f) [F3,N3] pu from' to true 40001 2 ⟨F3,from'⟩=up (some (⟨F3,from'⟩,true)):=by
  unfold B2.l1
  rfl
 exact (Ie (body:=fun q'=>B2.l1 (Hs a f) [F3,N3] pu from' to q'.1 q'.2.1 q'.2.2.1 q'.2.2.2) e1).trans ((Ie e2).trans (Mw e3))
def Z0 (i:Aq) (d:Int):Aq:=⟨i.Name,i.Kind,i.Purpose,i.Links ++ [⟨F3,d⟩],i.Until⟩
theorem yD {i:Aq} (fi:Rx i) (hi:mE i) (d:Int):Rx (Z0 i d):=⟨fi.name,by have:=hi.len; show (i.Links ++ [_]).length < _; rw [aF3,aFu]; omega⟩
theorem aC4 {i:Aq} (hi:mE i) (h7:i.Links.length<=7) {e:A1} (he:i.Links[i.Links.length - 1]?=some e) {d:Int} (h1:e.Day < d) (h2:d<=40000):mE (Z0 i d):=by
 have hl:=hi.len
 have hed:=hi.day e (E7 he)
 refine⟨hi.name,hi.kind,hi.purpose,?_,fun m x y m0 hx hy=>?_,fun x hx=>?_,fun x hx=>?_,hi.until_,fun x hx=>?_⟩
 ·show 1<=(i.Links ++ [_]).length/\(i.Links ++ [_]).length<=8
  rw [aF3,aFu]; omega
 ·have hx:(i.Links ++ [⟨F3,d⟩])[m - 1]?=some x:=hx
  have hy:(i.Links ++ [⟨F3,d⟩])[m]?=some y:=hy
  have hm:=I3 hy
  rw [aF3,aFu] at hm
  rw [aF7 (by omega)] at hx
  by_cases c:m < i.Links.length
  ·rw [aF7 c] at hy
   exact hi.asc m x y m0 hx hy
  ·rw [aIp (by omega),show m - i.Links.length=0 by omega] at hy
   cases hy
   rw [show m - 1=i.Links.length - 1 by omega,he] at hx
   cases hx
   exact h1
 ·rcases aKi.1 hx with hx | hx
  ·exact hi.use x hx
  ·rw [aF2.1 hx]; exact aHf.1
 ·rcases aKi.1 hx with hx | hx
  ·exact hi.day x hx
  ·rw [aF2.1 hx]
   show 0<=d/\d<=40000
   omega
 ·have hx:(i.Links ++ [⟨F3,d⟩])[0]?=some x:=hx
  rw [aF7 (by omega)] at hx
  exact hi.first x hx
theorem aB3 (ha:Sy a) (hf:P6 f) {i:Aq} (fi:Rx i) (hi:mE i) (h7:i.Links.length<=7) (h:pG a f i) {e:A1} (he:i.Links[i.Links.length - 1]?=some e):Dh (Hs a f) (Z0 i (e.Day + 1))=some (0,false,0):=by
 have hl:=hi.len
 have hed:=hi.day e (E7 he)
 obtain⟨e',he',hal,hd⟩:=h.last
 rw [he] at he'
 cases he'
 have hf':f<=200:=by unfold P6 at hf; omega
 obtain⟨n,p,hs⟩:=Z8 ha hf (yD fi hi (e.Day + 1)) (aC4 hi h7 he (d:=e.Day + 1) (by omega) (by omega)) h.kind
 have hlen:(Pj a f (Z0 i (e.Day + 1))).length=i.Links.length + 1:=by
  rw [Ua]
  show (i.Links ++ [_]).length=_
  rw [aF3,aFu]
 have hmap:Pj a f (Z0 i (e.Day + 1))=Pj a f i ++ [lkT a f ⟨F3,e.Day + 1⟩]:=by
  unfold Pj
  show (i.Links ++ [_]).map _=_
  rw [aUk]; rfl
 have hll:(Pj a f i).length=i.Links.length:=Ua
 have hn:=hs.cnt.all (fun m m1 m2=>by
  rw [hlen] at m2
  intro q x hq hx hqf
  rw [hmap] at hq hx
  rw [aF7 (by omega)] at hq
  by_cases c:m < i.Links.length
  ·rw [aF7 (by omega)] at hx
   exact h.time m m1 c q x hq hx hqf
  ·rw [aIp (by omega),show m - (Pj a f i).length=0 by omega] at hx
   cases hx
   obtain⟨x,hx,rfl⟩:=pJ hq
   rw [show m - 1=i.Links.length - 1 by omega,he] at hx
   cases hx
   show e.Day + 1 < (if e.Use.Alg=a then f else 0)
   rw [if_pos hal]; omega)
 have hpf:p.falls=false:=by
  have:=hs.at_
  rw [hn,hlen,hmap,aIp (by omega),show i.Links.length + 1 - 1 - (Pj a f i).length=0 by omega] at this
  cases this
  exact aBc (aJw ha).1
 have:=hs.fails
 rw [hpf] at this
 exact this
theorem yN {i:Aq} {d:Int} {b:Bool} (h:Dh (Hs a f) i=some (d,b,0)) (hd:0<=d/\d<=100000):Jy (Hs a f) i=some (if b then d - 1 else 40000):=by
 unfold Jy
 rw [h,aAy]
 cases b with
 | false=>rfl
 | true=>
  show some (W (d - 1))=_
  rw [Hh (by omega)]; rfl
theorem aGb (ha:Sy a) (hf:P6 f) {i:Aq} (fi:Rx i) (hi:mE i) (h:pG a f i):Dh (Hs a f) i=some (f,true,0)/\Bv (Hs a f) i=some (f - 1,true,0):=by
 have hl:=hi.len
 obtain⟨e,he,hal,hd⟩:=h.last
 obtain⟨n,p,hs⟩:=Z8 ha hf fi hi h.kind
 have hn:=hs.cnt.all (fun m m1 m2=>h.time m m1 (by rw [Ua] at m2; exact m2))
 rw [Ua] at hn
 obtain⟨x,hx,ex⟩:=pJ hs.at_
 rw [hn,he] at hx
 cases hx
 have hpf:p.falls=true:=by rw [ex]; exact aBd hal
 have e1:p.day=e.Day:=by rw [ex]; rfl
 have e2:p.fall=f:=by rw [ex]; exact if_pos hal
 have hm:max p.day p.fall=f:=by rw [e1,e2]; omega
 have h1:=hs.fails
 have h2:=hs.latest e he
 rw [hpf,hm,if_pos rfl] at h1
 rw [hpf,hm,if_pos rfl,if_pos hn,if_neg (by omega)] at h2
 exact⟨h1,h2⟩
theorem aG6 (ha:Sy a) (hf:P6 f) {i:Aq} (fi:Rx i) (hi:mE i) (h7:i.Links.length<=7) (h:pG a f i) {e:A1} (he:i.Links[i.Links.length - 1]?=some e):Df (Hs a f) i [F3,N3] 0=some ([⟨F3,e.Day + 1⟩],0):=by
 have hl:=hi.len
 have hed:=hi.day e (E7 he)
 obtain⟨hF,hL⟩:=aGb ha hf fi hi h
 have hfd:30<=f/\f<=200:=by unfold P6 at hf; omega
 have hd:e.Day + 1 < f:=by
  obtain⟨e',he',-,hd⟩:=h.last
  rw [he] at he'
  cases he'
  exact hd
 have hr:=yN hF (by omega)
 have G:=yN (aB3 ha hf fi hi h7 h he) (by omega)
 rw [if_pos rfl] at hr
 rw [if_neg (by simp)] at G
 have hchk:M5 (Hs a f) i=some 0:=by
  unfold M5
  rw [Yh ha hf,aAy,nI fi hi]
  rfl
 have hinv:Jw [F3,N3]=some false:=by
  have ei:Cy [F3,N3] (fun x0=>Hd x0)=some (Mg [F3,N3] fun u=>!decide (0 < P8 u)):=by
   unfold Cy
   refine Kp [F3,N3] (fun u=>!decide (0 < P8 u)) (R3 (by decide)) (fun i x hx=>?_) ?_
   ·unfold Cy.l1
    rw [G0 hx]
    show ((Hd x).bind _)=_
    unfold Hd
    rw [Rl,aAy,aAy]
    cases decide (0 < P8 x) <;> rfl
   ·unfold Cy.l1
    rw [Fq]; rfl
  unfold Jw Hr
  rw [ei,aAy,Of]
  rfl
 unfold Df
 rw [hchk,aAy]
 show (Jw [F3,N3]).bind _=_
 rw [hinv,aAy]
 show C7 (fun q'=>Df.l2 (Hs a f) [F3,N3] 0 q'.1 q'.2) (i,[])=_
 have e1:Df.l2 (Hs a f) [F3,N3] 0 i []=some (.next (Z0 i (e.Day + 1),[⟨F3,e.Day + 1⟩])):=by
  unfold Df.l2
  have hap:K7 i [⟨F3,e.Day + 1⟩]=some (Z0 i (e.Day + 1)):=by
   unfold K7
   rw [wL _ (by omega),aAy,Gd (by simp; omega),aAy]
   rfl
  rw [hr,aAy,aBd (show f - 1 < i.Until by have:=h.til; omega),aHj,hL,aAy]
  show (Bn i.Links (W ((i.Links.length:Int) - 1))).bind _=_
  rw [aLa he (by omega),aAy,Hh (by omega),show max 0 (e.Day + 1)=e.Day + 1 by omega,aLz ha hf hi.purpose (by omega) (show e.Day + 1<=f - 1 by omega) (by omega),aAy]
  show cond (decide ((8:Int)<=(i.Links.length:Int))) _ _=_
  rw [aBc (by omega),aE8]
  show (K7 i [⟨F3,e.Day + 1⟩]).bind _=_
  rw [hap,aAy,G,aAy,aAy,aBc (by omega),aE8]
  show (Hc 72 ([]:List A1) [⟨F3,e.Day + 1⟩]).bind _=_
  rw [Gd (by simp),aAy]
  rfl
 have e2:Df.l2 (Hs a f) [F3,N3] 0 (Z0 i (e.Day + 1)) [⟨F3,e.Day + 1⟩]=up (some ([⟨F3,e.Day + 1⟩],0)):=by
  unfold Df.l2
  rw [G,aAy,aBc (show ¬ (40000:Int) < (Z0 i (e.Day + 1)).Until by have:=hi.until_; show ¬ 40000 < i.Until; omega),aE8]
 exact (Ie (body:=fun q'=>Df.l2 (Hs a f) [F3,N3] 0 q'.1 q'.2) e1).trans (Mw e2)
end
end
section
theorem W8 {α:Type} {s:List α} {a b:Option (List α)} (ha:a=some []) (hb:b=some s):Yr s a b=some s:=by
 subst ha hb
 unfold Yr
 cases s with
 | nil=>rw [if_pos rfl]; exact if_pos rfl
 | cons x l=>rw [if_neg (by simp)]
theorem kO {α:Type} {k:Nat} {s:List α} (h:s.length * k<=140737488355328):((Hc k ([]:List α) s).bind fun l=>some l)=some s:=by
 rw [Gd (by rw [bCo,aNm]; exact h)]; rfl
theorem mL {α:Type} {l:List α} {k:Nat} {x:α} (h:l[k]?=some x):Jd l k x=l:=by
 unfold Jd
 obtain⟨h1,rfl⟩:=aBe.1 h
 exact List.set_getElem_self h1
structure CpE (e:Ad):Prop where
 s:e.Suites.length<=1000000
 an:e.Anchors.length<=1000000
 ha:e.Hashes.length<=1000000
 id:e.Identities.length<=1000000
 ch:∀ x∈e.Identities,x.Chain.length<=1000000/\∀ c∈x.Chain,c.Names.length<=1000000000
theorem aDz {x:Av} (h:x.Chain.length<=1000000/\∀ c∈x.Chain,c.Names.length<=1000000000):Ek x=some x:=by
 have h1:=h.1
 unfold Ek
 have e:D2 x.Chain=some x.Chain:=W8 rfl (kO (by omega))
 rw [e,aAy]
 refine Je x.Chain.length (fun k=>((k:Int),x.Chain)) _ (fun k hk=>?_) ?_
 ·obtain⟨c,hc⟩:∃ c,x.Chain[k]?=some c:=⟨_,aBb hk⟩
  have h2:=h.2 c (E7 hc)
  show Ek.l1 x x.Chain (k:Int) x.Chain=_
  unfold Ek.l1
  have e:Fy c.Names=some c.Names:=W8 rfl (kO (by omega))
  rw [G0 hc,e,aAy,Kf (by omega),aQb]
  show some (Lp.next (((k + 1:Nat):Int),Jd x.Chain k c))=_
  rw [mL hc]
 ·show Ek.l1 x x.Chain (x.Chain.length:Int) x.Chain=_
  unfold Ek.l1
  rw [Fq]; rfl
theorem aEl {e:Ad} (h:CpE e):Em e=some e:=by
 have h1:=h.s
 have h2:=h.an
 have h3:=h.ha
 have h4:=h.id
 unfold Em
 have q (l:List Int) (hl:l.length<=1000000):E3 l=some l:=W8 rfl (kO (by omega))
 have qi:Ei e.Identities=some e.Identities:=W8 rfl (kO (by omega))
 rw [q _ h1,aAy,q _ h2,aAy,q _ h3,aAy,qi,aAy]
 refine Je e.Identities.length (fun k=>((k:Int),e.Identities)) _ (fun k hk=>?_) ?_
 ·obtain⟨c,hc⟩:∃ c,e.Identities[k]?=some c:=⟨_,aBb hk⟩
  show Em.l1 e e.Suites e.Anchors e.Hashes e.Identities (k:Int) e.Identities=_
  unfold Em.l1
  rw [G0 hc,aDz (h.ch c (E7 hc)),aAy,Kf (by omega),aQb,mL hc]
 ·show Em.l1 e e.Suites e.Anchors e.Hashes e.Identities (e.Identities.length:Int) e.Identities=_
  unfold Em.l1
  rw [Fq]; rfl
structure EsT (x:Ak):Prop where
 fit:xS x
 ok:EsV x
 cp:∀ e∈x.Endpoints,CpE e
theorem aMb {x:Ak} (h:EsT x):En x=some x:=by
 have h1:=h.ok.n
 have h2:=h.ok.edges
 have h3:=h.ok.m
 unfold En
 rw [Gd (by show (0 + x.Edges.length) * 32<=_; omega),aAy,aVl]
 have T:C7 (fun q'=>En.l2 x x.Edges x.Endpoints q'.1 q'.2) (0,[])=some x:=by
  refine Je x.Items.length (fun k=>((k:Int),x.Items.take k)) _ (fun k hk=>?_) ?_
  ·obtain⟨c,hc⟩:∃ c,x.Items[k]?=some c:=⟨_,aBb hk⟩
   have hl:=(h.ok.it c (E7 hc)).len
   show En.l2 x x.Edges x.Endpoints (k:Int) (x.Items.take k)=_
   unfold En.l2
   rw [G0 hc,Gd (by show (0 + c.Links.length) * 72<=_; omega),aAy,Gd (by rw [aHg,aFu]; omega),aAy,Kf (by omega),M1 hc]
   rfl
  ·show En.l2 x x.Edges x.Endpoints (x.Items.length:Int) (x.Items.take x.Items.length)=_
   unfold En.l2
   rw [Fq,aQa]; rfl
 have key:∀ j k,j + k=x.Endpoints.length->C7 (fun q'=>En.l1 x x.Edges q'.1 q'.2) ((k:Int),x.Endpoints.take k)=some x:=by
  intro j
  induction j with
  | zero=>
   intro k hk
   obtain rfl:k=x.Endpoints.length:=by omega
   refine Mw ?_
   show En.l1 x x.Edges (x.Endpoints.length:Int) (x.Endpoints.take x.Endpoints.length)=_
   unfold En.l1
   rw [Fq,aQa,T]
  | succ j ih=>
   intro k hk
   obtain⟨c,hc⟩:∃ c,x.Endpoints[k]?=some c:=⟨_,aBb (by omega)⟩
   refine (Ie (s':=(((k + 1:Nat):Int),x.Endpoints.take (k + 1))) ?_).trans (ih (k + 1) (by omega))
   show En.l1 x x.Edges (k:Int) (x.Endpoints.take k)=_
   unfold En.l1
   rw [G0 hc,aEl (h.cp c (E7 hc)),aAy,Gd (by rw [aHg,aFu]; omega),aAy,Kf (by omega),M1 hc]
 exact key _ 0 rfl
theorem gG {x:Ak} (h:EsT x):Cp x=some 0:=Dc.zero (aN h.fit) h.ok
def aAv (x:Ak) (k:Nat) (i:Aq):Ak:=⟨x.Endpoints,x.Edges,Jd x.Items k i⟩
theorem aJ5 {x:Ak} (h:EsT x) {k:Nat} {i:Aq} (fi:Rx i) (hi:mE i):EsT (aAv x k i):=by
 have hm:∀ y∈(aAv x k i).Items,y=i\/y∈x.Items:=fun y hy=>by
  rcases bBi hy with hy | hy
  ·exact .inr hy
  ·exact .inl hy
 have hl:(aAv x k i).Items.length=x.Items.length:=bCs
 refine⟨⟨h.fit.n,h.fit.edges,?_,h.fit.ep,fun y hy=>(hm y hy).elim (fun e=>e ▸ fi) fun q=>h.fit.it y q⟩,⟨h.ok.ep,h.ok.names,h.ok.n,fun y hy=>(hm y hy).elim (fun e=>e ▸ hi) fun q=>h.ok.it y q,?_,h.ok.edges,h.ok.ed⟩,h.cp⟩
 ·unfold Lo; rw [hl]; exact h.fit.m
 ·rw [hl]; exact h.ok.m
section
variable {a f:Int}
theorem aJz (ha:Sy a) (hf:P6 f) {i:Aq} (fi:Rx i) (hi:mE i) (h7:i.Links.length<=7) {e:A1} (he:i.Links[i.Links.length - 1]?=some e) {d:Int} (h1:e.Day < d) (h2:d<=40000):F7 (Hs a f) i F3 d=some (Z0 i d,0):=by
 unfold F7
 rw [aPo ha hf fi hi,aAy,aBd rfl,aI7,aE8]
 rw [Rl,aAy,aBd aHf.1]
 show (Bn i.Links (W ((i.Links.length:Int) - 1))).bind _=_
 rw [aLa he (by omega),aAy,aBc (by omega),aE8,aBc (by omega)]
 unfold F7.j1
 rw [aE8,aBc (by omega),aE8,wL _ (by omega),aAy,Gd (by rw [aFu]; omega),aAy]
 rfl
theorem aJc (ha:Sy a) (hf:P6 f) {x:Ak} (h:EsT x) {k:Nat} {i:Aq} (hk:x.Items[k]?=some i) (h7:i.Links.length<=7) {e:A1} (he:i.Links[i.Links.length - 1]?=some e) {d:Int} (h1:e.Day < d) (h2:d<=40000) :
  I2 x (Hs a f) ⟨(k:Int),⟨F3,d⟩⟩=some (aAv x k (Z0 i d),0):=by
 have hi:=h.ok.it i (E7 hk)
 have fi:=h.fit.it i (E7 hk)
 have hed:=hi.day e (E7 he)
 have hkl:=I3 hk
 have hchk:N9 x (Hs a f)=some 0:=by
  unfold N9
  rw [gG h,aAy,Yh ha hf]
  rfl
 have hall:Ok (G4 (Hs a f) F3 (Z0 i d).Purpose d) (fun r=>r.1=true):=by
  unfold G4
  show Ok ((Ej (Hs a f) F3 i.Purpose d).bind _) _
  rw [oD ha hf aHf.1 hi.purpose (by omega),aAy,aBd rfl,aI7,aE8,pX (aL2 ha),aAy,aBc (aJw ha).1,aOb (uR a f),aAy]
  exact Ok.ret rfl
 obtain⟨r,hr,hr1⟩:=hall
 unfold I2
 rw [hchk,aAy]
 show cond (decide ((k:Int) < 0)) _ _=_
 rw [aBc (by omega),aE8]
 show I2.j1 x (Hs a f) ⟨(k:Int),⟨F3,d⟩⟩ (decide ((x.Items.length:Int)<=(k:Int)))=_
 rw [aBc (by omega)]
 unfold I2.j1
 rw [aE8]
 show (Bn x.Items (k:Int)).bind _=_
 rw [F4,hk,aAy]
 show (F7 (Hs a f) i F3 d).bind _=_
 rw [aJz ha hf fi hi h7 he h1 h2,aAy]
 show (G4 (Hs a f) F3 (Z0 i d).Purpose d).bind _=_
 rw [hr,aAy,hr1,aI7,aE8,aMb h,aAy]
 show (Bn x.Items (k:Int)).bind _=_
 rw [F4,hk,aAy,aQb]
 rfl
theorem aK7 (ha:Sy a) (hf:P6 f) {x:Ak} (h:EsT x):Ok (S6 x (Hs a f)) (fun r=>r.2=0/\r.1.length<=1000/\r.1.Pairwise (fun u v=>u < v)/\∀ k∈r.1,∃ n:Nat,k=(n:Int)/\∃ i,x.Items[n]?=some i/\pG a f i):=by
 have hm:=h.ok.m
 unfold S6 Fr N9
 rw [gG h,aAy,Yh ha hf]
 show Ok (Option.bind (C7 _ _) _) _
 refine Ok.bind (Q:=fun r=>r.2=0/\r.1.length<=1000/\r.1.Pairwise (fun u v=>u < v)/\∀ k∈r.1,∃ n:Nat,k=(n:Int)/\∃ i,x.Items[n]?=some i/\pG a f i) ?_ fun r hr=>Ok.ret hr
 refine Ok.loop (fun s:Int×List Int=>∃ n:Nat,s.1=(n:Int)/\n<=x.Items.length/\s.2.length<=n/\(∀ k∈s.2,k < (n:Int))/\s.2.Pairwise (fun u v=>u < v)/\∀ k∈s.2,∃ n:Nat,k=(n:Int)/\∃ i,x.Items[n]?=some i/\pG a f i) (fun s=>x.Items.length - s.1.toNat) ?_ ⟨0,rfl,by omega,aKp _,fun k hk=>(by cases hk),List.Pairwise.nil,fun k hk=>(by cases hk)⟩
 rintro⟨_,out⟩ ⟨n,rfl,hn,ho,hlt,hp,hd⟩
 dsimp only at ho hlt hp hd
 show Ok (Fr.l1 x (Hs a f) true (n:Int) out) _
 unfold Fr.l1 Fr.j2 Fr.j3
 refine Ok.cond (fun hb=>?_) fun hb=>?_
 ·have hb:=aDm hb
  obtain⟨i,hi⟩:∃ i,x.Items[n]?=some i:=⟨_,aBb (by omega)⟩
  rw [F4,hi,aAy,Hh (by omega)]
  refine Ok.bind (aJx ha hf (h.fit.it i (E7 hi)) (h.ok.it i (E7 hi))) fun y hy=>?_
  have no:Ok (some (Lp.next ((n:Int) + 1,out)):Option (Lp (Int×List Int) (List Int×Int))) (gP (fun s':Int×List Int=>(∃ n:Nat,s'.1=(n:Int)/\n<=x.Items.length/\s'.2.length<=n/\(∀ k∈s'.2,k < (n:Int))/\s'.2.Pairwise (fun u v=>u < v)/\∀ k∈s'.2,∃ n:Nat,k=(n:Int)/\∃ i,x.Items[n]?=some i/\pG a f i)/\x.Items.length - s'.1.toNat < x.Items.length - ((n:Nat):Int).toNat) fun r=>r.2=0/\r.1.length<=1000/\r.1.Pairwise (fun u v=>u < v)/\∀ k∈r.1,∃ n:Nat,k=(n:Int)/\∃ i,x.Items[n]?=some i/\pG a f i):=
   Ok.ret ⟨⟨n + 1,by show (n:Int) + 1=_; omega,by omega,by show out.length<=_; omega,fun k hk=>by have:=hlt k hk; omega,hp,hd⟩,by show x.Items.length - ((n:Int) + 1).toNat < _; omega⟩
  refine Ok.cond (fun h1=>Ok.cond (fun h2=>?_) fun _=>no) fun _=>no
  have h2:=aDm h2
  refine Ok.bind (Nc (by rw [aFu]; omega)) fun l' hl'=>?_
  subst hl'
  refine Ok.ret ⟨⟨n + 1,by show (n:Int) + 1=_; omega,by omega,?_,fun k hk=>?_,?_,fun k hk=>?_⟩,by show x.Items.length - ((n:Int) + 1).toNat < _; omega⟩
  ·show (out ++ [(n:Int)]).length<=n + 1
   rw [aF3,aFu]; omega
  ·rcases aKi.1 hk with hk | hk
   ·have:=hlt k hk; omega
   ·have:=aF2.1 hk; omega
  ·exact bDu.2 ⟨hp,List.pairwise_singleton _ _,fun u hu v hv=>by have:=hlt u hu; have:=aF2.1 hv; omega⟩
  ·rcases aKi.1 hk with hk | hk
   ·exact hd k hk
   ·exact⟨n,aF2.1 hk,i,hi,hy h1 h2⟩
 ·exact Ok.up (Ok.ret ⟨rfl,by show out.length<=1000; omega,hp,hd⟩)
end
end
section
theorem aJi (u:Ah):0<=P8 u:=by
 have h1:∀ s b:Int,0<=s->0<=Gv s b:=fun s b h=>by unfold Gv; split <;> omega
 have h2:∀ b,0<=H9 b:=fun b=>by unfold H9 aEc; split <;> (try split) <;> (try split) <;> (try split) <;> (try split) <;> (try split) <;> omega
 have h3:∀ b,0<=Sa b:=fun b=>by unfold Sa; split <;> omega
 have h4:∀ (l m:List Int) (b:Int),(∀ x∈m,0<=x)->0<=Vn l m b:=fun l m b h=>by
  unfold Vn
  split
  ·rename_i i _
   rw [aVq]
   cases hx:m[i]? with
   | none=>exact aUn 0
   | some x=>exact h x (E7 hx)
  ·exact aUn 0
 have h5:∀ (n:Nat) b,0<=K1 n b:=fun n b=>by
  iterate 23 (rcases n with _ | n; · first | exact aUn 0 | exact h1 _ _ (by omega) | exact h2 _ | exact h3 _ | exact h4 _ _ _ (by decide))
  exact aUn 0
 unfold P8
 split
 ·exact h5 _ _
 ·exact aUn 0
noncomputable def suT (n:Int):Am×Int:=(Du n).getD (⟨0,⟨#[]⟩,⟨0,0⟩,⟨0,0⟩,⟨0,0⟩,⟨0,0⟩,0,0⟩,0)
theorem V4 (n:Int):Du n=some (suT n):=by
 obtain⟨y,hy,-⟩:=Vw n
 unfold suT
 rw [hy]; rfl
theorem aE4 (n:Int):((suT n).2=0/\kI n)\/((suT n).2=8/\¬ kI n):=by
 obtain⟨y,hy,d⟩:=Vw n
 rw [V4] at hy
 rw [oi_ hy]
 exact d
theorem aMq {n:Int} (h:(suT n).2=0):kI n:=(aE4 n).elim (fun q=>q.2) fun q=>by rw [q.1] at h; cases h
theorem aNb {n:Int} (h:kI n):(suT n).2=0:=(aE4 n).elim (fun q=>q.1) fun q=>absurd h q.2
theorem zO {α:Type} (l:List α) (p:α->Bool):Mg l p < (l.length:Int)/\-1<=Mg l p:=by
 unfold Mg
 cases h:l.findIdx? p with
 | none=>exact⟨by show (-1:Int) < _; omega,aUn _⟩
 | some i=>
  have:=(aLb.1 h).1
  exact⟨by show (i:Int) < _; omega,by show -1<=(i:Int); omega⟩
theorem aAw {α:Type} {l:List α} {p:α->Bool} (h:¬ Mg l p < 0):∃ i:Nat,∃ x,Mg l p=(i:Int)/\l[i]?=some x/\p x=true:=by
 unfold Mg at *
 cases hf:l.findIdx? p with
 | none=>rw [hf] at h; exact absurd (by show (-1:Int) < 0; omega) h
 | some i=>
  obtain⟨h1,h2,-⟩:=aLb.1 hf
  exact⟨i,l[i],rfl,aBb h1,h2⟩
noncomputable def idT (e:Ad) (n:Int):Int×Bool:=(Fe e n).getD (-1,false)
theorem Vy {e:Ad} (h:Lo e.Identities) (n:Int):Fe e n=some (idT e n)/\(idT e n).1 < (e.Identities.length:Int)/\((idT e n).2=true->0<=(idT e n).1/\kI n):=by
 have hi (s:Am):B4 e.Identities (fun x0=>Gh x0 s)=some (Mg e.Identities fun x=>decide (s.Sign.Alg=0) || decide (x.Key.Alg=s.Sign.Alg)):=by
  unfold B4
  refine Kp e.Identities _ h (fun i x hx=>?_) ?_
  ·unfold B4.l1
   rw [G0 hx]
   show (Gh x s).bind _=_
   unfold Gh
   cases decide (s.Sign.Alg=0) <;> cases decide (x.Key.Alg=s.Sign.Alg) <;> rfl
  ·unfold B4.l1
   rw [Fq]; rfl
 have:Ok (Fe e n) (fun r=>r.1 < (e.Identities.length:Int)/\(r.2=true->0<=r.1/\kI n)):=by
  unfold Fe
  rw [V4,aAy]
  refine Ok.cond (fun _=>Ok.ret ⟨by show (-1:Int) < _; omega,fun h=>by cases h⟩) fun h0=>?_
  rw [hi,aAy]
  exact Ok.ret ⟨(zO _ _).1,fun h=>⟨aDm h,aMq (by simpa using h0)⟩⟩
 obtain⟨r,h1,h2⟩:=this
 unfold idT
 rw [h1]
 exact⟨rfl,h2⟩
noncomputable def aF1 (t:Cw) (n:Int):Bool:=(Bx t n).getD false
theorem vM {t:Cw} (h:lV t.server) (hl:Lo t.suites) (n:Int):Bx t n=some (aF1 t n)/\(aF1 t n=true->(idT t.server n).2=true):=by
 have:Ok (Bx t n) (fun r=>r=true->(idT t.server n).2=true):=by
  unfold Bx Bx.j1
  rw [V4,aAy,Qd _ _ hl,Qd _ _ h.suites,(Vy h.ids n).1,aAy,aAy,aAy]
  have no:Ok (some false) (fun r=>r=true->(idT t.server n).2=true):=Ok.ret fun h=>by cases h
  exact Ok.cond (fun _=>no) fun _=>Ok.cond (fun _=>no) fun _=>Ok.cond (fun _=>no) fun _=>Ok.cond (fun _=>no) fun _=>Ok.cond (fun _=>no) fun _=>Ok.ret fun h=>h
 obtain⟨r,h1,h2⟩:=this
 unfold aF1
 rw [h1]
 exact⟨rfl,h2⟩
structure qL (e:Ad):Prop where
 f:lV e
 v:EpV e
 ch:∀ x∈e.Identities,∀ c∈x.Chain,T1 c
theorem qL.check {e:Ad} (h:qL e):Bu e=some 0:=Dc.zero (T5 h.f) h.v
section
variable {c e:Ad} {day:Int}
theorem wS (hc:qL c) (he:qL e):Jv c e=some true:=by
 unfold Jv
 rw [hc.check,he.check]; rfl
theorem aEd (hc:qL c) (he:qL e) {most:Int} {l:List Int} (hl:Lo l):Ok (Di c e day most l) (fun r=>r.2=0->kI r.1.Suite):=by
 unfold Di
 rw [wS hc he,aAy,aI7,aE8]
 have P:=vM (t:=⟨e,min most e.Most,l⟩) he.f hl
 have both:∀ o:List Int,Lo o->Ok ((Az o (fun x0=>Bx ⟨e,min most e.Most,l⟩ x0)).bind fun y_3=>
   cond (decide (y_3 < 0)) (some ((⟨0,0⟩:C8),(28:Int)))
    ((Bn o y_3).bind fun e'=>(Fe e e').bind fun y_4=>(Bn e.Identities y_4.1).bind fun e_2=>(Db e_2.Chain c.Anchors c.Hashes day e.Name).bind fun y_5=>
    cond (!decide (y_5=0)) (some (⟨0,0⟩,29)) (some (⟨min most e.Most,e'⟩,0)))) (fun r=>r.2=0->kI r.1.Suite):=fun o ho=>by
  have hi:Az o (fun x0=>Bx ⟨e,min most e.Most,l⟩ x0)=some (Mg o (aF1 ⟨e,min most e.Most,l⟩)):=by
   unfold Az
   refine Kp o _ ho (fun i x hx=>?_) ?_
   ·unfold Az.l1
    rw [G0 hx]
    show (Bx _ x).bind _=_
    rw [(P x).1,aAy]
    cases aF1 ⟨e,min most e.Most,l⟩ x <;> rfl
   ·unfold Az.l1
    rw [Fq]; rfl
  rw [hi,aAy]
  refine Ok.cond (fun _=>Ok.ret fun h=>by cases h) fun h0=>?_
  obtain⟨i,x,h1,h2,h3⟩:=aAw (aF4 h0)
  obtain⟨k1,k2,k3⟩:=Vy he.f.ids x
  obtain⟨k4,k5⟩:=k3 ((P x).2 h3)
  rw [h1,F4,h2,aAy,k1,aAy]
  refine Ok.bind (If k4 k2) fun y hy=>?_
  rw [rN y.Chain _ _ day e.Name hc.f.anchors hc.f.hashes (he.ch y hy),aAy]
  exact Ok.cond (fun _=>Ok.ret fun h=>by cases h) fun _=>Ok.ret fun _=>k5
 have j2:∀ b,Ok (Di.j2 c e day most l b) (fun r=>r.2=0->kI r.1.Suite):=fun b=>by
  unfold Di.j2
  exact Ok.cond (fun _=>Ok.ret fun h=>by cases h) fun _=>Ok.cond (fun _=>both e.Suites he.f.suites) fun _=>both l hl
 have j1:∀ b,Ok (Di.j1 c e day most l b) (fun r=>r.2=0->kI r.1.Suite):=fun b=>by
  unfold Di.j1
  exact Ok.cond (fun _=>Ok.ret fun h=>by cases h) fun _=>Ok.cond (fun _=>j2 _) fun _=>j2 _
 exact Ok.cond (fun _=>j1 _) fun _=>Ok.cond (fun _=>j1 _) fun _=>Ok.cond (fun _=>j1 _) fun _=>j1 _
theorem aC2 (hc:qL c) (he:qL e):Ok (Kt c e day) (fun r=>r.2=0->kI r.1.Suite):=by
 unfold Kt
 rw [wS hc he,aAy,aI7,aE8]
 exact Ok.bind (aEd hc he hc.f.suites) fun r hr=>Ok.ret hr
def Pi (l:List Ai):Prop:=∀ w∈l,kI w.Outcome.Suite
theorem Pi.add {l:List Ai} (h:Pi l) {w:Ai} (hw:kI w.Outcome.Suite):Pi (l ++ [w]):=fun x hx=>(aKi.1 hx).elim (h x) fun q=>by rw [aF2.1 q]; exact hw
theorem aJn (l:List Int) (h:l.length<=1000000):E3 l=some l:=W8 rfl (kO (by omega))
theorem aSo (hc:qL c) (he:qL e) {most:Int} {l:List Int} (hl:l.length<=1000) {out:List Ai} (ho:out.length<=1000) (hw:Pi out):Ok (Es most l c e day out) (fun r=>r.length<=out.length + 1/\Pi r):=by
 have no:∀ y,Ok (Es.j2 most l out y false) (fun r=>r.length<=out.length + 1/\Pi r):=fun y=>by
  unfold Es.j2
  exact Ok.ret ⟨by omega,hw⟩
 unfold Es
 refine Ok.bind (aEd hc he (R3 (by omega))) fun y hy=>?_
 refine Ok.cond (fun h0=>?_) fun _=>no y
 have hf:Ok (Gp out (fun x0=>Hv x0 y.1)) (fun _=>True):=by
  have hi:Cu out (fun x0=>Hv x0 y.1)=some (Mg out fun w=>decide (w.Outcome=y.1)):=by
   unfold Cu
   refine Kp out _ (R3 (by omega)) (fun i x hx=>?_) ?_
   ·unfold Cu.l1
    rw [G0 hx]
    show cond (decide (x.Outcome=y.1)) _ _=_
    cases decide (x.Outcome=y.1) <;> rfl
   ·unfold Cu.l1
    rw [Fq]; rfl
  unfold Gp
  rw [hi]
  exact Ok.ret trivial
 refine Ok.bind hf fun b _=>?_
 cases b with
 | true=>exact no y
 | false=>
  unfold Es.j2
  rw [aVw,aHj,aJn l (by omega),aAy]
  refine Ok.bind (Nc (by rw [aFu]; omega)) fun r hr=>?_
  subst hr
  exact Ok.ret ⟨by rw [aF3,aFu]; omega,hw.add (hy (aDm h0))⟩
theorem aD9 (n:Int):Ko n 0=some false:=by
 unfold Ko
 rw [V4,aAy,bW,aAy,aBc (show ¬ P8 (suT n).1.Mac < 0 by have:=aJi (suT n).1.Mac; omega)]
 cases decide ((suT n).2=0) <;> rfl
theorem aEk (x y:Int):Ok (Gl x y) (fun _=>True):=by
 unfold Gl H5
 rw [aAy,aAy]
 exact Ok.cond (fun _=>Ok.cond (fun _=>Ok.ret trivial) fun _=>Ok.ret trivial) fun _=>Ok.cond (fun _=>Ok.ret trivial) fun _=>Ok.cond (fun _=>Ok.ret trivial) fun _=>Ok.cond (fun _=>Ok.ret trivial) fun _=>Ok.ret trivial
theorem aAs (x y:Ai):Ok (F2 x y) (fun _=>True):=by
 unfold F2
 refine Ok.bind (aEk _ _) fun a _=>Ok.bind (aEk _ _) fun b _=>Ok.bind (Q:=fun _=>True) ?_ fun _ _=>Ok.ret trivial
 unfold Hj
 refine Ok.loop (fun s=>∃ k:Nat,s=(k:Int)) (fun s=>2 - s.toNat) ?_ ⟨0,rfl⟩
 rintro _ ⟨k,rfl⟩
 unfold Hj.l1
 refine Ok.cond (fun hb=>?_) fun _=>Ok.up (Ok.ret trivial)
 have hb:(k:Int) < 2:=aDm hb
 refine Ok.bind (If (by omega) (by show (k:Int) < 2; omega)) fun z _=>?_
 rw [Hh (by omega)]
 exact Ok.cond (fun _=>Ok.up (Ok.ret trivial)) fun _=>Ok.ret ⟨⟨k + 1,by omega⟩,by omega⟩
theorem aRt {l:List Ai} (h:Pi l) {k:Nat} {w:Ai} (hw:kI w.Outcome.Suite):Pi (Jd l k w):=fun x hx=>(bBi hx).elim (h x) fun q=>q ▸ hw
theorem aMl {l:List Ai} (hl:l.length<=12) (hw:Pi l):Ok (Hn l (fun x0 x1=>F2 x0 x1)) (fun r=>r.length=l.length/\Pi r):=by
 have hin:Ok (An l 0 (l.length:Int) (fun x0 x1=>F2 x0 x1)) (fun r=>r.length=l.length/\Pi r):=by
  unfold An
  refine Ok.loop (fun s:Int×List Ai=>1<=s.1/\s.1<=13/\s.2.length=l.length/\Pi s.2) (fun s=>(13 - s.1).toNat) ?_ ⟨by show (1:Int)<=W (0 + 1); rw [Hh (by omega)]; omega,by show W (0 + 1)<=(13:Int); rw [Hh (by omega)]; omega,rfl,hw⟩
  rintro⟨i,m⟩ ⟨h1,h2,h3,h4⟩
  dsimp only at h1 h2 h3 h4
  show Ok (An.l1 0 (l.length:Int) (fun x0 x1=>F2 x0 x1) i m) _
  unfold An.l1
  refine Ok.cond (fun hb=>?_) fun _=>Ok.up (Ok.ret ⟨h3,h4⟩)
  have hb:=aDm hb
  refine Ok.loop (fun s:Int×List Ai=>0<=s.1/\s.1<=i/\s.2.length=l.length/\Pi s.2) (fun s=>s.1.toNat) ?_ ⟨by omega,aUn i,h3,h4⟩
  rintro⟨j,m⟩ ⟨k1,k2,k3,k4⟩
  dsimp only at k1 k2 k3 k4
  show Ok (An.l2 0 (fun x0 x1=>F2 x0 x1) i j m) _
  unfold An.l2 An.j3
  rw [Hh (x:=i + 1) (by omega)]
  have out (m':List Ai) (q3:m'.length=l.length) (q4:Pi m'):Ok (up (some (Lp.next (i + 1,m'))):Option (Lp (Int×List Ai) (Lp (Int×List Ai) (List Ai)))) (gP (fun s':Int×List Ai=>(0<=s'.1/\s'.1<=i/\s'.2.length=l.length/\Pi s'.2)/\s'.1.toNat < j.toNat) (gP (fun s':Int×List Ai=>(1<=s'.1/\s'.1<=13/\s'.2.length=l.length/\Pi s'.2)/\(13 - s'.1).toNat < (13 - i).toNat) fun r=>r.length=l.length/\Pi r)):=
   Ok.up (Ok.ret ⟨⟨by show 1<=i + 1; omega,by show i + 1<=13; omega,q3,q4⟩,by show (13 - (i + 1)).toNat < (13 - i).toNat; omega⟩)
  refine Ok.cond (fun hj=>?_) fun _=>out m k3 k4
  have hj:=aDm hj
  rw [Hh (x:=j - 1) (by omega)]
  refine Ok.bind (If (by omega) (by omega)) fun x hx=>Ok.bind (If (by omega) (by omega)) fun y hy=>Ok.bind (aAs x y) fun z _=>?_
  refine Ok.cond (fun _=>?_) fun _=>out m k3 k4
  refine Ok.bind (If (by omega) (by omega)) fun x hx=>Ok.bind (If (by omega) (by omega)) fun y hy=>Ok.bind (If (by omega) (by unfold Jd; rw [bCs]; omega)) fun z _=>?_
  exact Ok.ret ⟨⟨by show 0<=j - 1; omega,by show j - 1<=i; omega,by show (Jd (Jd m _ _) _ _).length=_; unfold Jd; rw [bCs,bCs]; exact k3,aRt (aRt k4 (k4 x hx)) (k4 y hy)⟩,by show (j - 1).toNat < j.toNat; omega⟩
 unfold Hn
 have hb:∀ n:Fin 13,(Hf (IntKind.wrap .u64 (n.val:Int))).isSome=true:=by decide +kernel
 obtain⟨y,hy⟩:=Option.isSome_iff_exists.1 (hb ⟨l.length,by omega⟩)
 rw [show Hf (IntKind.wrap .u64 (l.length:Int))=some y from hy,aAy]
 refine Ok.bind (Q:=fun r=>r.length=l.length/\Pi r) ?_ fun r hr=>Ok.ret hr
 unfold Ck
 refine Ok.loop (fun _=>True) (fun _=>0) (fun _ _=>?_) trivial
 unfold Ck.l1
 rw [Hh (by omega),aBd (by omega),aHj]
 exact Ok.bind hin fun r hr=>Ok.up (Ok.ret hr)
theorem aSi (hc:qL c) (he:qL e):Ok (Bg c e day 0) (fun r=>r.1.length<=12/\Pi r.1):=by
 have v1:=hc.v.least
 have v3:=hc.v.most4
 have hsl:c.Suites.length<=16:=aM1 hc.v.suites
 have nil:∀ k:Int,Ok (some (([]:List Ai),k)) (fun r=>r.1.length<=12/\Pi r.1):=fun k=>Ok.ret ⟨aLi _,fun w hw=>by cases hw⟩
 have J5:∀ least:Int,1<=least->Ok (Bg.j5 c e day 0 least) (fun r=>r.1.length<=12/\Pi r.1):=fun least hle=>by
  unfold Bg.j5
  refine Ok.loop (fun s:Int×List Ai=>0<=s.1/\s.1<=4/\s.1 + (s.2.length:Int)<=4/\Pi s.2) (fun s=>s.1.toNat) ?_ ⟨by have:=hc.v.most; show 0<=c.Most; omega,v3,by show c.Most + ((([]:List Ai).length:Nat):Int)<=4; rw [bCo]; omega,fun w hw=>by cases hw⟩
  rintro⟨k,out⟩ ⟨h1,h2,h3,h4⟩
  dsimp only at h1 h2 h3 h4
  show Ok (Bg.l6 c e day 0 least k out) _
  unfold Bg.l6
  refine Ok.cond (fun hb=>?_) fun _=>Ok.up ?_
  ·have hb:=aDm hb
   refine Ok.bind (aSo hc he (by omega) (by omega) h4) fun r hr=>?_
   rw [Hh (by omega)]
   exact Ok.ret ⟨⟨by show 0<=k - 1; omega,by show k - 1<=4; omega,by show k - 1 + (r.length:Int)<=4; omega,hr.2⟩,by show (k - 1).toNat < k.toNat; omega⟩
  ·have ho:out.length<=12:=by omega
   refine Ok.loop (fun s:Int×List Ai=>0<=s.1/\s.1<=4/\s.2.length<=12/\Pi s.2) (fun s=>s.1.toNat) ?_ ⟨by have:=hc.v.most; show 0<=c.Most; omega,v3,ho,h4⟩
   clear h1 h2 h3 h4 ho
   rintro⟨k,out⟩ ⟨h1,h2,ho,h4⟩
   dsimp only at h1 h2 ho h4
   show Ok (Bg.l7 c e day 0 k out) _
   unfold Bg.l7
   refine Ok.cond (fun hb=>?_) fun _=>Ok.up (Ok.bind (aMl ho h4) fun r hr=>Ok.ret ⟨by show r.length<=12; omega,hr.2⟩)
   have hb:=aDm hb
   refine Ok.loop (fun s:Int×List Ai=>(∃ m:Nat,s.1=(m:Int))/\s.2.length<=12/\Pi s.2) (fun s=>c.Suites.length - s.1.toNat) ?_ ⟨⟨0,rfl⟩,ho,h4⟩
   clear ho h4
   rintro⟨_,out⟩ ⟨⟨m,rfl⟩,ho,h4⟩
   dsimp only at ho h4
   show Ok (Bg.l8 c e day 0 k (m:Int) out) _
   unfold Bg.l8 Bg.j9
   refine Ok.cond (fun hm=>?_) fun _=>Ok.up (Ok.ret ?_)
   ·have hm:=aDm hm
    refine Ok.bind (If (by omega) hm) fun x _=>?_
    rw [aD9,aAy,aE8,Hh (by omega)]
    exact Ok.ret ⟨⟨⟨m + 1,by show (m:Int) + 1=_; omega⟩,ho,h4⟩,by show c.Suites.length - ((m:Int) + 1).toNat < c.Suites.length - ((m:Nat):Int).toNat; omega⟩
   ·rw [Hh (by omega)]
    exact⟨⟨by show 0<=k - 1; omega,by show k - 1<=4; omega,ho,h4⟩,by show (k - 1).toNat < k.toNat; omega⟩
 have J2:∀ b,Ok (Bg.j2 c e day 0 b) (fun r=>r.1.length<=12/\Pi r.1):=fun b=>by
  unfold Bg.j2
  exact Ok.cond (fun _=>nil _) fun _=>Ok.cond (fun _=>J5 _ v1) fun _=>J5 _ (by have:=hc.v.most; omega)
 unfold Bg
 rw [hc.check,he.check,aAy,aAy,aBd rfl,aI7,aE8]
 unfold Bg.j1
 exact Ok.cond (fun _=>nil _) fun _=>Ok.cond (fun _=>J2 _) fun _=>Ok.cond (fun _=>J2 _) fun _=>Ok.cond (fun _=>J2 _) fun _=>J2 _
theorem aOv (he:qL e) (o:C8):Ok (Gj e o) (fun r=>r.1.length<=4):=by
 unfold Gj Gj.j1
 rw [he.check,aAy,V4,aAy,(Vy he.f.ids o.Suite).1,aAy]
 refine Ok.cond (fun _=>Ok.ret (aLi _)) fun _=>Ok.cond (fun _=>Ok.ret (aLi _)) fun _=>Ok.cond (fun _=>Ok.ret (aLi _)) fun h=>?_
 have h:(idT e o.Suite).2=true:=by simpa using h
 obtain⟨-,k2,k3⟩:=Vy he.f.ids o.Suite
 refine Ok.bind (If (k3 h).1 k2) fun x _=>Ok.cond (fun _=>Ok.ret (aKp 4)) fun _=>Ok.ret (aKp 4)
theorem zX (p:Br) (hp:pM p) (u:Ah) (nm:ByteArray):Ok (Ka p [] ⟨[],0⟩ u 1 nm day) (fun _=>True):=by
 unfold Ka
 rw [aU1 hp,aAy]
 refine Ok.cond (fun _=>Ok.ret trivial) fun _=>?_
 have h1:C1 [] (fun x0=>Iw x0)=some false:=by
  unfold C1 Bl
  rw [Mw (x:=some (-1)) (by unfold Bl.l1; rfl)]
  rfl
 have h2:D0 [] ⟨[],0⟩ u 1 nm day=some (0,false):=by
  unfold D0
  exact Mw (x:=some (0,false)) (by unfold D0.l1; rfl)
 rw [h1,aAy,aE8,h2,aAy]
 exact Ok.cond (fun _=>Ok.ret trivial) fun _=>Ok.ret trivial
theorem eY (p:Br) (hp:pM p) (he:qL e) (o:C8):Ok (De p [] ⟨[],0⟩ e o day) (fun _=>True):=by
 unfold De
 refine Ok.bind (aOv he o) fun y hy=>Ok.cond (fun _=>Ok.ret trivial) fun _=>?_
 refine Ok.loop (fun s:Bool×Int=>∃ k:Nat,s.2=(k:Int)) (fun s=>y.1.length - s.2.toNat) ?_ ⟨0,rfl⟩
 rintro⟨b,_⟩ ⟨k,rfl⟩
 show Ok (De.l1 p [] ⟨[],0⟩ e day y b (k:Int)) _
 unfold De.l1 De.j2
 refine Ok.cond (fun hb=>?_) fun _=>Ok.up (Ok.ret trivial)
 have hb:=aDm hb
 refine Ok.bind (If (by omega) hb) fun u _=>Ok.bind (zX p hp u e.Name) fun z _=>?_
 rw [Hh (by omega)]
 have nx (c:Bool):Ok (some (Lp.next (c,(k:Int) + 1)):Option (Lp (Bool×Int) (Bool×Int))) (gP (fun s':Bool×Int=>(∃ k:Nat,s'.2=(k:Int))/\y.1.length - s'.2.toNat < y.1.length - ((k:Nat):Int).toNat) fun _=>True):=Ok.ret ⟨⟨k + 1,by show (k:Int) + 1=_; omega⟩,by show y.1.length - ((k:Int) + 1).toNat < _; omega⟩
 exact Ok.cond (fun _=>Ok.up (Ok.ret trivial)) fun _=>Ok.cond (fun _=>nx _) fun _=>nx _
theorem aOn (p:Br) (hp:pM p) (hc:qL c) (he:qL e):Ok (Eu c e p [] ⟨[],0⟩ day 0) (fun r=>r.1.length<=12/\Pi r.1):=by
 unfold Eu
 have nil:∀ k:Int,Ok (some (([]:List Ai),k)) (fun r=>r.1.length<=12/\Pi r.1):=fun k=>Ok.ret ⟨aLi _,fun w hw=>by cases hw⟩
 refine Ok.bind (aSi hc he) fun y hy=>Ok.cond (fun _=>nil _) fun _=>?_
 obtain⟨hy1,hy2⟩:=hy
 refine Ok.loop (fun s:Int×List Ai=>∃ k:Nat,s.1=(k:Int)/\k<=y.1.length/\s.2.length<=k/\Pi s.2) (fun s=>y.1.length - s.1.toNat) ?_ ⟨0,rfl,aLi _,aKp _,fun w hw=>by cases hw⟩
 rintro⟨_,out⟩ ⟨k,rfl,h1,h2,h3⟩
 dsimp only at h2 h3
 show Ok (Eu.l1 e p [] ⟨[],0⟩ day y (k:Int) out) _
 unfold Eu.l1 Eu.j2
 refine Ok.cond (fun hb=>?_) fun _=>Ok.up (Ok.ret ⟨by show out.length<=12; omega,h3⟩)
 have hb:=aDm hb
 refine Ok.bind (If (by omega) hb) fun w hw=>Ok.bind (eY p hp he w.Outcome) fun z _=>?_
 rw [Hh (by omega)]
 have nx (m:List Ai) (m1:m.length<=k + 1) (m2:Pi m):Ok (some (Lp.next ((k:Int) + 1,m)):Option (Lp (Int×List Ai) (List Ai×Int))) (gP (fun s':Int×List Ai=>(∃ k:Nat,s'.1=(k:Int)/\k<=y.1.length/\s'.2.length<=k/\Pi s'.2)/\y.1.length - s'.1.toNat < y.1.length - ((k:Nat):Int).toNat) fun r=>r.1.length<=12/\Pi r.1):=
  Ok.ret ⟨⟨k + 1,by show (k:Int) + 1=_; omega,by omega,m1,m2⟩,by show y.1.length - ((k:Int) + 1).toNat < _; omega⟩
 refine Ok.cond (fun _=>Ok.up (nil _)) fun _=>Ok.cond (fun _=>?_) fun _=>nx _ (by omega) h3
 refine Ok.bind (Nc (by rw [aFu]; omega)) fun r hr=>?_
 subst hr
 exact nx _ (by rw [aF3,aFu]; omega) (h3.add (hy2 w hw))
end
end
section
theorem wT:Iz=some true:=Xr (fu:=40) _ (by kernel_rfl)
def uG:List ByteArray:=[⟨#[98,114,111,107,101,110]⟩,⟨#[111,112,101,110]⟩,⟨#[100,111,119,110]⟩,⟨#[105,116,101,109]⟩]
theorem aDt:Bb (⟨#[98,114,111,107,101,110,32,111,112,101,110,32,100,111,119,110,32,105,116,101,109]⟩:ByteArray)=some uG:=Yx (fu:=40) _ (by kernel_rfl)
end
section
structure EsR (x:Ak):Prop where
 es:EsT x
 ep:∀ e∈x.Endpoints,qL e/\e.Name.size<=1000
theorem xW {x:Ak} (h:EsT x) {k:Nat} (hk:k < x.Edges.length):∃ g c e,x.Edges[k]?=some g/\Bn x.Endpoints g.Client=some c/\Bn x.Endpoints g.Server=some e/\c∈x.Endpoints/\e∈x.Endpoints:=by
 obtain⟨g,G⟩:∃ g,x.Edges[k]?=some g:=⟨_,aBb hk⟩
 obtain⟨⟨h1,h2⟩,⟨h3,h4⟩,-⟩:=(h.ok.ed k).2 g G
 obtain⟨c,hc,mc⟩:=If h1 h2
 obtain⟨e,he,me⟩:=If h3 h4
 exact⟨g,c,e,G,hc,he,mc,me⟩
def Wh (k:Int) (q:Ay):Prop:=q.Index=k/\((q.Kind=1/\q.Suite=0)\/((q.Kind=2\/q.Kind=3)/\kI q.Suite))
def aS4 (a f:Int) (x:Ak) (q:Ay):Prop:=q.Kind=4/\q.Suite=0/\∃ n:Nat,∃ i,q.Index=(n:Int)/\x.Items[n]?=some i/\∃ d s,Dh (Hs a f) i=some (d,true,s)
def eR (a f:Int) (x:Ak) (q:Ay):Prop:=(∃ n:Nat,n < x.Edges.length/\Wh (n:Int) q)\/aS4 a f x q
section
variable {a f:Int}
theorem aHy {x:Ak} (h:EsR x) {k:Nat} (hk:k < x.Edges.length) (day:Int):Ok (Bs ⟨x,Hs a f,[],⟨[],0⟩,0⟩ (k:Int) day) (fun r=>r.length<=13/\∀ q∈r,Wh (k:Int) q):=by
 obtain⟨g,c,e,G,hc,he,mc,me⟩:=xW h.es hk
 have Ec:=(h.ep c mc).1
 have Ee:=(h.ep e me).1
 have hp:=uR a f
 have J:∀ y out,out.length<=1->(∀ q∈out,Wh (k:Int) q)->Ok (Bs.j1 ⟨x,Hs a f,[],⟨[],0⟩,0⟩ (k:Int) day c e y out) (fun r=>r.length<=13/\∀ q∈r,Wh (k:Int) q):=fun y out ho hq=>by
  unfold Bs.j1
  refine Ok.bind (aOn (Hs a f) hp Ec Ee) fun z hz=>?_
  obtain⟨z1,z2⟩:=hz
  refine Ok.loop (fun s:Int×List Ay=>∃ m:Nat,s.1=(m:Int)/\m<=z.1.length/\s.2.length<=m + 1/\∀ q∈s.2,Wh (k:Int) q) (fun s=>z.1.length - s.1.toNat) ?_ ⟨0,rfl,aLi _,by show out.length<=0 + 1; omega,hq⟩
  rintro⟨_,l⟩ ⟨m,rfl,m1,m2,m3⟩
  dsimp only at m2 m3
  show Ok (Bs.l2 (k:Int) y z (m:Int) l) _
  unfold Bs.l2 Bs.j3 Bs.j4 Hq
  refine Ok.cond (fun hb=>?_) fun _=>Ok.up (Ok.ret ⟨by show l.length<=13; omega,m3⟩)
  have hb:=aDm hb
  refine Ok.bind (If (by omega) hb) fun w hw=>?_
  rw [Hh (by omega)]
  have nx (l':List Ay) (n1:l'.length<=m + 2) (n2:∀ q∈l',Wh (k:Int) q):Ok (some (Lp.next ((m:Int) + 1,l')):Option (Lp (Int×List Ay) (List Ay))) (gP (fun s':Int×List Ay=>(∃ m:Nat,s'.1=(m:Int)/\m<=z.1.length/\s'.2.length<=m + 1/\∀ q∈s'.2,Wh (k:Int) q)/\z.1.length - s'.1.toNat < z.1.length - ((m:Nat):Int).toNat) fun r=>r.length<=13/\∀ q∈r,Wh (k:Int) q):=
   Ok.ret ⟨⟨m + 1,by show (m:Int) + 1=_; omega,by omega,n1,n2⟩,by show z.1.length - ((m:Int) + 1).toNat < _; omega⟩
  have ad:Ok ((Hc 72 l [Ay.mk 3 (k:Int) w.Outcome.Suite]).bind fun l_2=>(some l_2).bind fun y_6=>some (Lp.next ((m:Int) + 1,y_6)):Option (Lp (Int×List Ay) (List Ay))) (gP (fun s':Int×List Ay=>(∃ m:Nat,s'.1=(m:Int)/\m<=z.1.length/\s'.2.length<=m + 1/\∀ q∈s'.2,Wh (k:Int) q)/\z.1.length - s'.1.toNat < z.1.length - ((m:Nat):Int).toNat) fun r=>r.length<=13/\∀ q∈r,Wh (k:Int) q):=by
   refine Ok.bind (Nc (by rw [aFu]; omega)) fun r hr=>?_
   subst hr
   refine nx _ (by rw [aF3,aFu]; omega) fun q hq=>?_
   rcases aKi.1 hq with hq | hq
   ·exact m3 q hq
   ·rw [aF2.1 hq]
    exact⟨rfl,.inr ⟨.inr rfl,z2 w hw⟩⟩
  have asc (u v:Option (Lp (Int×List Ay) (List Ay))):u=v->u=v:=id
  have br (b:Bool):Ok (cond b (((Hc 72 l [Ay.mk 3 (k:Int) w.Outcome.Suite]).bind fun l_2=>some l_2).bind fun y_6=>some (Lp.next ((m:Int) + 1,y_6))) (some (Lp.next ((m:Int) + 1,l))):Option (Lp (Int×List Ay) (List Ay))) (gP (fun s':Int×List Ay=>(∃ m:Nat,s'.1=(m:Int)/\m<=z.1.length/\s'.2.length<=m + 1/\∀ q∈s'.2,Wh (k:Int) q)/\z.1.length - s'.1.toNat < z.1.length - ((m:Nat):Int).toNat) fun r=>r.length<=13/\∀ q∈r,Wh (k:Int) q):=by
   refine Ok.cond (fun _=>?_) fun _=>nx l (by omega) m3
   rw [aXo]
   exact ad
  exact Ok.cond (fun _=>br true) fun _=>br _
 unfold Bs
 show Ok ((Bn x.Edges (k:Int)).bind _) _
 rw [F4,G,aAy]
 show Ok ((Bn x.Endpoints g.Client).bind _) _
 rw [hc,aAy]
 show Ok ((Bn x.Endpoints g.Server).bind _) _
 rw [he,aAy]
 refine Ok.bind (aC2 Ec Ee) fun y hy=>?_
 have jn (q:Ay):Hu [q]=some [q]:=by
  unfold Hu
  rw [Gd (by simp),aAy]; rfl
 refine Ok.cond (fun _=>?_) fun h0=>?_
 ·rw [jn,aAy]
  exact J _ _ (aKp 1) fun q hq=>by rw [aF2.1 hq]; exact⟨rfl,.inl ⟨rfl,rfl⟩⟩
 ·refine Ok.bind (eY (Hs a f) hp Ee y.1) fun z _=>Ok.cond (fun _=>?_) fun _=>J _ _ (aLi _) fun q hq=>by cases hq
  rw [jn,aAy]
  exact J _ _ (aKp 1) fun q hq=>by rw [aF2.1 hq]; exact⟨rfl,.inr ⟨.inl rfl,hy (by simpa using h0)⟩⟩
theorem aFq (ha:Sy a) (hf:P6 f) {i:Aq} (fi:Rx i) (hi:mE i):Ok (Dh (Hs a f) i) (fun _=>True):=by
 rcases hi.kind with hk | hk
 ·exact (tI ha hf fi hi hk).1.mono fun _ _=>trivial
 ·obtain⟨n,p,h⟩:=Z8 ha hf fi hi hk
  rw [h.fails]
  exact Ok.ret trivial
theorem aHi (ha:Sy a) (hf:P6 f) {x:Ak} (h:EsR x) {day:Int} (hd:0<=day/\day<=40000):Ok (C2 x (Hs a f) [] ⟨[],0⟩ day 0) (fun r=>r.2=0/\r.1.length<=1000/\∀ q∈r.1,eR a f x q):=by
 have h1:=h.es.ok.edges
 have h2:=h.es.ok.m
 have hc:El ⟨x,Hs a f,[],⟨[],0⟩,0⟩ day=some 0:=by
  unfold El
  show (Cp x).bind _=_
  rw [gG h.es,aAy]
  show (Eg (Hs a f)).bind _=_
  rw [Yh ha hf,aAy]
  have h1:C1 [] (fun x0=>H0 x0)=some false:=by
   unfold C1 Bl
   rw [Mw (x:=some (-1)) (by unfold Bl.l1; rfl)]
   rfl
  show (C1 [] _).bind _=_
  rw [h1,aAy,aE8,aBc (by omega),aE8,aBc (by omega),aE8]
  rfl
 unfold C2
 rw [hc,aAy,aBd rfl,aI7,aE8]
 refine Ok.loop (fun s:Int×List Ay=>∃ m:Nat,s.1=(m:Int)/\m<=x.Edges.length/\s.2.length<=13 * m/\∀ q∈s.2,eR a f x q) (fun s=>x.Edges.length - s.1.toNat) ?_ ⟨0,rfl,aLi _,aLi _,fun q hq=>by cases hq⟩
 rintro⟨_,l⟩ ⟨m,rfl,m1,m2,m3⟩
 dsimp only at m2 m3
 show Ok (C2.l1 x (Hs a f) [] ⟨[],0⟩ day 0 (m:Int) l) _
 unfold C2.l1 Hq
 refine Ok.cond (fun hb=>?_) fun hb=>Ok.up ?_
 ·have hb:=aDm hb
  refine Ok.bind (aHy h (k:=m) (by omega) day) fun r hr=>?_
  rw [aXo]
  refine Ok.bind (Nc (by omega)) fun l' hl'=>?_
  subst hl'
  rw [aAy,Hh (by omega)]
  refine Ok.ret ⟨⟨m + 1,by show (m:Int) + 1=_; omega,by omega,?_,fun q hq=>?_⟩,by show x.Edges.length - ((m:Int) + 1).toNat < x.Edges.length - ((m:Nat):Int).toNat; omega⟩
  ·show (l ++ r).length<=_
   rw [aF3]
   omega
  ·rcases aKi.1 hq with hq | hq
   ·exact m3 q hq
   ·exact .inl ⟨m,by omega,hr.2 q hq⟩
 ·have hl:l.length<=520:=by omega
  refine Ok.loop (fun s:Int×List Ay=>∃ m:Nat,s.1=(m:Int)/\m<=x.Items.length/\s.2.length<=520 + m/\∀ q∈s.2,eR a f x q) (fun s=>x.Items.length - s.1.toNat) ?_ ⟨0,rfl,aLi _,hl,m3⟩
  clear hl m1 m2 m3 hb
  rintro⟨_,l⟩ ⟨m,rfl,m1,m2,m3⟩
  dsimp only at m2 m3
  show Ok (C2.l2 x (Hs a f) day (m:Int) l) _
  unfold C2.l2 C2.j3 C2.j4 Hq
  refine Ok.cond (fun hb=>?_) fun _=>Ok.up (Ok.ret ⟨rfl,by show l.length<=1000; omega,m3⟩)
  have hb:=aDm hb
  obtain⟨i,hi⟩:∃ i,x.Items[m]?=some i:=⟨_,aBb (by omega)⟩
  rw [F4,hi,aAy,Hh (by omega)]
  obtain⟨r,hr,-⟩:=aFq ha hf (h.es.fit.it i (E7 hi)) (h.es.ok.it i (E7 hi))
  rw [hr,aAy]
  have nx (l':List Ay) (n1:l'.length<=520 + (m + 1)) (n2:∀ q∈l',eR a f x q):Ok (some (Lp.next ((m:Int) + 1,l')):Option (Lp (Int×List Ay) (List Ay×Int))) (gP (fun s':Int×List Ay=>(∃ m:Nat,s'.1=(m:Int)/\m<=x.Items.length/\s'.2.length<=520 + m/\∀ q∈s'.2,eR a f x q)/\x.Items.length - s'.1.toNat < x.Items.length - ((m:Nat):Int).toNat) fun r=>r.2=0/\r.1.length<=1000/\∀ q∈r.1,eR a f x q):=
   Ok.ret ⟨⟨m + 1,by show (m:Int) + 1=_; omega,by omega,n1,n2⟩,by show x.Items.length - ((m:Int) + 1).toNat < _; omega⟩
  refine Ok.cond (fun h0=>Ok.cond (fun _=>?_) fun _=>nx l (by omega) m3) fun _=>nx l (by omega) m3
  rw [aXo]
  refine Ok.bind (Nc (by rw [aFu]; omega)) fun l' hl'=>?_
  subst hl'
  rw [aAy]
  refine nx _ (by rw [aF3,aFu]; omega) fun q hq=>?_
  rcases aKi.1 hq with hq | hq
  ·exact m3 q hq
  ·rw [aF2.1 hq]
   obtain⟨d,b,s⟩:=r
   have h0:b=true:=h0
   subst h0
   exact .inr ⟨rfl,rfl,m,i,rfl,hi,d,s,hr⟩
theorem zP {n:Int} (h:kI n):(suT n).1.Name.size<=1000:=by
 have key:∀ i:Fin 16,(match Gw 40 ((i.val:Int) + 1) with | some y=>decide (y.1.Name.size<=1000) | none=>false)=true:=by decide +kernel
 have hk:=key ⟨(n - 1).toNat,by have:=h.1; have:=h.2; omega⟩
 have e:(((n - 1).toNat:Nat):Int) + 1=n:=by have:=h.1; omega
 simp only [e] at hk
 cases hc:Gw 40 n with
 | none=>rw [hc] at hk; cases hk
 | some y=>
  have:=Zo (fu:=40) y hc
  rw [V4] at this
  rw [oi_ this]
  rw [hc] at hk
  exact aDm hk
def kN (l:List ByteArray):Prop:=l≠[]/\l.length<=10/\∀ s∈l,s.size<=1000
theorem kN.add {l:List ByteArray} (h:kN l) {s:ByteArray} (hs:s.size<=1000) (hl:l.length<=9):kN (l ++ [s]):=⟨by simp,by simp; omega,fun x hx=>(aKi.1 hx).elim (h.2.2 x) fun q=>by rw [aF2.1 q]; exact hs⟩
theorem xK:∀ (l:List (List UInt8)),(∀ s∈l,s.length<=1000)->Go.Lib.lens l<=1000 * l.length
 | [],_=>aKp 0
 | x :: l,h=>by
  have:=xK l fun s hs=>h s (.tail _ hs)
  have:=h x (.head _)
  show x.length + Go.Lib.lens l<=_
  rw [aP9]
  omega
theorem aLw {l:List ByteArray} (h:kN l):Ok (N8 l ⟨#[32]⟩) (fun r=>r.size<=1000000):=by
 have hlen:(Go.Lib.join (l.map (·.data.toList)) [32]).length<=1000000:=by
  obtain⟨h1,h2,h3⟩:=h
  cases l with
  | nil=>exact absurd rfl h1
  | cons x l=>
   rw [aUl,Go.Lib.join_length]
   have:=xK (x.data.toList :: l.map (·.data.toList)) fun s hs=>by
    have hs:s∈(x :: l).map (·.data.toList):=hs
    obtain⟨y,hy,rfl⟩:=aP8.1 hs
    exact h3 y hy
   simp only [aP9,bD2,bCo] at this h2 ⊢
   omega
 unfold N8
 rw [if_pos ⟨by have:=h.2.1; omega,hlen⟩]
 exact Ok.ret hlen
theorem aKs {l:List ByteArray} (h:kN l):Ok (Cc.j5 l) (fun r=>r.2=0/\r.1≠⟨#[]⟩):=by
 unfold Cc.j5 Nt
 rw [aXo]
 refine Ok.bind (aLw h) fun s hs=>?_
 rw [aXo]
 refine Ok.bind (aHk (by show s.size + 1<=_; omega)) fun t ht=>?_
 rw [aAy]
 refine Ok.ret ⟨rfl,fun e=>?_⟩
 have e:t=⟨#[]⟩:=e
 have:=congrArg ByteArray.size (ht.symm.trans e)
 rw [ByteArray.size_append] at this
 have h2:s.size + 1=0:=this
 omega
theorem aRn {q:Ay} {l:List ByteArray} (h:kN l) (hl:l.length<=9) (hq:((q.Kind=1\/q.Kind=4)/\q.Suite=0)\/((q.Kind=2\/q.Kind=3)/\kI q.Suite)):Ok (Cc.j3 q l) (fun r=>r.2=0/\r.1≠⟨#[]⟩):=by
 unfold Cc.j3 Cc.j4 F9
 rcases hq with ⟨hk,hs⟩ | ⟨hk,hs⟩
 ·rw [aBc (show ¬ q.Kind=2 by omega),aBc (show ¬ q.Kind=3 by omega),aE8,aE8,aBd hs,aI7,aE8]
  exact aKs h
 ·have go:Ok ((Du q.Suite).bind fun y_7=>cond (!decide (y_7.2=0)) (some ((⟨#[]⟩:ByteArray),(2:Int))) (((Hc 16 l [y_7.1.Name]).bind fun l_2=>some (F0.mk l_2)).bind fun y_8=>Cc.j5 y_8.words)) (fun r=>r.2=0/\r.1≠⟨#[]⟩):=by
   rw [V4,aAy,aBd (aNb hs),aI7,aE8,aXo]
   refine Ok.bind (Nc (by rw [aFu]; omega)) fun r hr=>?_
   subst hr
   exact aKs (h.add (zP hs) hl)
  refine Ok.cond (fun _=>go) fun h2=>?_
  rw [aBd (show q.Kind=3 by have:=aF4 h2; omega),aHj]
  exact go
theorem aCs {x:Ak} (h:EsR x) {q:Ay} (hq:eR a f x q):Ok (O6 x q) (fun r=>r.2=0/\r.1≠⟨#[]⟩):=by
 unfold O6
 rw [gG h.es,aAy,aBd rfl,aI7,aE8]
 refine Ok.bind (Q:=fun r=>r.2=0/\r.1≠⟨#[]⟩) ?_ fun r hr=>Ok.ret hr
 have hk:1<=q.Kind/\q.Kind<=4:=by
  rcases hq with ⟨n,-,-,h⟩ | ⟨h,-⟩
  ·omega
  ·omega
 have hn:Ok (Hb (⟨#[98,114,111,107,101,110,32,111,112,101,110,32,100,111,119,110,32,105,116,101,109]⟩:ByteArray) q.Kind) (fun y=>y.2=true/\y.1.size<=1000):=by
  unfold Hb Hb.j1
  rw [aDt,aAy,aBc (show ¬ q.Kind < 1 by omega),aE8,aBc (show ¬ ((uG.length:Nat):Int) < q.Kind by show ¬ (4:Int) < q.Kind; omega),aE8,Hh (by omega)]
  refine Ok.bind (If (by omega) (by show q.Kind - 1 < (4:Int); omega)) fun s hs=>Ok.ret ⟨rfl,?_⟩
  have hw:∀ s∈uG,s.size<=1000:=by decide +kernel
  exact hw s hs
 unfold Cc
 refine Ok.bind hn fun y hy=>?_
 obtain⟨y1,y2⟩:=hy
 have hb:Qj=some (F0.mk []):=rfl
 have wd (l:List ByteArray) (s:ByteArray) (hl:l.length<=100):F9 ⟨l⟩ s=some ⟨l ++ [s]⟩:=by
  unfold F9
  show (Hc 16 l [s]).bind _=_
  rw [Gd (by rw [aFu]; omega)]; rfl
 have s1:kN [y.1]:=⟨by simp,by simp,fun s hs=>by rw [aF2.1 hs]; exact y2⟩
 rcases hq with ⟨n,hn,hi,hq⟩ | ⟨h4,hs,n,i,hi,hx,-⟩
 ·rw [aBc (show ¬ q.Kind=4 by omega),aE8]
  unfold Cc.j1 Cc.j2
  rw [y1,aI7,aE8,hi,aBc (show ¬ (n:Int) < 0 by omega),aE8,aBc (show ¬ (x.Edges.length:Int)<=(n:Int) by omega),aE8,hb,aAy,wd _ _ (by simp),aAy,aBc (show ¬ q.Kind=4 by omega),aE8]
  obtain⟨g,c,e,G,hc,he,mc,me⟩:=xW h.es hn
  rw [F4,G,aAy,hc,aAy,wd _ _ (by simp),aAy,he,aAy,wd _ _ (by simp),aAy]
  refine aRn ((s1.add (h.ep c mc).2 (by simp)).add (h.ep e me).2 (by simp)) (by simp) ?_
  rcases hq with ⟨k1,k2⟩ | k
  ·exact .inl ⟨.inl k1,k2⟩
  ·exact .inr k
 ·rw [aBd h4,aHj]
  have hxl:=I3 hx
  have hns:=Rf (h.es.ok.it i (E7 hx)).name
  unfold Cc.j1 Cc.j2
  rw [y1,aI7,aE8,hi,aBc (show ¬ (n:Int) < 0 by omega),aE8,aBc (show ¬ (x.Items.length:Int)<=(n:Int) by omega),aE8,hb,aAy,wd _ _ (by simp),aAy,aBd h4,aHj,F4,hx,aAy,wd _ _ (by simp),aAy]
  exact aRn (s1.add (by omega) (by simp)) (by simp) (.inl ⟨.inr h4,hs⟩)
end
end
section
theorem aO5 {t:List Int} (h:t.length<=400):Ok (Ue t) eX:=Ok.ret ⟨R3 (by show t.length<=_; omega),aUn _,by show (0:Int)<=(t.length:Int); omega⟩
theorem aUd (l:List Int) (n:Int) (h:Lo l):J9 l n=some (decide (n∈l)):=by
 unfold J9
 refine (rB l (fun x=>decide (x=n)) true false h (fun i x hx=>?_) ?_).trans ?_
 ·show J9.l1 l n (i:Int)=_
  unfold J9.l1
  rw [G0 hx]
  cases decide (x=n) <;> rfl
 ·show J9.l1 l n (l.length:Int)=_
  unfold J9.l1
  rw [Fq]; rfl
 ·rw [show l.any (fun x=>decide (x=n))=decide (n∈l) by rw [Bool.eq_iff_iff]; simp]
  cases decide (n∈l) <;> rfl
theorem aGh {s:Ak} (h:Zz s):EsR s:=by
 have h1:=h.n2
 have key:∀ e∈s.Endpoints,CpE e/\qL e/\e.Name.size<=1000:=fun e he=>by
  obtain⟨j,hj⟩:=aNn.1 he
  have hj3:j < 3:=by have:=I3 hj; omega
  have ok:=h.eps j e hj
  have f:=aEi hj3 ok
  have v:=rZ hj3 ok
  have hn:e.Name.size<=31:=by rw [pD ok]; exact (oQ hj3).2.1
  obtain⟨c,hc,own,fall,x,hx,rfl⟩:=ok
  obtain⟨-,hs,-,-⟩:=jV hc
  refine⟨⟨by show c.2.length<=_; omega,by show (1:Nat)<=_; omega,by show (2:Nat)<=_; omega,by show (1:Nat)<=_; omega,fun y hy=>?_⟩,⟨f,v,fun y hy d hd=>?_⟩,by omega⟩
  ·rw [aF2.1 hy]
   exact⟨by rw [hx.len]; omega,fun d hd=>by have:=(hx.chain d hd).2.names; omega⟩
  ·rw [aF2.1 hy] at hd
   exact (hx.chain d hd).2
 exact⟨⟨h.fit,h.valid,fun e he=>(key e he).1⟩,fun e he=>(key e he).2⟩
theorem aSp {x:Ak} (h:EsR x) {k:Nat} {i:Aq} (fi:Rx i) (hi:mE i):EsR (aAv x k i):=⟨aJ5 h.es fi hi,h.ep⟩
theorem jM (t:List Int):A3 t=some true:=by
 unfold A3 Sx
 rw [aAy]
 refine (Decidable.em ((t.length:Int)<=400)).elim (fun hl=>?_) fun hl=>by rw [aBc hl,aVw,aHj,wT]; rfl
 rw [aBd hl,aI7,aE8]
 refine Ok.true_ ?_
 refine Ok.bind (aO5 (by omega)) fun d0 hd0=>?_
 refine Ok.bind (aFj hd0) fun y4 h4=>?_
 refine Ok.bind (sF h4.2 _ (by decide) (by decide)) fun y5 h5=>?_
 refine Ok.bind (sF h5.2 _ (by decide) (by decide)) fun y6 h6=>?_
 have ha:Sy y5.1:=by
  have:=h5.1
  simp only [aF6,aGr,aSy] at this
  exact this
 have hf:P6 y6.1:=by
  have:=h6.1
  simp only [aF6,aGr,aSy] at this
  exact this
 have hP:(Br.mk ([(Al.mk false y5.1 0 0 y6.1 40001)]:List Al) ([]:(List Bk)))=Hs y5.1 y6.1:=rfl
 have E:=aGh h4.1
 have hI:=h4.1.items
 rw [hP]
 refine Ok.bind (aK7 ha hf E.es) fun y7 h7=>?_
 obtain⟨z1,z4,z2,z3⟩:=h7
 rw [z1,aBd rfl,aI7,aE8]
 let Inv (m:Nat) (x:Ak):Prop:=m<=y7.1.length/\EsR x/\∀ (n:Nat) i,y4.1.Items[n]?=some i->(∀ (k:Nat) v,k < m->y7.1[k]?=some v->v≠(n:Int))->x.Items[n]?=some i
 refine Ok.loop (fun s:Int×Ak=>∃ m:Nat,s.1=(m:Int)/\Inv m s.2) (fun s=>y7.1.length - s.1.toNat) ?_ ⟨0,rfl,aLi _,E,fun n i h _=>h⟩
 rintro⟨_,x⟩ ⟨m,rfl,m1,m2,m3⟩
 dsimp only at m2 m3
 show Ok (A3.l2 y4 y5 y6 y7 (m:Int) x) _
 unfold A3.l2
 refine Ok.cond (fun hb=>?_) fun _=>Ok.up (by rw [wT]; exact Ok.ret rfl)
 have hb:=aDm hb
 obtain⟨v,hv⟩:∃ v,y7.1[m]?=some v:=⟨_,aBb (by omega)⟩
 rw [F4,hv,aAy]
 obtain⟨n,rfl,i,hi,hdue⟩:=z3 v (E7 hv)
 have hnl:=I3 hi
 rw [aBc (show ¬ (n:Int) < 0 by omega),aE8,aBc (show ¬ (y4.1.Items.length:Int)<=(n:Int) by omega)]
 unfold A3.j3
 have hit:=hI.2 i (E7 hi)
 have hiV:=hit.ok
 have hiF:=hit.fit
 have few:=hit.few
 obtain⟨e,he,-,hed⟩:=hdue.last
 have hed0:=hiV.day e (E7 he)
 have hf2:y6.1<=200:=by unfold P6 at hf; omega
 rw [aE8,F4,hi,aAy,hP]
 show Ok ((Df (Hs y5.1 y6.1) i [F3,N3] 0).bind _) _
 rw [aG6 ha hf hiF hiV (by omega) hdue he,aAy,aBd rfl,aI7,aE8]
 have hxi:x.Items[n]?=some i:=m3 n i hi fun k w hk hw hwn=>by
  have:=(bBl.1 z2) k m (I3 hw) (I3 hv) hk
  have e1:y7.1[k]'(I3 hw)=w:=oi_ ((aBb (I3 hw)).symm.trans hw)
  have e2:y7.1[m]'(I3 hv)=(n:Int):=oi_ ((aBb (I3 hv)).symm.trans hv)
  omega
 have hG:=aB3 ha hf hiF hiV (by omega) hdue he
 have hnF:=yD hiF hiV (e.Day + 1)
 have hnV:=aC4 hiV (by omega) he (d:=e.Day + 1) (by omega) (by omega)
 have hX:=aSp m2 (k:=n) hnF hnV
 generalize hxx:aAv x n (Z0 i (e.Day + 1))=x' at hX
 have hx'n:x'.Items[n]?=some (Z0 i (e.Day + 1)):=by
  rw [<- hxx]
  exact List.getElem?_set_self (I3 hxi)
 have e1:A3.l4 y5 y6 (m:Int) (n:Int) ([⟨F3,e.Day + 1⟩],0) 0 x=some (.next (1,x')):=by
  unfold A3.l4
  show cond (decide ((0:Int) < 1)) ((Bn [A1.mk F3 (e.Day + 1)] 0).bind _) _=_
  rw [aBd (by omega),aHj,show Bn [A1.mk F3 (e.Day + 1)] 0=some (A1.mk F3 (e.Day + 1)) from by simp [Bn],aAy,hP,aJc ha hf m2.es hxi (by omega) he (d:=e.Day + 1) (by omega) (by omega),aAy,aBd rfl,aI7,aE8,hxx]
  rfl
 show Ok (C7 (fun q'=>A3.l4 y5 y6 (m:Int) (n:Int) ([⟨F3,e.Day + 1⟩],0) q'.1 q'.2) (0,x)) _
 rw [Ie (body:=fun q'=>A3.l4 y5 y6 (m:Int) (n:Int) ([⟨F3,e.Day + 1⟩],0) q'.1 q'.2) (s:=(0,x)) e1]
 have hun:0<=i.Until/\i.Until<=40000:=by
  refine⟨?_,hiV.until_⟩
  obtain⟨b,hb⟩:∃ b,i.Links[0]?=some b:=⟨_,aBb (by have:=hiV.len; omega)⟩
  have:=hiV.first b hb
  have:=hiV.day b (E7 hb)
  omega
 have J5:∀ y11:List Ay×Int,y11.1.length<=1000->(∀ q∈y11.1,eR y5.1 y6.1 x' q)->Ok (A3.j5 (m:Int) (n:Int) x' y11 false) (gP (fun s':Int×Ak=>(∃ m:Nat,s'.1=(m:Int)/\Inv m s'.2)/\y7.1.length - s'.1.toNat < y7.1.length - ((m:Nat):Int).toNat) fun r=>r=true):=fun y11 hlen hq=>by
  unfold A3.j5
  rw [aE8]
  refine Ok.loop (fun s:Int=>∃ k:Nat,s=(k:Int)) (fun s=>y11.1.length - s.toNat) ?_ ⟨0,rfl⟩
  rintro _ ⟨k,rfl⟩
  unfold A3.l6
  refine Ok.cond (fun hb=>?_) fun _=>Ok.up ?_
  ·have hb:=aDm hb
   refine Ok.bind (If (by omega) hb) fun q hqm=>?_
   have hR:=hq q hqm
   have J7:Ok (A3.j7 x' (k:Int) q false) (gP (fun s':Int=>(∃ k:Nat,s'=(k:Int))/\y11.1.length - s'.toNat < y11.1.length - ((k:Nat):Int).toNat) (gP (fun s':Int×Ak=>(∃ m:Nat,s'.1=(m:Int)/\Inv m s'.2)/\y7.1.length - s'.1.toNat < y7.1.length - ((m:Nat):Int).toNat) fun r=>r=true)):=by
    unfold A3.j7 A3.j8
    rw [aE8]
    refine Ok.bind (aCs hX hR) fun z hz=>?_
    rw [hz.1,aBd rfl,aI7,aE8,aBc hz.2,aE8,Hh (by omega)]
    exact Ok.ret ⟨⟨k + 1,by omega⟩,by omega⟩
   refine Ok.cond (fun h4=>?_) fun _=>J7
   have h4:=aDm h4
   rw [aBc (fun h=>?_)]
   ·exact J7
   ·rcases hR with ⟨w,-,hw⟩ | ⟨-,-,w,j,hw,hj,dd,ss,hF⟩
    ·have:=hw.2
     omega
    ·rw [hw] at h
     obtain rfl:w=n:=by omega
     rw [hx'n] at hj
     cases hj
     rw [hG] at hF
     cases hF
  ·unfold A3.j9
   rw [Hh (by omega)]
   refine Ok.ret ⟨⟨m + 1,by show (m:Int) + 1=_; omega,by omega,hX,fun w j hj hk=>?_⟩,by show y7.1.length - ((m:Int) + 1).toNat < _; omega⟩
   have hwn:n≠w:=fun e=>hk m (n:Int) (aKf _) hv (by rw [e])
   show x'.Items[w]?=some j
   rw [<- hxx]
   show (Jd x.Items n _)[w]?=_
   unfold Jd
   rw [List.getElem?_set_ne hwn]
   exact m3 w j hj fun k u hk1 hu=>hk k u (by omega) hu
 have e2:Ok (A3.l4 y5 y6 (m:Int) (n:Int) ([⟨F3,e.Day + 1⟩],0) 1 x') (gP (fun _=>False) (gP (fun s':Int×Ak=>(∃ m:Nat,s'.1=(m:Int)/\Inv m s'.2)/\y7.1.length - s'.1.toNat < y7.1.length - ((m:Nat):Int).toNat) fun r=>r=true)):=by
  unfold A3.l4
  rw [aBc (show ¬ (1:Int) < ((([⟨F3,e.Day + 1⟩]:List A1).length:Nat):Int) by simp),aE8,hP]
  refine Ok.up (Ok.bind (aK7 ha hf hX.es) fun y10 h10=>?_)
  obtain⟨q1,q4,q2,q3⟩:=h10
  rw [F4,hx'n,aAy]
  refine Ok.bind (aHi ha hf hX (day:=i.Until) hun) fun y11 h11=>?_
  obtain⟨r1,r2,r3⟩:=h11
  have hno:¬ (n:Int)∈y10.1:=fun h=>by
   obtain⟨w,hw,j,hj,hd⟩:=q3 _ h
   obtain rfl:n=w:=by omega
   rw [hx'n] at hj
   cases hj
   obtain⟨b,hb,hba,-⟩:=hd.last
   have hb:(i.Links ++ [⟨F3,e.Day + 1⟩])[(i.Links ++ [A1.mk F3 (e.Day + 1)]).length - 1]?=some b:=hb
   rw [aF3,aFu,aIp (by omega),show i.Links.length + 1 - 1 - i.Links.length=0 by omega] at hb
   cases hb
   exact (aJw ha).1 hba
  have hlo:Lo y10.1:=R3 (by omega)
  rw [q1,r1,aBd rfl,aI7,aE8,aE8,aUd _ _ hlo,aAy,aBc hno,aE8,aBc (show ¬ ((([⟨F3,e.Day + 1⟩]:List A1).length:Nat):Int)=0 by simp)]
  exact J5 y11 r2 r3
 refine Ok.loop (fun s:Int×Ak=>s=(1,x')) (fun _=>0) ?_ rfl
 rintro _ rfl
 exact e2.mono fun o ho=>by
  cases o with
  | next s=>exact ho.elim
  | done r=>exact ho
end
end Go.Proofs.YtboglmbblmakjaaGreatDoor
