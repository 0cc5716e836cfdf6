/- Plain texts, joined. No program is in sight here. -/
import Derived.Test.YtkioneinddihlaaGreatSEneed_required
import Derived.Test.YtkioneinddihlaaGreatSCneed_required
import Derived.Test.YtkioneinddihlaaGreatCO
import Derived.Test.YtkioneinddihlaaGreatM0
import Derived.Test.YtkioneinddihlaaGreatPU
set_option linter.unusedVariables false
set_option linter.unusedSimpArgs false
set_option autoImplicit false
namespace Go.Proofs.YtkioneinddihlaaGreat
section
open Go
def O0 (a b:Ac):Bool:=bif !decide (a.First=b.First) then decide (a.First < b.First) else decide (a.Then < b.Then)
theorem Xv {a b:Ac}:O0 a b=true↔a.First < b.First\/(a.First=b.First/\a.Then < b.Then):=by
 unfold O0
 by_cases h:a.First=b.First
 ·rw [aAg h]; simp [h]
 ·rw [aAk h]; simp [h]
theorem aAa {a b:Ac}:O0 a b=false↔¬ (a.First < b.First\/(a.First=b.First/\a.Then < b.Then)):=by
 rw [<- Xv]; simp
theorem Un:Tw O0 where
 irrefl a:=aAa.2 (by omega)
 trans a b c h1 h2:=by rw [Xv] at *; omega
 tot a b h1 h2:=by
  rw [aAa] at h1 h2
  cases a; cases b
  simp only at h1 h2
  congr 1 <;> omega
theorem nA {α:Type} {l:List α} {a b:Int} (h:0<=a/\a<=b/\b<=l.length):Xx l a b=some ((l.drop a.toNat).take (b.toNat - a.toNat)):=if_pos h
theorem cL {α:Type} (lt:α->α->Bool) (y:α) (l:List α) (x:α):Lw lt (y :: l) x=bif lt y x then y :: Lw lt l x else bif lt x y then x :: y :: l else y :: l:=rfl
abbrev SA (l:List Ac):Prop:=tS O0 l
theorem O8 (a b:Ac):Kl a b=some (O0 a b):=by
 unfold Kl O0
 cases decide (a.First=b.First) <;> rfl
theorem U7 (l:List Ac) (x:Ac) (hl:l.length < 1000000) (hs:SA l):C7 l x=some (Lw O0 l x):=by
 have key:∀ (m p:List Ac),p ++ m=l->(∀ y∈p,O0 y x=true)->B1 (fun q'=>C7.l1 l x q') (p.length:Int)=some (p ++ Lw O0 m x):=by
  intro m
  induction m with
  | nil=>
   intro p hp hlt
   have hlen:l.length=p.length:=by rw [<- hp]; simp
   have e1:C7.l1 l x (p.length:Int)=up (C7.j3 l x (p.length:Int) false):=by
    unfold C7.l1
    rw [aAk (by omega),aD6]
    unfold C7.j2
    rw [aD6,aAk (by omega),aD6]
   rw [D8 e1]
   unfold C7.j3
   rw [aD6]
   have hp':l=p:=by rw [<- hp]; simp
   rw [nA (a:=0) (b:=(p.length:Int)) (by omega),aAc]
   rw [Fv (by simp; omega),aAc,Fv (by simp; omega),aAc,nA (by omega),aAc,Fv (by simp; omega),aAc]
   subst hp'
   simp [Lw]
  | cons y m ih=>
   intro p hp hlt
   have hy:l[p.length]?=some y:=by rw [<- hp]; simp
   have hlen:p.length < l.length:=(aDw.1 hy).1
   cases h1:O0 y x with
   | true=>
    have e1:C7.l1 l x (p.length:Int)=some (.next (((p ++ [y]).length:Nat):Int)):=by
     unfold C7.l1
     rw [aAg (by omega),aEw,Cr,hy,aAc,O8,aAc,h1]
     unfold C7.j2
     rw [aEw,Db (by omega)]
     simp
    rw [En e1,ih (p ++ [y]) (by simp [hp]) (fun z hz=>by
     rcases aH5.1 hz with hz | hz
     ·exact hlt z hz
     ·rw [aEp.1 hz]; exact h1)]
    show _=some (p ++ Lw O0 (y :: m) x)
    rw [cL,h1]
    simp
   | false=>
    have e1:C7.l1 l x (p.length:Int)=up (C7.j3 l x (p.length:Int) (decide (y=x))):=by
     unfold C7.l1
     rw [aAg (by omega),aEw,Cr,hy,aAc,O8,aAc,h1]
     unfold C7.j2
     rw [aD6,aAg (by omega),aEw,Cr,hy,aAc]
    rw [D8 e1]
    show _=some (p ++ Lw O0 (y :: m) x)
    rw [cL,h1,aD6]
    unfold C7.j3
    by_cases hyx:y=x
    ·subst hyx
     rw [aAg rfl,aEw,Un.irrefl,aD6,hp]
    ·have h2:O0 x y=true:=by
      cases h:O0 x y with
      | true=>rfl
      | false=>exact absurd (Un.tot _ _ h1 h) hyx
     rw [aAk hyx,aD6,h2,aEw]
     rw [nA (a:=0) (b:=(p.length:Int)) (by omega),aAc]
     have q1:(l.drop (0:Int).toNat).take ((p.length:Int).toNat - (0:Int).toNat)=p:=by rw [<- hp]; simp
     have q2:(l.drop (p.length:Int).toNat).take ((l.length:Int).toNat - (p.length:Int).toNat)=y :: m:=by
      rw [aHx (by rw [aH1]; omega),<- hp]; simp
     rw [q1,Fv (by simp; omega),aAc,Fv (by simp; omega),aAc,nA (by omega),aAc,q2]
     have:(y :: m).length<=l.length:=by rw [<- hp]; simp
     rw [Fv (by simp at *; omega),aAc]
     simp
 have:=key l [] rfl (fun _ h=>by cases h)
 exact this
theorem Lk (a b:List Ac) (h:a.length + b.length < 900000):C5 a b=some (H4 O0 (a ++ b)):=by
 have key:∀ (m p:List Ac) (out:List Ac) (F:Int×List Ac->Int) ,True:=fun _ _ _ _=>trivial
 unfold C5
 have step:∀ (m:List Ac) (x:Ac) (acc:List Ac),True:=fun _ _ _=>trivial
 have l2:∀ (m p acc:List Ac),p ++ m=b->SA acc->acc.length + m.length < 950000->B1 (fun q'=>C5.l2 b q'.1 q'.2) (acc,(p.length:Int))=some (m.foldl (Lw O0) acc):=by
  intro m
  induction m with
  | nil=>
   intro p acc hp hs hl
   have:b.length=p.length:=by rw [<- hp]; simp
   refine D8 (x:=some acc) ?_
   show C5.l2 b acc (p.length:Int)=_
   unfold C5.l2
   rw [aAk (by omega),aD6]
  | cons y m ih=>
   intro p acc hp hs hl
   rw [aIx] at hl
   have hy:b[p.length]?=some y:=by rw [<- hp]; simp
   have hlen:p.length < b.length:=(aDw.1 hy).1
   have hq:=Uo O0 y acc
   have e1:C5.l2 b acc (p.length:Int)=some (.next (Lw O0 acc y,(((p ++ [y]).length:Nat):Int))):=by
    unfold C5.l2
    rw [aAg (by omega),aEw,Cr,hy,aAc,U7 acc y (by omega) hs,aAc,Db (by omega)]
    simp
   rw [En (body:=fun q'=>C5.l2 b q'.1 q'.2) e1,ih (p ++ [y]) _ (by simp [hp]) (U6 Un hs) (by omega)]
   rfl
 have l1:∀ (m p acc:List Ac),p ++ m=a->SA acc->acc.length + m.length + b.length < 950000->B1 (fun q'=>C5.l1 a b q'.1 q'.2) (acc,(p.length:Int))=some (b.foldl (Lw O0) (m.foldl (Lw O0) acc)):=by
  intro m
  induction m with
  | nil=>
   intro p acc hp hs hl
   have:a.length=p.length:=by rw [<- hp]; simp
   refine D8 (x:=some (b.foldl (Lw O0) acc)) ?_
   show C5.l1 a b acc (p.length:Int)=_
   unfold C5.l1
   rw [aAk (by omega),aD6]
   have:=l2 b [] acc rfl hs (by simp at hl; omega)
   rw [show ((([]:List Ac).length:Nat):Int)=0 from rfl] at this
   rw [this]
  | cons y m ih=>
   intro p acc hp hs hl
   rw [aIx] at hl
   have hy:a[p.length]?=some y:=by rw [<- hp]; simp
   have hlen:p.length < a.length:=(aDw.1 hy).1
   have hq:=Uo O0 y acc
   have e1:C5.l1 a b acc (p.length:Int)=some (.next (Lw O0 acc y,(((p ++ [y]).length:Nat):Int))):=by
    unfold C5.l1
    rw [aAg (by omega),aEw,Cr,hy,aAc,U7 acc y (by omega) hs,aAc,Db (by omega)]
    simp
   rw [En (body:=fun q'=>C5.l1 a b q'.1 q'.2) e1,ih (p ++ [y]) _ (by simp [hp]) (U6 Un hs) (by omega)]
   rfl
 have:=l1 a [] [] rfl .nil (by simp; omega)
 rw [show ((([]:List Ac).length:Nat):Int)=0 from rfl] at this
 rw [this]
 unfold H4
 rw [List.foldl_append]
def rq (x:Ac):Aa:=⟨x.First,x.Then⟩
def ur (x:Aa):Ac:=⟨x.First,x.Then⟩
def fG (a b:Aa):Bool:=O0 (ur a) (ur b)
theorem hZ:Tw fG where
 irrefl a:=Un.irrefl _
 trans a b c h1 h2:=Un.trans _ _ _ h1 h2
 tot a b h1 h2:=by
  have:=Un.tot _ _ h1 h2
  have:=congrArg rq this
  exact this
theorem aI0:Sort.SWO fG where
 irrefl a:=hZ.irrefl a
 trans a b c h1 h2:=hZ.trans _ _ _ h1 h2
 ntrans a b c h1 h2:=by
  cases h:fG a c with
  | false=>rfl
  | true=>
   cases h3:fG b a with
   | true=>have:=hZ.trans _ _ _ h3 h; rw [h2] at this; cases this
   | false=>
    rw [hZ.tot _ _ h1 h3] at h
    rw [h2] at h; cases h
theorem nD (x y:Int):G9 x y=some (aCs x y):=by
 unfold G9 Jk aCs
 by_cases h1:x < y
 ·simp [h1]
 ·by_cases h2:y < x <;> simp [h1,h2]
theorem yU (x y:Int):E3 [x,y]=some (bif !decide (x=0) then x else y):=by
 unfold E3
 by_cases hx:x=0
 ·subst hx
  have e1:E3.l1 [0,y] 0=some (.next 1):=rfl
  rw [En (body:=fun q'=>E3.l1 [0,y] q') e1]
  by_cases hy:y=0
  ·subst hy
   have e2:E3.l1 [0,0] 1=some (.next 2):=rfl
   have e3:E3.l1 [0,0] 2=up (some 0):=rfl
   rw [En (body:=fun q'=>E3.l1 [0,0] q') e2,D8 e3]
   rfl
  ·have e2:E3.l1 [0,y] 1=up (some y):=by
    show cond _ (Option.bind (some y) _) _=_
    show cond (!decide (y=0)) _ _=_
    rw [aAk hy]; rfl
   rw [D8 e2]
   rfl
 ·have e1:E3.l1 [x,y] 0=up (some x):=by
   show cond (!decide (x=0)) _ _=_
   rw [aAk hx]; rfl
  rw [D8 e1,aAk hx]
  rfl
theorem aJc:Be (fun x0 x1=>Eu x0 x1) fG (fun _=>True):=fun x y _ _=>by
 show ∃ n,Eu x y=some n/\decide (n < 0)=fG x y
 unfold Eu
 rw [nD,aAc,nD,aAc,yU,aAc]
 refine⟨_,rfl,?_⟩
 unfold fG O0 ur aCs
 by_cases h1:x.First < y.First
 ·have:¬ x.First=y.First:=by omega
  simp [h1,this]
 ·by_cases h2:y.First < x.First
  ·have:¬ x.First=y.First:=by omega
   simp [h1,h2,this]
  ·have:x.First=y.First:=by omega
   simp only [this,Int.lt_irrefl,decide_false,aD6,decide_true,aHz]
   by_cases h3:x.Then < y.Then
   ·simp [h3]
   ·by_cases h4:y.Then < x.Then <;> simp [h3,h4]
theorem qB (l:List Ac):(H4 fG (l.map rq)).map ur=H4 O0 l:=by
 refine Y4 Un ?_ fun z=>?_
 ·exact List.Pairwise.map ur (fun a b h=>h) (Si hZ _)
 ·constructor
  ·intro h
   obtain⟨q,h1,rfl⟩:=aIk.1 h
   obtain⟨x,h2,rfl⟩:=aIk.1 ((Sj hZ).1 h1)
   exact h2
  ·intro h
   exact aIk.2 ⟨rq z,(Sj hZ).2 (aIk.2 ⟨z,h,rfl⟩),rfl⟩
theorem uH:Dn<=65535:=by unfold Dn; omega
theorem Kf (l:List Ac) (hl:l.length<=Dn):C6 l=some (H4 O0 l):=by
 have hcap:=uH
 obtain⟨r,hr1,hr2,hr3⟩:=Sv aI0 aJc (l.map rq) (by simpa using hl) (fun _ _=>trivial)
 have hrl:r.length=l.length:=by rw [hr2.length_eq]; simp
 obtain⟨c,hc1,rfl⟩:=Q3 r (by omega)
 have hcs:Ly r=H4 fG (l.map rq):=rT hZ hr2 hr3
 rw [hcs] at hc1
 have hsl:(H4 fG (l.map rq)).length<=l.length:=by have:=Pv fG (l.map rq); simpa using this
 have l2:∀ (m p:List Aa),p ++ m=H4 fG (l.map rq)->B1 (fun q'=>C6.l2 (H4 fG (l.map rq)) q'.1 q'.2) ((p.length:Int),p.map ur)=some ((p ++ m).map ur):=by
  intro m
  induction m with
  | nil=>
   intro p hp
   have:(H4 fG (l.map rq)).length=p.length:=by rw [<- hp]; simp
   refine D8 (x:=some _) ?_
   show C6.l2 _ (p.length:Int) (p.map ur)=_
   unfold C6.l2
   rw [aAk (by omega),aD6,aMl]
  | cons y m ih=>
   intro p hp
   have hy:(H4 fG (l.map rq))[p.length]?=some y:=by rw [<- hp]; simp
   have hlen:p.length < (H4 fG (l.map rq)).length:=(aDw.1 hy).1
   have e1:C6.l2 (H4 fG (l.map rq)) (p.length:Int) (p.map ur)=some (.next ((((p ++ [y]).length:Nat):Int),(p ++ [y]).map ur)):=by
    unfold C6.l2
    rw [aAg (by omega),aEw,Cr,hy,aAc,Fv (by simp; omega),aAc,Db (by omega)]
    simp [ur]
   rw [En (body:=fun q'=>C6.l2 (H4 fG (l.map rq)) q'.1 q'.2) e1,ih (p ++ [y]) (by simp [hp])]
   simp
 have l1:∀ (m p:List Ac),p ++ m=l->B1 (fun q'=>C6.l1 l q'.1 q'.2) ((p.length:Int),p.map rq)=some (H4 O0 l):=by
  intro m
  induction m with
  | nil=>
   intro p hp
   rw [aMl] at hp
   subst hp
   refine D8 (x:=some _) ?_
   show C6.l1 _ (p.length:Int) (p.map rq)=_
   unfold C6.l1
   rw [aAk (by omega),aD6,hr1,aAc,hc1,aAc]
   have:=l2 (H4 fG (p.map rq)) [] rfl
   rw [aOl] at this
   rw [qB] at this
   exact congrArg up this
  | cons y m ih=>
   intro p hp
   have hy:l[p.length]?=some y:=by rw [<- hp]; simp
   have hlen:p.length < l.length:=(aDw.1 hy).1
   have e1:C6.l1 l (p.length:Int) (p.map rq)=some (.next ((((p ++ [y]).length:Nat):Int),(p ++ [y]).map rq)):=by
    unfold C6.l1
    rw [aAg (by omega),aEw,Cr,hy,aAc,Fv (by simp; omega),aAc,Db (by omega)]
    simp [rq]
   rw [En (body:=fun q'=>C6.l1 l q'.1 q'.2) e1,ih (p ++ [y]) (by simp [hp])]
 exact l1 l [] rfl
theorem rL (s:List Ac) (h:s.length < 1000000):Cq s=some s:=by
 have e:∀ b,Cq.j1 s b=some (bif b then [] else s):=fun b=>by
  unfold Cq.j1
  cases b with
  | true=>rfl
  | false=>rw [aD6,Fv (by simp; omega)]; rfl
 unfold Cq
 rw [e,e]
 unfold gN
 cases s with
 | nil=>rw [if_pos rfl]; exact if_pos rfl
 | cons x s=>rw [if_neg (by simp)]; rfl
theorem S7 (a b:List Ac) (h:a.length + b.length<=Dn):Km a b=some (H4 O0 (a ++ b)):=by
 have hcap:=uH
 unfold Km
 rw [rL a (by omega),aAc,Fv (by omega),aAc,Kf _ (by rw [aEq]; omega)]
 rfl
theorem Us (a b:List Ac) (h:a.length < 1000000):D9 a b=some (decide (a=b)):=by
 unfold D9
 by_cases hl:a.length=b.length
 ·rw [aAg (show (a.length:Int)=(b.length:Int) by omega),aHz,aD6]
  have key:∀ (m n p:List Ac),p ++ m=a->p ++ n=b->B1 (fun q'=>D9.l1 a b q') (p.length:Int)=some (decide (m=n)):=by
   intro m
   induction m with
   | nil=>
    intro n p h1 h2
    have hn:n=[]:=aFc (by have e1:=congrArg List.length h1; have e2:=congrArg List.length h2; simp at e1 e2; omega)
    subst hn
    refine D8 (x:=some true) ?_
    show D9.l1 a b (p.length:Int)=_
    unfold D9.l1
    rw [aAk (by rw [<- h1]; simp),aD6]
   | cons x m ih=>
    intro n p h1 h2
    cases n with
    | nil=>have e1:=congrArg List.length h1; have e2:=congrArg List.length h2; simp at e1 e2; omega
    | cons y n=>
     have hx:a[p.length]?=some x:=by rw [<- h1]; simp
     have hy:b[p.length]?=some y:=by rw [<- h2]; simp
     have hlen:=(aDw.1 hx).1
     by_cases hxy:x=y
     ·subst hxy
      have e1:D9.l1 a b (p.length:Int)=some (.next (((p ++ [x]).length:Nat):Int)):=by
       unfold D9.l1
       rw [aAg (by omega),aEw,Cr,hx,aAc,Cr,hy,aAc,aAg rfl,aHz,aD6,Db (by omega)]
       simp
      rw [En e1,ih n (p ++ [x]) (by simp [h1]) (by simp [h2])]
      simp
     ·have e1:D9.l1 a b (p.length:Int)=up (some false):=by
       unfold D9.l1
       rw [aAg (by omega),aEw,Cr,hx,aAc,Cr,hy,aAc,aAk hxy,aJf,aEw]
      rw [D8 e1]
      simp [hxy]
  exact key a b [] rfl rfl
 ·rw [aAk (show ¬ (a.length:Int)=(b.length:Int) by omega),aJf,aEw,aAk (fun e=>hl (by rw [e]))]
end
section
inductive TC (R:Nat->Nat->Prop):Nat->Nat->Prop
 | one {a b} (h:R a b):TC R a b
 | step {a b c} (h:R a b) (hs:TC R b c):TC R a c
theorem TC.trans {R:Nat->Nat->Prop} {a b c:Nat} (h:TC R a b) (h':TC R b c):TC R a c:=by
 induction h with
 | one h=>exact .step h h'
 | step h _ ih=>exact .step h (ih h')
theorem TC.mono {R S:Nat->Nat->Prop} (hRS:∀ a b,R a b->S a b) {a b:Nat} (h:TC R a b):TC S a b:=by
 induction h with
 | one h=>exact .one (hRS _ _ h)
 | step h _ ih=>exact .step (hRS _ _ h) ih
theorem TC.lt {R:Nat->Nat->Prop} {n:Nat} (hR:∀ a b,R a b->a < n/\b < n) {a b:Nat} (h:TC R a b):a < n/\b < n:=by
 induction h with
 | one h=>exact hR _ _ h
 | step h _ ih=>exact⟨(hR _ _ h).1,ih.2⟩
theorem TC.up {R:Nat->Nat->Prop} (hR:∀ a b,R a b->a < b) {a b:Nat} (h:TC R a b):a < b:=by
 induction h with
 | one h=>exact hR _ _ h
 | step h _ ih=>exact Nat.lt_trans (hR _ _ h) ih
def oR (k:Nat) (w:Nat->Nat->Bool):Nat->Nat->Bool:=fun i j=>w i j || (w i k && w k j)
def D3 (w:Nat->Nat->Bool):Nat->Nat->Nat->Bool
 | 0=>w
 | k + 1=>oR k (D3 w k)
theorem Oo {w:Nat->Nat->Bool}:∀ {k i j:Nat},D3 w k i j=true->TC (fun a b=>w a b=true) i j
 | 0,_,_,h=>.one h
 | k + 1,i,j,h=>by
  have h:(D3 w k i j || (D3 w k i k && D3 w k k j))=true:=h
  rw [aKa,aEs] at h
  rcases h with h | ⟨h1,h2⟩
  ·exact Oo h
  ·exact (Oo h1).trans (Oo h2)
theorem Vw {w:Nat->Nat->Bool}:∀ {k i j:Nat},w i j=true->D3 w k i j=true
 | 0,_,_,h=>h
 | k + 1,i,j,h=>by
  show (D3 w k i j || (D3 w k i k && D3 w k k j))=true
  rw [Vw h]
  rfl
theorem Uz {w:Nat->Nat->Bool}:∀ {k i j m:Nat},m < k->D3 w k i m=true->D3 w k m j=true->D3 w k i j=true
 | 0,_,_,_,h,_,_=>by omega
 | k + 1,i,j,m,hm,h1,h2=>by
  have P:∀ i j m,m < k->D3 w k i m=true->D3 w k m j=true->D3 w k i j=true:=fun i j m=>Uz
  have h1:(D3 w k i m || (D3 w k i k && D3 w k k m))=true:=h1
  have h2:(D3 w k m j || (D3 w k m k && D3 w k k j))=true:=h2
  show (D3 w k i j || (D3 w k i k && D3 w k k j))=true
  simp only [aKa,aEs] at h1 h2 ⊢
  rcases aL2 m k with hk | hk
  ·rcases h1 with h1 | ⟨h1,h3⟩ <;> rcases h2 with h2 | ⟨h2,h4⟩
   ·exact .inl (P i j m hk h1 h2)
   ·exact .inr ⟨P i k m hk h1 h2,h4⟩
   ·exact .inr ⟨h1,P k j m hk h3 h2⟩
   ·exact .inr ⟨h1,h4⟩
  ·have:m=k:=by omega
   subst this
   have h1:D3 w m i m=true:=h1.elim id And.left
   have h2:D3 w m m j=true:=h2.elim id And.right
   exact .inr ⟨h1,h2⟩
theorem bJ {w:Nat->Nat->Bool} {n:Nat} (hw:∀ a b,w a b=true->a < n/\b < n) {i j:Nat}:D3 w n i j=true↔TC (fun a b=>w a b=true) i j:=by
 refine⟨Oo,fun h=>?_⟩
 induction h with
 | one h=>exact Vw h
 | step h hs ih=>exact Uz (hw _ _ h).2 (Vw h) ih
end
section
open Go
structure Mx (n:Nat) (M:List (List Bool)) (w:Nat->Nat->Bool):Prop where
 len:M.length=n
 row:∀ i,i < n->∃ r,M[i]?=some r/\r.length=n/\∀ j,j < n->r[j]?=some (w i j)
theorem Mx.congr {n:Nat} {M:List (List Bool)} {w w':Nat->Nat->Bool} (h:Mx n M w) (e:∀ i j,i < n->j < n->w i j=w' i j):Mx n M w':=
 ⟨h.len,fun i hi=>by obtain⟨r,h1,h2,h3⟩:=h.row i hi; exact⟨r,h1,h2,fun j hj=>by rw [h3 j hj,e i j hi hj]⟩⟩
theorem Mx.get {n:Nat} {M:List (List Bool)} {w:Nat->Nat->Bool} (h:Mx n M w) {i:Nat} (hi:i < n):∃ r,Bo M (i:Int)=some r/\r.length=n/\M[i]?=some r/\∀ j,j < n->Bo r (j:Int)=some (w i j):=by
 obtain⟨r,h1,h2,h3⟩:=h.row i hi
 exact⟨r,Cr.trans h1,h2,h1,fun j hj=>Cr.trans (h3 j hj)⟩
def dC (w:Nat->Nat->Bool) (i j:Nat):Nat->Nat->Bool:=fun a b=>decide (a=i/\b=j) || w a b
theorem Mx.set {n:Nat} {M:List (List Bool)} {w:Nat->Nat->Bool} (h:Mx n M w) {i j:Nat} (hi:i < n) (hj:j < n) {r:List Bool} (hr:M[i]?=some r):Mx n (Dj M i (Dj r j true)) (dC w i j):=by
 refine⟨by unfold Dj; rw [aOc]; exact h.len,fun a ha=>?_⟩
 unfold Dj
 by_cases e:a=i
 ·subst e
  obtain⟨r',h1,h2,h3⟩:=h.row a ha
  rw [hr] at h1
  injection h1 with h1
  subst h1
  refine⟨r.set j true,aMb (by rw [h.len]; exact ha),by rw [aOc]; exact h2,fun b hb=>?_⟩
  unfold dC
  by_cases e2:b=j
  ·subst e2
   rw [aMb (by omega),aAg ⟨rfl,rfl⟩]
   rfl
  ·rw [aL1 (fun e=>e2 e.symm),h3 b hb,aAk (fun e=>e2 e.2)]
   rfl
 ·obtain⟨r',h1,h2,h3⟩:=h.row a ha
  refine⟨r',by rw [aL1 (fun x=>e x.symm)]; exact h1,h2,fun b hb=>?_⟩
  unfold dC
  rw [h3 b hb,aAk (fun x=>e x.1)]
  rfl
def Gp (l:List Ac):Nat->Nat->Bool:=fun a b=>l.any fun r=>decide (r=⟨(a:Int),(b:Int)⟩)
def InR (n:Nat) (l:List Ac):Prop:=∀ r∈l,0<=r.First/\r.First < n/\0<=r.Then/\r.Then < n
theorem Ye {l:List Ac} {a b:Nat}:Gp l a b=true↔(⟨(a:Int),(b:Int)⟩:Ac)∈l:=by
 unfold Gp
 rw [aIi]
 constructor
 ·rintro⟨r,h1,h2⟩
  rw [aCe h2] at h1; exact h1
 ·intro h
  exact⟨_,h,aAg rfl⟩
theorem fN {n:Nat} {l:List Ac} (h:InR n l) {a b:Nat} (hab:Gp l a b=true):a < n/\b < n:=by
 obtain⟨h1,h2,h3,h4⟩:=h _ (Ye.1 hab)
 simp only at h1 h2 h3 h4
 omega
def cur (k:Nat) (w:Nat->Nat->Bool) (i j:Nat):Nat->Nat->Bool:=fun a b=>if a < i\/(a=i/\b < j) then oR k w a b else w a b
theorem xQ {k:Nat} {w:Nat->Nat->Bool} {i:Nat}:oR k w i k=w i k:=by unfold oR; cases w i k <;> simp
theorem zD {k:Nat} {w:Nat->Nat->Bool} {j:Nat}:oR k w k j=w k j:=by unfold oR; cases w k j <;> simp
theorem mV {k:Nat} {w:Nat->Nat->Bool} {i j a:Nat}:cur k w i j a k=w a k:=by unfold cur; split; exact xQ; rfl
theorem nI {k:Nat} {w:Nat->Nat->Bool} {i j b:Nat}:cur k w i j k b=w k b:=by unfold cur; split; exact zD; rfl
theorem iT {k:Nat} {w:Nat->Nat->Bool} {i j:Nat}:cur k w i j i j=w i j:=by unfold cur; rw [if_neg (by omega)]
theorem Vb {k:Nat} {w:Nat->Nat->Bool} {i j a b:Nat}:cur k w i (j + 1) a b=if a=i/\b=j then oR k w i j else cur k w i j a b:=by
 unfold cur
 by_cases e:a=i/\b=j
 ·rw [if_pos e,e.1,e.2,if_pos (by omega)]
 ·rw [if_neg e]
  by_cases h:a < i\/(a=i/\b < j)
  ·rw [if_pos h,if_pos (by omega)]
  ·rw [if_neg h,if_neg (by omega)]
theorem lR {n:Nat} (hn:n<=1000) {l:List Ac} (hl:InR n l) (hlen:l.length<=1000000):Ok (Bt (n:Int) l) (fun M=>Mx n M (D3 (Gp l) n)):=by
 have l6:∀ (k i:Nat) (w:Nat->Nat->Bool),k < n->i < n->∀ (s:Int×List (List Bool)),(∃ j:Nat,s.1=(j:Int)/\j<=n/\Mx n s.2 (cur k w i j))->
   Ok (B1 (fun q'=>Bt.l6 (n:Int) (k:Int) (i:Int) q'.1 q'.2) s) (S6 (fun s':Int×List (List Bool)=>(s'.1=((i + 1:Nat):Int)/\Mx n s'.2 (cur k w (i + 1) 0))/\True) (fun _=>False)):=by
  intro k i w hk hi s hs
  refine Ok.loop (fun s:Int×List (List Bool)=>∃ j:Nat,s.1=(j:Int)/\j<=n/\Mx n s.2 (cur k w i j)) (fun s=>n - s.1.toNat) ?_ hs
  rintro⟨_,M⟩ ⟨j,rfl,hj,hM⟩
  show Ok (Bt.l6 (n:Int) (k:Int) (i:Int) (j:Int) M) _
  unfold Bt.l6
  refine Ok.cond (fun h=>?_) (fun h=>?_)
  ·have hjn:j < n:=by have:=aCe h; omega
   obtain⟨r,a1,a2,a3,a4⟩:=hM.get hi
   obtain⟨r2,b1,b2,b3,b4⟩:=hM.get hk
   have e1:W ((j:Int) + 1)=((j + 1:Nat):Int):=by rw [Db (by omega)]; omega
   rw [a1,aAc,a4 k hk,aAc,mV]
   have fin:∀ b:Bool,(b=true->w i k=true/\w k j=true)->(b=false->¬ (w i k=true/\w k j=true))->Ok (Bt.j7 (i:Int) (j:Int) M b) (S6 (fun s':Int×List (List Bool)=>(∃ j:Nat,s'.1=(j:Int)/\j<=n/\Mx n s'.2 (cur k w i j))/\n - s'.1.toNat < n - ((j:Int)).toNat) (S6 (fun s':Int×List (List Bool)=>(s'.1=((i + 1:Nat):Int)/\Mx n s'.2 (cur k w (i + 1) 0))/\True) (fun _=>False))):=by
    intro b hb1 hb2
    unfold Bt.j7
    refine Ok.cond (fun h=>?_) (fun h=>?_)
    ·obtain⟨q1,q2⟩:=hb1 h
     rw [a1,aAc,a4 j hjn,aAc]
     unfold Bt.j8
     rw [e1]
     refine Ok.ret ⟨⟨j + 1,rfl,by omega,?_⟩,by show n - ((j + 1:Nat):Int).toNat < _; omega⟩
     have:=hM.set (j:=j) hi hjn a3
     rw [show (i:Int).toNat=i from rfl,show (j:Int).toNat=j from rfl]
     refine this.congr fun a b _ _=>?_
     rw [Vb]
     unfold dC
     by_cases e:a=i/\b=j
     ·rw [aAg e,if_pos e]
      unfold oR
      rw [q1,q2]; simp
     ·rw [aAk e,if_neg e]; rfl
    ·have q:=hb2 h
     unfold Bt.j8
     rw [e1]
     refine Ok.ret ⟨⟨j + 1,rfl,by omega,hM.congr fun a b _ _=>?_⟩,by show n - ((j + 1:Nat):Int).toNat < _; omega⟩
     rw [Vb]
     by_cases e:a=i/\b=j
     ·rw [if_pos e,e.1,e.2,iT]
      unfold oR
      cases h1:w i k with
      | false=>simp
      | true=>
       cases h2:w k j with
       | false=>simp
       | true=>exact absurd ⟨h1,h2⟩ q
     ·rw [if_neg e]
   refine Ok.cond (fun h1=>?_) (fun h1=>?_)
   ·rw [b1,aAc,b4 j hjn,aAc,nI]
    exact fin _ (fun h2=>⟨h1,h2⟩) (fun h2 h3=>by rw [h3.2] at h2; cases h2)
   ·exact fin _ (fun h2=>by cases h2) (fun _ h3=>by rw [h3.1] at h1; cases h1)
  ·have hjn:j=n:=by have:=aDs h; omega
   subst hjn
   refine Ok.up (Ok.ret ⟨⟨?_,hM.congr fun a b ha hb=>?_⟩,trivial⟩)
   ·rw [Db (by omega)]; omega
   ·unfold cur
    by_cases h:a < i\/(a=i/\b < j)
    ·rw [if_pos h,if_pos (by omega)]
    ·rw [if_neg h,if_neg (by omega)]
 have l5:∀ (k:Nat) (w:Nat->Nat->Bool),k < n->∀ M,Mx n M w->Ok (B1 (fun q'=>Bt.l5 (n:Int) (k:Int) q'.1 q'.2) (0,M)) (S6 (fun s':Int×List (List Bool)=>s'.1=((k + 1:Nat):Int)/\Mx n s'.2 (oR k w)) (fun _=>False)):=by
  intro k w hk M hM
  refine Ok.loop (fun s:Int×List (List Bool)=>∃ i:Nat,s.1=(i:Int)/\i<=n/\Mx n s.2 (cur k w i 0)) (fun s=>n - s.1.toNat) ?_ ⟨0,rfl,aFf _,hM.congr fun a b _ _=>by unfold cur; rw [if_neg (by omega)]⟩
  rintro⟨_,M⟩ ⟨i,rfl,hi,hM⟩
  show Ok (Bt.l5 (n:Int) (k:Int) (i:Int) M) _
  unfold Bt.l5
  refine Ok.cond (fun h=>?_) (fun h=>?_)
  ·have hin:i < n:=by have:=aCe h; omega
   refine (l6 k i w hk hin (0,M) ⟨0,rfl,aFf _,hM⟩).mono fun o ho=>?_
   cases o with
   | done r=>exact ho.elim
   | next s=>
    obtain⟨⟨h1,h2⟩,-⟩:=ho
    exact⟨⟨i + 1,h1,hin,h2⟩,by show n - s.1.toNat < n - ((i:Int)).toNat; rw [h1]; omega⟩
  ·have hin:i=n:=by have:=aDs h; omega
   subst hin
   refine Ok.up (Ok.ret ⟨?_,hM.congr fun a b ha hb=>?_⟩)
   ·rw [Db (by omega)]; omega
   ·unfold cur; rw [if_pos (.inl ha)]
 have l4:∀ M,Mx n M (Gp l)->Ok (B1 (fun q'=>Bt.l4 (n:Int) q'.1 q'.2) (0,M)) (fun M=>Mx n M (D3 (Gp l) n)):=by
  intro M hM
  refine Ok.loop (fun s:Int×List (List Bool)=>∃ k:Nat,s.1=(k:Int)/\k<=n/\Mx n s.2 (D3 (Gp l) k)) (fun s=>n - s.1.toNat) ?_ ⟨0,rfl,aFf _,hM⟩
  rintro⟨_,M⟩ ⟨k,rfl,hk,hM⟩
  show Ok (Bt.l4 (n:Int) (k:Int) M) _
  unfold Bt.l4
  refine Ok.cond (fun h=>?_) (fun h=>?_)
  ·have hkn:k < n:=by have:=aCe h; omega
   refine (l5 k _ hkn M hM).mono fun o ho=>?_
   cases o with
   | done r=>exact ho.elim
   | next s=>
    obtain⟨h1,h2⟩:=ho
    exact⟨⟨k + 1,h1,hkn,h2⟩,by show n - s.1.toNat < n - ((k:Int)).toNat; rw [h1]; omega⟩
  ·have hkn:k=n:=by have:=aDs h; omega
   subst hkn
   exact Ok.up (Ok.ret hM)
 have l3:∀ M,Mx n M (fun _ _=>false)->Ok (B1 (fun q'=>Bt.l3 (n:Int) l q'.1 q'.2) (0,M)) (fun M=>Mx n M (D3 (Gp l) n)):=by
  intro M hM
  refine Ok.loop (fun s:Int×List (List Bool)=>∃ i:Nat,s.1=(i:Int)/\i<=l.length/\Mx n s.2 (Gp (l.take i))) (fun s=>l.length - s.1.toNat) ?_ ⟨0,rfl,aFf _,hM.congr fun a b _ _=>rfl⟩
  rintro⟨_,M⟩ ⟨i,rfl,hi,hM⟩
  show Ok (Bt.l3 (n:Int) l (i:Int) M) _
  unfold Bt.l3
  refine Ok.cond (fun h=>?_) (fun h=>?_)
  ·have hil:i < l.length:=by have:=aCe h; omega
   obtain⟨r,hr⟩:∃ r,l[i]?=some r:=⟨_,aAy hil⟩
   obtain⟨q1,q2,q3,q4⟩:=hl r (aG3 hr)
   obtain⟨a,ha⟩:∃ a:Nat,r.First=(a:Int):=⟨r.First.toNat,by omega⟩
   obtain⟨b,hb⟩:∃ b:Nat,r.Then=(b:Int):=⟨r.Then.toNat,by omega⟩
   obtain⟨row,a1,a2,a3,a4⟩:=hM.get (i:=a) (by omega)
   rw [Cr,hr,aAc,ha,a1,aAc,hb,a4 b (by omega),aAc]
   refine Ok.ret ⟨⟨i + 1,by rw [Db (by omega)]; omega,hil,?_⟩,by show l.length - (W ((i:Int) + 1)).toNat < l.length - ((i:Int)).toNat; rw [Db (by omega)]; omega⟩
   refine (hM.set (j:=b) (by omega) (by omega) a3).congr fun x y _ _=>?_
   unfold dC Gp
   rw [Hf hr,aOm,Bool.or_comm]
   congr 1
   simp only [aOh,aP4,Bool.or_false]
   have:r=⟨(a:Int),(b:Int)⟩:=by rw [<- ha,<- hb]
   rw [this]
   by_cases e:x=a/\y=b
   ·rw [aAg e,e.1,e.2,aAg rfl]
   ·rw [aAk e,aAk]
    intro e2
    injection e2 with e3 e4
    exact e ⟨by omega,by omega⟩
  ·have hil:i=l.length:=by have:=aDs h; omega
   subst hil
   rw [aKf] at hM
   exact Ok.up (l4 M hM)
 unfold Bt
 refine Ok.loop (fun s:Int×List (List Bool)=>∃ i:Nat,s.1=(i:Int)/\i<=n/\s.2=List.replicate i (List.replicate n false)) (fun s=>n - s.1.toNat) ?_ ⟨0,rfl,aFf _,rfl⟩
 rintro⟨_,_⟩ ⟨i,rfl,hi,rfl⟩
 show Ok (Bt.l2 (n:Int) l (i:Int) (List.replicate i (List.replicate n false))) _
 unfold Bt.l2
 refine Ok.cond (fun h=>?_) (fun h=>?_)
 ·have hin:i < n:=by have:=aCe h; omega
  have e0:oL 1 (n:Int) false=some (List.replicate n false):=by
   unfold oL
   rw [if_pos (by omega)]
   rfl
  rw [e0,aAc,Fv (by simp; omega),aAc]
  refine Ok.ret ⟨⟨i + 1,by rw [Db (by omega)]; omega,hin,?_⟩,by show n - (W ((i:Int) + 1)).toNat < n - ((i:Int)).toNat; rw [Db (by omega)]; omega⟩
  show List.replicate i (List.replicate n false) ++ [List.replicate n false]=_
  rw [List.replicate_succ']
 ·have hin:i=n:=by have:=aDs h; omega
  subst hin
  refine Ok.up (l3 _ ⟨by simp,fun a ha=>⟨List.replicate i false,by simp [ha],by simp,fun b hb=>by simp [hb]⟩⟩)
theorem aZ (l:List Int) (hl:l.length<=1000) (hc:l.length<=Dn):Ok (G4 l) (fun r=>r=H4 O0 ((List.range (l.length - 1)).map fun i=>⟨l.getD i 0,l.getD (i + 1) 0⟩)):=by
 unfold G4
 refine Ok.loop (fun s:Int×List Ac=>∃ i:Nat,s.1=((i + 1:Nat):Int)/\(i=0\/i + 1<=l.length)/\s.2=(List.range i).map fun i=>⟨l.getD i 0,l.getD (i + 1) 0⟩) (fun s=>l.length - s.1.toNat) ?_ ⟨0,rfl,.inl rfl,rfl⟩
 rintro⟨_,_⟩ ⟨i,rfl,hi,rfl⟩
 show Ok (G4.l1 l ((i + 1:Nat):Int) _) _
 unfold G4.l1
 refine Ok.cond (fun h=>?_) (fun h=>?_)
 ·have hil:i + 1 < l.length:=by have:=aCe h; omega
  have e1:l[i]?=some (l.getD i 0):=by rw [aK8,aAy (by omega)]; rfl
  have e2:l[i + 1]?=some (l.getD (i + 1) 0):=by rw [aK8,aAy (by omega)]; rfl
  rw [Db (by omega),show ((i + 1:Nat):Int) - 1=(i:Int) by omega,Cr,e1,aAc,Cr,e2,aAc,Fv (by simp; omega),aAc]
  refine Ok.ret ⟨⟨i + 1,by rw [Db (by omega)]; omega,.inr (by omega),by rw [aMc]; simp⟩,by show l.length - (W (((i + 1:Nat):Int) + 1)).toNat < l.length - (((i + 1:Nat):Int)).toNat; rw [Db (by omega)]; omega⟩
 ·have hil:l.length - 1=i:=by have:=aDs h; omega
  rw [Kf _ (by simp; omega),aAc]
  exact Ok.up (Ok.ret (by rw [hil]))
structure fU (n:Nat) (l:List Ac):Prop where
 asc:SA l
 len:l.length<=200
 fwd:∀ r∈l,0<=r.First/\r.First < r.Then/\r.Then < n
theorem aO {d:Ab} (h:Hj d) (n:Nat) (hn:1<=n) (hn2:n<=50):Ok (Dm d (n:Int)) (fun y=>fU n y.1/\Hj y.2):=by
 unfold Dm
 rw [Db (x:=2 * (n:Int)) (by omega),Db (by omega)]
 refine Ok.bind (D4 h _ (by omega) (by omega)) fun y hy=>?_
 refine Ok.loop (fun s:List Ac×Int×Ab=>((SA s.1/\∀ r∈s.1,0<=r.First/\r.First < r.Then/\r.Then < n)/\(s.1.length:Int) + s.2.1<=2 * n)/\0<=s.2.1/\Hj s.2.2) (fun s=>s.2.1.toNat) ?_ ⟨⟨⟨.nil,fun r hr=>by cases hr⟩,by have:=hy.1; show ((0:Nat):Int) + y.1<=_; omega⟩,by have:=hy.1; show 0<=y.1; omega,hy.2⟩
 rintro⟨l,k,d1⟩ ⟨⟨⟨h1,h2⟩,h3⟩,h4,h5⟩
 simp only at h1 h2 h3 h4 h5
 show Ok (Dm.l1 (n:Int) l k d1) _
 unfold Dm.l1
 have done_:Ok (Dm.j2 (n:Int) l k d1 false) (S6 (fun s':List Ac×Int×Ab=>(((SA s'.1/\∀ r∈s'.1,0<=r.First/\r.First < r.Then/\r.Then < n)/\(s'.1.length:Int) + s'.2.1<=2 * n)/\0<=s'.2.1/\Hj s'.2.2)/\s'.2.1.toNat < k.toNat) (fun y=>fU n y.1/\Hj y.2)):=
  Ok.up (Ok.ret ⟨⟨h1,by show l.length<=200; omega,h2⟩,h5⟩)
 refine Ok.cond (fun hk=>?_) (fun _=>done_)
 have hk:=aCe hk
 cases hb:decide (1 < (n:Int)) with
 | false=>exact done_
 | true=>
  unfold Dm.j2
  rw [aEw]
  refine Ok.bind (D4 h5 _ (by omega) (by omega)) fun y2 hy2=>?_
  refine Ok.bind (D4 hy2.2 _ (by omega) (by omega)) fun y3 hy3=>?_
  refine Ok.cond (fun hlt=>?_) (fun _=>?_)
  ·have hlt:=aCe hlt
   rw [Lk _ _ (by simp; omega),aAc]
   unfold Dm.j3
   rw [Db (by omega)]
   have hlen:=Pv O0 (l ++ [(⟨y2.1,y3.1⟩:Ac)])
   rw [aEq] at hlen
   simp only [aIx,List.length_nil] at hlen
   refine Ok.ret ⟨⟨⟨⟨Si Un _,fun r hr=>?_⟩,by show ((H4 O0 _).length:Int) + (k - 1)<=_; omega⟩,by show 0<=k - 1; omega,hy3.2⟩,by show (k - 1).toNat < k.toNat; omega⟩
   rcases aH5.1 ((Sj Un).1 hr) with hr | hr
   ·exact h2 r hr
   ·rw [aEp.1 hr]
    exact⟨hy2.1.1,hlt,hy3.1.2⟩
  ·unfold Dm.j3
   rw [Db (by omega)]
   exact Ok.ret ⟨⟨⟨⟨h1,h2⟩,by show (l.length:Int) + (k - 1)<=_; omega⟩,by show 0<=k - 1; omega,hy3.2⟩,by show (k - 1).toNat < k.toNat; omega⟩
theorem fU.inr {n:Nat} {l:List Ac} (h:fU n l):InR n l:=fun r hr=>by have:=h.fwd r hr; omega
theorem mK:Jn=some true:=by
 obtain⟨c,hc,rfl⟩:=aZ [2,0,1] (by decide) (by decide)
 unfold Jn
 have e1:Cs (Al.mk (⟨#[]⟩:ByteArray) 0 0 ([]:(List Int)) false ([]:(List A4)) ([]:(List Int)) ([]:(List Int)) false) (Ae.mk 0 5 0 0 (A4.mk (Av.mk 0 0) 0 ([]:List Ah)))=some 1:=rfl
 have e2:Cs (Al.mk (⟨#[]⟩:ByteArray) 0 0 ([]:(List Int)) false ([]:(List A4)) ([]:(List Int)) ([]:(List Int)) false) (Ae.mk 0 2 0 0 (A4.mk (Av.mk 0 0) 0 ([]:List Ah)))=some 3:=rfl
 rw [e1,aAc,aAg rfl,aEw,e2,aAc,aAg rfl,aEw,hc,aAc]
 rfl
theorem aDd {t:List Int} (h:t.length<=400):Ok (Ov t) Hj:=Ok.ret ⟨by unfold Lo; show t.length < _; omega,aO5 _,by show (0:Int)<=(t.length:Int); omega⟩
end
section
open Go
section
variable {κ ν:Type} [DecidableEq κ]
theorem Mo (p:κ×ν) (l:List (κ×ν)) (x:κ) (z:ν):Ga (p :: l) x z=if p.1=x then p.2 else Ga l x z:=by
 unfold Ga
 by_cases h:p.1=x <;> simp [h]
theorem iQ (p:κ×ν) (l:List (κ×ν)) (x:κ) (v:ν):Kg (p :: l) x v=if p.1=x then (x,v) :: l else p :: Kg l x v:=by
 unfold Kg
 by_cases h:p.1=x
 ·rw [List.findIdx?_cons,aAg h,if_pos h]; rfl
 ·rw [List.findIdx?_cons,aAk h,if_neg h]
  cases hf:l.findIdx? (fun p=>decide (p.1=x)) <;> simp
theorem Y0 (x:κ) (v:ν) (y:κ) (z:ν):∀ l:List (κ×ν),Ga (Kg l x v) y z=if x=y then v else Ga l y z
 | []=>by
  show Ga [(x,v)] y z=_
  rw [Mo]
 | p :: l=>by
  rw [iQ]
  by_cases h:p.1=x
  ·rw [if_pos h,Mo,Mo]
   by_cases e:x=y
   ·rw [if_pos e,if_pos e]
   ·rw [if_neg e,if_neg e,if_neg (by rw [h]; exact e)]
  ·rw [if_neg h,Mo,Y0 x v y z l,Mo]
   by_cases e:x=y
   ·rw [if_pos e,if_pos e,if_neg (by rw [<- e]; exact h)]
   ·rw [if_neg e,if_neg e]
end
def MW (n:Nat) (m:List (Ac×Bool)) (w:Nat->Nat->Bool):Prop:=∀ a b:Nat,a < n->b < n->Ga m ⟨(a:Int),(b:Int)⟩ false=w a b
theorem MW.congr {n:Nat} {m:List (Ac×Bool)} {w w':Nat->Nat->Bool} (h:MW n m w) (e:∀ i j,i < n->j < n->w i j=w' i j):MW n m w':=fun a b ha hb=>(h a b ha hb).trans (e a b ha hb)
theorem MW.put {n:Nat} {m:List (Ac×Bool)} {w:Nat->Nat->Bool} (h:MW n m w) (i j:Nat):MW n (Kg m ⟨(i:Int),(j:Int)⟩ true) (dC w i j):=fun a b ha hb=>by
 rw [Y0,h a b ha hb]
 unfold dC
 by_cases e:a=i/\b=j
 ·rw [aAg e,if_pos (by rw [e.1,e.2])]; rfl
 ·rw [aAk e,if_neg (fun x=>by injection x with x1 x2; exact e ⟨by omega,by omega⟩)]; rfl
theorem qR {n:Nat} (hn:n<=1000) {l:List Ac} (hl:InR n l) (hlen:l.length<=1000000):Ok (B4 (n:Int) l) (fun M=>MW n M (D3 (Gp l) n)):=by
 have l6:∀ (k i:Nat) (w:Nat->Nat->Bool),k < n->i < n->∀ (s:Int×List (Ac×Bool)),(∃ j:Nat,s.1=(j:Int)/\j<=n/\MW n s.2 (cur k w i j))->
   Ok (B1 (fun q'=>B4.l4 (n:Int) (k:Int) (i:Int) q'.1 q'.2) s) (S6 (fun s':Int×List (Ac×Bool)=>(s'.1=((i + 1:Nat):Int)/\MW n s'.2 (cur k w (i + 1) 0))/\True) (fun _=>False)):=by
  intro k i w hk hi s hs
  refine Ok.loop (fun s:Int×List (Ac×Bool)=>∃ j:Nat,s.1=(j:Int)/\j<=n/\MW n s.2 (cur k w i j)) (fun s=>n - s.1.toNat) ?_ hs
  rintro⟨_,M⟩ ⟨j,rfl,hj,hM⟩
  have hM:MW n M (cur k w i j):=hM
  show Ok (B4.l4 (n:Int) (k:Int) (i:Int) (j:Int) M) _
  unfold B4.l4
  refine Ok.cond (fun h=>?_) (fun h=>?_)
  ·have hjn:j < n:=by have:=aCe h; omega
   have e1:W ((j:Int) + 1)=((j + 1:Nat):Int):=by rw [Db (by omega)]; omega
   rw [hM i k hi hk,hM k j hk hjn,mV,nI]
   have fin:∀ b:Bool,(b=true->w i k=true/\w k j=true)->(b=false->¬ (w i k=true/\w k j=true))->Ok (B4.j5 (i:Int) (j:Int) M b) (S6 (fun s':Int×List (Ac×Bool)=>(∃ j:Nat,s'.1=(j:Int)/\j<=n/\MW n s'.2 (cur k w i j))/\n - s'.1.toNat < n - ((j:Int)).toNat) (S6 (fun s':Int×List (Ac×Bool)=>(s'.1=((i + 1:Nat):Int)/\MW n s'.2 (cur k w (i + 1) 0))/\True) (fun _=>False))):=by
    intro b hb1 hb2
    unfold B4.j5
    refine Ok.cond (fun h=>?_) (fun h=>?_)
    ·obtain⟨q1,q2⟩:=hb1 h
     unfold B4.j6
     rw [e1]
     refine Ok.ret ⟨⟨j + 1,rfl,by omega,(hM.put i j).congr fun a b _ _=>?_⟩,by show n - ((j + 1:Nat):Int).toNat < _; omega⟩
     rw [Vb]
     unfold dC
     by_cases e:a=i/\b=j
     ·rw [aAg e,if_pos e]
      unfold oR
      rw [q1,q2]; simp
     ·rw [aAk e,if_neg e]; rfl
    ·have q:=hb2 h
     unfold B4.j6
     rw [e1]
     refine Ok.ret ⟨⟨j + 1,rfl,by omega,hM.congr fun a b _ _=>?_⟩,by show n - ((j + 1:Nat):Int).toNat < _; omega⟩
     rw [Vb]
     by_cases e:a=i/\b=j
     ·rw [if_pos e,e.1,e.2,iT]
      unfold oR
      cases h1:w i k with
      | false=>simp
      | true=>
       cases h2:w k j with
       | false=>simp
       | true=>exact absurd ⟨h1,h2⟩ q
     ·rw [if_neg e]
   refine Ok.cond (fun h1=>?_) (fun h1=>?_)
   ·exact fin _ (fun h2=>⟨h1,h2⟩) (fun h2 h3=>by rw [h3.2] at h2; cases h2)
   ·exact fin _ (fun h2=>by cases h2) (fun _ h3=>by rw [h3.1] at h1; cases h1)
  ·have hjn:j=n:=by have:=aDs h; omega
   subst hjn
   refine Ok.up (Ok.ret ⟨⟨?_,hM.congr fun a b ha hb=>?_⟩,trivial⟩)
   ·rw [Db (by omega)]; omega
   ·unfold cur
    by_cases h:a < i\/(a=i/\b < j)
    ·rw [if_pos h,if_pos (by omega)]
    ·rw [if_neg h,if_neg (by omega)]
 have l5:∀ (k:Nat) (w:Nat->Nat->Bool),k < n->∀ M,MW n M w->Ok (B1 (fun q'=>B4.l3 (n:Int) (k:Int) q'.1 q'.2) (0,M)) (S6 (fun s':Int×List (Ac×Bool)=>s'.1=((k + 1:Nat):Int)/\MW n s'.2 (oR k w)) (fun _=>False)):=by
  intro k w hk M hM
  refine Ok.loop (fun s:Int×List (Ac×Bool)=>∃ i:Nat,s.1=(i:Int)/\i<=n/\MW n s.2 (cur k w i 0)) (fun s=>n - s.1.toNat) ?_ ⟨0,rfl,aFf _,hM.congr fun a b _ _=>by unfold cur; rw [if_neg (by omega)]⟩
  rintro⟨_,M⟩ ⟨i,rfl,hi,hM⟩
  have hM:MW n M (cur k w i 0):=hM
  show Ok (B4.l3 (n:Int) (k:Int) (i:Int) M) _
  unfold B4.l3
  refine Ok.cond (fun h=>?_) (fun h=>?_)
  ·have hin:i < n:=by have:=aCe h; omega
   refine (l6 k i w hk hin (0,M) ⟨0,rfl,aFf _,hM⟩).mono fun o ho=>?_
   cases o with
   | done r=>exact ho.elim
   | next s=>
    obtain⟨⟨h1,h2⟩,-⟩:=ho
    exact⟨⟨i + 1,h1,hin,h2⟩,by show n - s.1.toNat < n - ((i:Int)).toNat; rw [h1]; omega⟩
  ·have hin:i=n:=by have:=aDs h; omega
   subst hin
   refine Ok.up (Ok.ret ⟨?_,hM.congr fun a b ha hb=>?_⟩)
   ·rw [Db (by omega)]; omega
   ·unfold cur; rw [if_pos (.inl ha)]
 have l4:∀ M,MW n M (Gp l)->Ok (B1 (fun q'=>B4.l2 (n:Int) q'.1 q'.2) (0,M)) (fun M=>MW n M (D3 (Gp l) n)):=by
  intro M hM
  refine Ok.loop (fun s:Int×List (Ac×Bool)=>∃ k:Nat,s.1=(k:Int)/\k<=n/\MW n s.2 (D3 (Gp l) k)) (fun s=>n - s.1.toNat) ?_ ⟨0,rfl,aFf _,hM⟩
  rintro⟨_,M⟩ ⟨k,rfl,hk,hM⟩
  have hM:MW n M (D3 (Gp l) k):=hM
  show Ok (B4.l2 (n:Int) (k:Int) M) _
  unfold B4.l2
  refine Ok.cond (fun h=>?_) (fun h=>?_)
  ·have hkn:k < n:=by have:=aCe h; omega
   refine (l5 k _ hkn M hM).mono fun o ho=>?_
   cases o with
   | done r=>exact ho.elim
   | next s=>
    obtain⟨h1,h2⟩:=ho
    exact⟨⟨k + 1,h1,hkn,h2⟩,by show n - s.1.toNat < n - ((k:Int)).toNat; rw [h1]; omega⟩
  ·have hkn:k=n:=by have:=aDs h; omega
   subst hkn
   exact Ok.up (Ok.ret hM)
 unfold B4
 refine Ok.loop (fun s:Int×List (Ac×Bool)=>∃ i:Nat,s.1=(i:Int)/\i<=l.length/\MW n s.2 (Gp (l.take i))) (fun s=>l.length - s.1.toNat) ?_ ⟨0,rfl,aFf _,fun a b _ _=>rfl⟩
 rintro⟨_,M⟩ ⟨i,rfl,hi,hM⟩
 have hM:MW n M (Gp (l.take i)):=hM
 show Ok (B4.l1 (n:Int) l (i:Int) M) _
 unfold B4.l1
 refine Ok.cond (fun h=>?_) (fun h=>?_)
 ·have hil:i < l.length:=by have:=aCe h; omega
  obtain⟨r,hr⟩:∃ r,l[i]?=some r:=⟨_,aAy hil⟩
  obtain⟨q1,q2,q3,q4⟩:=hl r (aG3 hr)
  obtain⟨a,ha⟩:∃ a:Nat,r.First=(a:Int):=⟨r.First.toNat,by omega⟩
  obtain⟨b,hb⟩:∃ b:Nat,r.Then=(b:Int):=⟨r.Then.toNat,by omega⟩
  have hrab:r=⟨(a:Int),(b:Int)⟩:=by rw [<- ha,<- hb]
  rw [Cr,hr,aAc]
  refine Ok.ret ⟨⟨i + 1,by rw [Db (by omega)]; omega,hil,?_⟩,by show l.length - (W ((i:Int) + 1)).toNat < l.length - ((i:Int)).toNat; rw [Db (by omega)]; omega⟩
  show MW n (Kg M r true) _
  rw [hrab]
  refine (hM.put a b).congr fun x y _ _=>?_
  unfold dC Gp
  rw [Hf hr,aOm,Bool.or_comm]
  congr 1
  simp only [aOh,aP4,Bool.or_false]
  rw [hrab]
  by_cases e:x=a/\y=b
  ·rw [aAg e,e.1,e.2,aAg rfl]
  ·rw [aAk e,aAk]
   intro e2
   injection e2 with e3 e4
   exact e ⟨by omega,by omega⟩
 ·have hil:i=l.length:=by have:=aDs h; omega
  subst hil
  rw [aKf] at hM
  exact Ok.up (l4 M hM)
def Tf (n:Nat) (l:List Ac) (r:Ac):Bool:=!(List.range n).any fun k=>D3 (Gp l) n r.First.toNat k && D3 (Gp l) n k r.Then.toNat
def red (n:Nat) (l:List Ac):List Ac:=l.filter (Tf n l)
theorem fU.eup {n:Nat} {l:List Ac} (h:fU n l) {a b:Nat} (e:Gp l a b=true):a < b:=by
 have:=h.fwd _ (Ye.1 e)
 simp only at this
 omega
theorem fU.acy {n:Nat} {l:List Ac} (h:fU n l) (a:Nat):¬ TC (fun a b=>Gp l a b=true) a a:=fun ht=>by
 have:=ht.up (fun _ _=>h.eup)
 omega
theorem fU.wr {n:Nat} {l:List Ac} (h:fU n l) {a b:Nat}:D3 (Gp l) n a b=true↔TC (fun a b=>Gp l a b=true) a b:=bJ fun _ _=>fN h.inr
theorem fU.sub {n:Nat} {l m:List Ac} (h:fU n l) (hs:m.Sublist l):fU n m:=⟨h.asc.sublist hs,aH4 hs.length_le h.len,fun r hr=>h.fwd r (hs.subset hr)⟩
theorem fU.red {n:Nat} {l:List Ac} (h:fU n l):fU n (red n l):=h.sub List.filter_sublist
theorem fU.keep {n:Nat} {l:List Ac} (h:fU n l) {a b:Nat}:Tf n l ⟨(a:Int),(b:Int)⟩=true↔¬ ∃ k,TC (fun a b=>Gp l a b=true) a k/\TC (fun a b=>Gp l a b=true) k b:=by
 unfold Proofs.YtkioneinddihlaaGreat.Tf
 rw [aNb,<- Bool.not_eq_true,aIi]
 refine not_congr ⟨?_,?_⟩
 ·rintro⟨k,-,hk⟩
  rw [aEs] at hk
  exact⟨k,h.wr.1 hk.1,h.wr.1 hk.2⟩
 ·rintro⟨k,h1,h2⟩
  refine⟨k,aPb.2 (h1.lt (fun _ _=>fN h.inr)).2,?_⟩
  rw [aEs]
  exact⟨h.wr.2 h1,h.wr.2 h2⟩
structure Req (n:Nat) (l:List Ac):Prop where
 asc:SA l
 len:l.length<=1000
 cap:l.length<=Dn
 inr:InR n l
 acy:∀ a,¬ TC (fun a b=>Gp l a b=true) a a
theorem Req.fwd {n:Nat} {l:List Ac} (h:Req n l):∀ r∈l,(0<=r.First/\r.First < n/\0<=r.Then/\r.Then < n)/\r.First≠r.Then:=fun r hr=>by
 have q:=h.inr r hr
 refine⟨q,fun e=>h.acy r.First.toNat (.one (Ye.2 ?_))⟩
 have e1:((r.First.toNat:Nat):Int)=r.First:=by omega
 have:(⟨r.First,r.First⟩:Ac)=r:=by
  obtain⟨x,y⟩:=r
  have e:x=y:=e
  subst e; rfl
 rw [e1,this]; exact hr
theorem Req.wr {n:Nat} {l:List Ac} (h:Req n l) {a b:Nat}:D3 (Gp l) n a b=true↔TC (fun a b=>Gp l a b=true) a b:=bJ fun _ _=>fN h.inr
def qC (n:Nat) (r:Ac):Prop:=¬ ((0<=r.First/\r.First < n/\0<=r.Then/\r.Then < n)/\r.First≠r.Then)
theorem jT {n:Nat} (hn:n<=24) {l:List Ac} (hl:l.length<=1000) (hcap:l.length<=Dn) (hsa:SA l) (hfwd:∀ r∈l,(0<=r.First/\r.First < n/\0<=r.Then/\r.Then < n)/\r.First≠r.Then):Ok (Bl (n:Int) l) (fun y=>(y=(red n l,0)/\∀ k,k < n->D3 (Gp l) n k k=false)\/(y=([],45)/\∃ k,k < n/\D3 (Gp l) n k k=true)):=by
 unfold Bl
 rw [aAk (by omega),aD6,aAk (by omega)]
 unfold Bl.j2
 rw [aD6]
 have c1:C8 l (fun x0=>Dt x0 n)=some false:=by
  have:Ok (Bc l (fun x0=>Dt x0 n)) (fun y=>y=-1):=by
   unfold Bc
   refine Ok.loop (fun s:Int=>∃ i:Nat,s=(i:Int)/\i<=l.length) (fun s=>l.length - s.toNat) ?_ ⟨0,rfl,aFf _⟩
   rintro _ ⟨i,rfl,hi⟩
   show Ok (Bc.l1 l (fun x0=>Dt x0 n) (i:Int)) _
   unfold Bc.l1
   refine Ok.cond (fun hb=>?_) (fun hb=>?_)
   ·have hil:i < l.length:=by have:=aCe hb; omega
    obtain⟨r,hr⟩:∃ r,l[i]?=some r:=⟨_,aAy hil⟩
    have q:=hfwd r (aG3 hr)
    have hc:Dt r (n:Int)=some false:=by
     unfold Dt
     rw [aAk (by omega),aD6,aAk (by omega),aD6,aAk (by omega),aD6,aAk (by omega),aD6,aAk (by omega)]
    rw [Cr,hr,aAc]
    show Ok ((Dt r (n:Int)).bind _) _
    rw [hc,aAc,aD6,Db (by omega)]
    exact Ok.ret ⟨⟨i + 1,by omega,hil⟩,by show l.length - ((i:Int) + 1).toNat < l.length - ((i:Int)).toNat; omega⟩
   ·exact Ok.up (Ok.ret rfl)
  obtain⟨y,hy,rfl⟩:=this
  unfold C8
  rw [hy]; rfl
 have c2:C6 l=some l:=by rw [Kf l hcap,Zy Un hsa]
 have c3:C3 l l=some true:=by
  refine Ok.true_ ?_
  unfold C3
  rw [aAg rfl,aHz,aD6]
  refine Ok.loop (fun s:Int=>∃ i:Nat,s=(i:Int)/\i<=l.length) (fun s=>l.length - s.toNat) ?_ ⟨0,rfl,aFf _⟩
  rintro _ ⟨i,rfl,hi⟩
  show Ok (C3.l1 l l (i:Int)) _
  unfold C3.l1
  refine Ok.cond (fun hb=>?_) (fun hb=>?_)
  ·have hil:i < l.length:=by have:=aCe hb; omega
   obtain⟨r,hr⟩:∃ r,l[i]?=some r:=⟨_,aAy hil⟩
   rw [Cr,hr,aAc,aAc,aAg rfl,aHz,aD6,Db (by omega)]
   exact Ok.ret ⟨⟨i + 1,by omega,hil⟩,by show l.length - ((i:Int) + 1).toNat < l.length - ((i:Int)).toNat; omega⟩
  ·exact Ok.up (Ok.ret rfl)
 rw [c1,aAc,aD6,c2,aAc,c3,aAc,aHz,aD6]
 refine Ok.bind (qR (by omega) (fun r hr=>(hfwd r hr).1) (by omega)) fun M hM=>?_
 have l5:∀ (i:Nat) (e:Ac),i < l.length->l[i]?=some e->∀ out:List Ac,out.length<=i->Ok (B1 (fun q'=>Bl.l5 (n:Int) M (i:Int) out e q'.1 q'.2) (false,0)) (fun o:Lp (Int×List Ac) ((List Ac)×Int)=>o=.next (((i + 1:Nat):Int),out ++ [e].filter (Tf n l))):=by
  intro i e hi he out ho
  have q:=hfwd e (aG3 he)
  obtain⟨a,ha⟩:∃ a:Nat,e.First=(a:Int):=⟨e.First.toNat,by omega⟩
  obtain⟨b,hb⟩:∃ b:Nat,e.Then=(b:Int):=⟨e.Then.toNat,by omega⟩
  refine Ok.loop (fun s:Bool×Int=>∃ k:Nat,s.2=(k:Int)/\k<=n/\s.1=(List.range k).any fun k=>D3 (Gp l) n a k && D3 (Gp l) n k b) (fun s=>n - s.2.toNat) ?_ ⟨0,rfl,aFf _,rfl⟩
  rintro⟨_,_⟩ ⟨k,rfl,hk,rfl⟩
  show Ok (Bl.l5 (n:Int) M (i:Int) out e ((List.range k).any fun k=>D3 (Gp l) n a k && D3 (Gp l) n k b) (k:Int)) _
  unfold Bl.l5
  refine Ok.cond (fun hc=>?_) (fun hc=>?_)
  ·have hkn:k < n:=by have:=aCe hc; omega
   have fin:∀ x:Bool,x=((List.range (k + 1)).any fun k=>D3 (Gp l) n a k && D3 (Gp l) n k b)->Ok (Bl.j6 (k:Int) x) (S6 (fun s':Bool×Int=>(∃ k:Nat,s'.2=(k:Int)/\k<=n/\s'.1=(List.range k).any fun k=>D3 (Gp l) n a k && D3 (Gp l) n k b)/\n - s'.2.toNat < n - ((k:Int)).toNat) (fun o:Lp (Int×List Ac) ((List Ac)×Int)=>o=.next (((i + 1:Nat):Int),out ++ [e].filter (Tf n l)))):=by
    intro x hx
    unfold Bl.j6
    rw [Db (by omega)]
    exact Ok.ret ⟨⟨k + 1,by show (k:Int) + 1=_; omega,hkn,hx⟩,by show n - ((k:Int) + 1).toNat < n - ((k:Int)).toNat; omega⟩
   refine Ok.cond (fun h1=>fin _ ?_) (fun h1=>?_)
   ·rw [aMc,aOm,h1]; rfl
   ·rw [ha,hb,hM a k (by omega) hkn,hM k b hkn (by omega)]
    refine Ok.cond (fun h2=>fin _ ?_) (fun h2=>fin _ ?_)
    ·rw [aMc,aOm,h1]; simp [h2]
    ·rw [aMc,aOm,h1]; simp [h2]
  ·have hkn:k=n:=by have:=aDs hc; omega
   subst hkn
   have hke:Tf k l e=!((List.range k).any fun j=>D3 (Gp l) k a j && D3 (Gp l) k j b):=by
    unfold Tf
    rw [ha,hb]; rfl
   unfold Bl.j7
   rw [Db (by omega),<- hke]
   refine Ok.up (Ok.cond (fun h1=>?_) (fun h1=>?_))
   ·rw [Fv (by simp; omega),aAc]
    refine Ok.ret ?_
    rw [aPs h1]; rfl
   ·refine Ok.ret ?_
    rw [aPt (by rw [h1]; decide)]
    simp
 have l4:Ok (B1 (fun q'=>Bl.l4 (n:Int) l M q'.1 q'.2) (0,([]:List Ac))) (fun y=>y=(red n l,0)):=by
  refine Ok.loop (fun s:Int×List Ac=>∃ i:Nat,s.1=(i:Int)/\i<=l.length/\s.2=(l.take i).filter (Tf n l)) (fun s=>l.length - s.1.toNat) ?_ ⟨0,rfl,aFf _,rfl⟩
  rintro⟨_,_⟩ ⟨i,rfl,hi,rfl⟩
  show Ok (Bl.l4 (n:Int) l M (i:Int) ((l.take i).filter (Tf n l))) _
  unfold Bl.l4
  refine Ok.cond (fun hb=>?_) (fun hb=>?_)
  ·have hil:i < l.length:=by have:=aCe hb; omega
   obtain⟨r,hr⟩:∃ r,l[i]?=some r:=⟨_,aAy hil⟩
   rw [Cr,hr,aAc]
   refine (l5 i r hil hr _ (aH4 (aO3 _ _) (by rw [aGn]; omega))).mono fun o ho=>?_
   subst ho
   refine⟨⟨i + 1,rfl,hil,?_⟩,by show l.length - (((i + 1:Nat):Int)).toNat < l.length - ((i:Int)).toNat; omega⟩
   show _ ++ _=_
   rw [Hf hr,aPu]
  ·have hil:i=l.length:=by have:=aDs hb; omega
   subst hil
   rw [aKf]
   exact Ok.up (Ok.ret rfl)
 refine Ok.loop (fun s:Int=>∃ k:Nat,s=(k:Int)/\k<=n/\∀ j,j < k->D3 (Gp l) n j j=false) (fun s=>n - s.toNat) ?_ ⟨0,rfl,aFf _,fun j hj=>by omega⟩
 rintro _ ⟨k,rfl,hk,hd⟩
 show Ok (Bl.l3 (n:Int) l M (k:Int)) _
 unfold Bl.l3
 refine Ok.cond (fun hb=>?_) (fun hb=>?_)
 ·have hkn:k < n:=by have:=aCe hb; omega
  rw [hM k k hkn hkn]
  refine Ok.cond (fun h1=>Ok.up (Ok.ret (.inr ⟨rfl,k,hkn,h1⟩))) (fun h1=>?_)
  rw [Db (by omega)]
  refine Ok.ret ⟨⟨k + 1,by omega,hkn,fun j hj=>?_⟩,by show n - ((k:Int) + 1).toNat < n - ((k:Int)).toNat; omega⟩
  by_cases e:j=k
  ·rw [e]; exact h1
  ·exact hd j (by omega)
 ·have hkn:k=n:=by have:=aDs hb; omega
  subst hkn
  exact Ok.up (l4.mono fun y hy=>.inl ⟨hy,hd⟩)
end
end Go.Proofs.YtkioneinddihlaaGreat
