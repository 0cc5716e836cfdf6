import Derived.Test.YtobamahlipiakaaGreatYB
set_option autoImplicit false
set_option linter.unusedVariables false
set_option linter.unusedSimpArgs false
set_option maxRecDepth 100000
namespace Go.Proofs.YtobamahlipiakaaGreat
open Go
noncomputable def Te (F:Int->Bool×Int) (l:List Int):List Int:=l.filter fun n=>decide ((F n).2=0) && !(F n).1
theorem aE8 (F:Int->Bool×Int) {l:List Int} (h:∀ i,dY l i) (i:Nat):dY (Te F l) i:=by
 unfold Te
 refine bD ((rJ h).sublist bBo) (fun x hx=>?_) i
 obtain⟨k,hk,e⟩:=aUb (aVk.1 hx).1
 exact (h k x (by rw [aCv hk,e])).1
theorem Xx (t:List Int):A8 t=some true:=by
 unfold A8 G4
 rw [aAg]
 by_cases hl:(t.length:Int)<=400
 ·rw [aA4 hl,aHl,aDb]
  refine Ok.true_ ?_
  refine Ok.bind (fQ (by omega)) fun d hd=>?_
  refine Ok.bind (Yz hd) fun y4 h4=>?_
  refine Ok.bind (lE h4.2.2) fun y5 h5=>?_
  refine Ok.bind (mC h5.2) fun y6 h6=>?_
  refine Ok.bind (Io h6.2 _ (by decide) (by decide)) fun y7 h7=>?_
  have hc:=h4.1.ep
  have he:=h4.2.1.ep
  have v2:=hc.v.most
  have sn:=h4.2.1.sn
  have hw:0<=y7.1/\y7.1<=512:=by
   have:=h7.1
   simp only [aF2,aF6,aQe] at this
   rcases this with e | e | e | e <;> rw [e] <;> decide
  have hP:Xy y5.1:=⟨by have:=h5.1.1; omega,by have:=h5.1.2.1; omega⟩
  have fx:∀ x∈([]:List Ah),Qf x:=fun x hx=>by cases hx
  have hk:∀ x∈y4.2.1.Identities,0 < H8 x.Key:=fun x hx=>(he.shows hx).1
  obtain⟨A,hA⟩:∃ A:Ao->Bool×Int,A=fun u=>Uw y5.1 [] y6.1 u 1 y4.2.1.Name 15:=⟨_,rfl⟩
  have ha:∀ u,0 < H8 u->(A u).2=0:=fun u hu=>by rw [hA]; exact aHf h5.1.2.2 (by omega) u hu
  obtain⟨F,hF⟩:∃ F:Int->Bool×Int,F=M9 A y4.2.1:=⟨_,rfl⟩
  obtain⟨r,r1,-,r3,-⟩:=aL hP fx (by decide) h6.1 hc.f he.f 15 y7.1
  have r3:=r3 hc he (by omega) hw
  rw [<- hA,<- hF] at r3
  refine Ok.bindE r1 ?_
  refine Ok.bindE (aEt h4.2.1) ?_
  have hr0:r.2=0:=by rw [r3,hF]; exact yW ha hk v2
  have hforb:∀ n,By y5.1 [] y6.1 y4.2.1 ⟨3,n⟩ 15=some (F n):=fun n=>by
   obtain⟨f,f1,-,f3⟩:=Su hP fx (by decide) h6.1 he.f ⟨3,n⟩ 15
   rw [f1,f3 he,hF,hA]
  have hcase:∀ n∈y4.2.1.Suites,(F n=(false,4)/\¬ 0<=P4 y4.2.1 n)\/((F n).2=0/\0<=P4 y4.2.1 n):=fun n hn=>by
   obtain⟨k,hk',e⟩:=aUb hn
   have hs:=aBz (he.v.suites k n (by rw [aCv hk',e])).1
   by_cases hi:0<=P4 y4.2.1 n
   ·exact .inr ⟨by rw [hF]; exact qZ ha hk hi,hi⟩
   ·exact .inl ⟨by rw [hF]; exact aFd hs hi,hi⟩
  refine⟨true,?_,rfl⟩
  refine (Uc (body:=fun q':Bool×Int×List Int=>A8.l2 y4 y5 y6 y7 r y4.2.1 q'.1 q'.2.1 q'.2.2) (X:=fun s:Bool×List Int=>A8.l2 y4 y5 y6 y7 r y4.2.1 s.1 (y4.2.1.Suites.length:Int) s.2 |>.bind fun o=>match o with | .done b=>some b | .next _=>none) y4.2.1.Suites (fun i s=>(s.1,(i:Int),s.2)) (fun s n=>bif decide ((F n).2=4) then s else (s.1 || ((F n).1 && decide (n∈y4.1.Suites)),bif (F n).1 then s.2 else s.2 ++ [n])) (fun i s=>s.2.length<=i/\s.2=Te F (y4.2.1.Suites.take i)/\s.1=(y4.2.1.Suites.take i).any fun n=>(F n).1 && decide (n∈y4.1.Suites)) (s0:=(false,[])) ⟨aJf _,rfl,rfl⟩ (fun i n s hx hp=>?_) (fun s hp=>?_)).trans ?_
  ·have hi:=G3 hx
   obtain⟨bad,l⟩:=s
   obtain⟨p1,p2,p3⟩:=hp
   dsimp only at p1 p2 p3
   have htk:y4.2.1.Suites.take (i + 1)=y4.2.1.Suites.take i ++ [n]:=I9 hx
   have j4:∀ (b:Bool) (l':List Int),A8.j4 (i:Int) b l'=some (.next (b,((i + 1:Nat):Int),l')):=fun b l'=>by
    unfold A8.j4
    rw [Fo (by omega)]
   have hl2:A8.l2 y4 y5 y6 y7 r y4.2.1 bad (i:Int) l=_:=rfl
   have step:A8.l2 y4 y5 y6 y7 r y4.2.1 bad (i:Int) l=(cond (decide ((F n).2=4)) (A8.j4 (i:Int) bad l)
     (cond (!decide ((F n).2=0)) (up (some false)) (cond bad (A8.j3 (i:Int) l n (F n) true) (cond (F n).1 ((Dv y4.1.Suites n).bind fun y_11=>A8.j3 (i:Int) l n (F n) y_11) (A8.j3 (i:Int) l n (F n) false))))):=by
    unfold A8.l2
    rw [Dz hx,hforb,aAg]
   have j3:∀ b,A8.j3 (i:Int) l n (F n) b=some (.next (b,((i + 1:Nat):Int),bif (F n).1 then l else l ++ [n])):=fun b=>by
    unfold A8.j3
    rw [D1 (by rw [aF7]; omega),aAg,j4,j4]
    cases (F n).1 <;> rfl
   rcases hcase n (Fr hx) with ⟨q1,-⟩ | ⟨q1,-⟩
   ·have e4:decide ((F n).2=4)=true:=by rw [q1]; rfl
    refine⟨?_,?_,?_,?_⟩
    ·show A8.l2 y4 y5 y6 y7 r y4.2.1 bad (i:Int) l=_
     rw [step,e4,aEa,j4]; rfl
    ·rw [e4]; show l.length<=i + 1; omega
    ·rw [e4,htk]
     show l=_
     unfold Te at p2 ⊢
     rw [aZr,<- p2,show List.filter (fun n=>decide ((F n).2=0) && !(F n).1) [n]=[] by rw [bAo,q1]; rfl,aVv]
    ·rw [e4,htk,bBn,<- p3]
     show bad=_
     rw [aS9,q1]
     simp
   ·have e4:decide ((F n).2=4)=false:=by rw [q1]; rfl
    refine⟨?_,?_,?_,?_⟩
    ·show A8.l2 y4 y5 y6 y7 r y4.2.1 bad (i:Int) l=_
     rw [step,e4,aDb,aA4 q1,aHl,aDb,Nr _ _ hc.f.suites,aAg,j3,j3,j3]
     cases bad with
     | true=>rfl
     | false=>cases (F n).1 <;> rfl
    ·rw [e4]
     show (bif (F n).1 then l else l ++ [n]).length<=i + 1
     cases (F n).1 with
     | true=>rw [aEa]; omega
     | false=>rw [aDb,aF3,aF7]; omega
    ·rw [e4,htk]
     show (bif (F n).1 then l else l ++ [n])=_
     unfold Te at p2 ⊢
     rw [aZr,<- p2,bAo,q1]
     cases (F n).1 with
     | true=>simp
     | false=>simp
    ·rw [e4,htk,bBn,<- p3,aS9,bBh,Bool.or_false]
     rfl
  ·show A8.l2 y4 y5 y6 y7 r y4.2.1 s.1 (y4.2.1.Suites.length:Int) s.2=_
   unfold A8.l2
   rw [Cy]
   generalize ((C1 y4.1 _ y5.1 ([]:List Ah) y6.1 15 y7.1).bind _:Option Bool)=z
   cases z <;> rfl
  ·have hfold:y4.2.1.Suites.foldl (fun (s:Bool×List Int) n=>bif decide ((F n).2=4) then s else (s.1 || ((F n).1 && decide (n∈y4.1.Suites)),bif (F n).1 then s.2 else s.2 ++ [n])) (false,[])=(y4.2.1.Suites.any (fun n=>(F n).1 && decide (n∈y4.1.Suites)),Te F y4.2.1.Suites):=by
    have key:∀ (l:List Int) (b:Bool) (o:List Int),(∀ n∈l,F n=(false,4)\/(F n).2=0)->l.foldl (fun (s:Bool×List Int) n=>bif decide ((F n).2=4) then s else (s.1 || ((F n).1 && decide (n∈y4.1.Suites)),bif (F n).1 then s.2 else s.2 ++ [n])) (b,o)=(b || l.any (fun n=>(F n).1 && decide (n∈y4.1.Suites)),o ++ Te F l):=by
     intro l
     induction l with
     | nil=>intro b o _; simp [Te]
     | cons n l ih=>
      intro b o h
      rw [aTi]
      have hl':∀ m∈l,F m=(false,4)\/(F m).2=0:=fun m hm=>h m (aHu _ hm)
      rcases h n (aI4 ..) with q | q
      ·rw [show decide ((F n).2=4)=true by rw [q]; rfl,aEa,ih b o hl']
       unfold Te
       rw [aS9,bAo,q]
       simp
      ·rw [show decide ((F n).2=4)=false by rw [q]; rfl,aDb,ih _ _ hl']
       unfold Te
       rw [aS9,bAo,aA4 q,Bool.or_assoc]
       cases (F n).1 with
       | true=>simp
       | false=>simp
    have:=key y4.2.1.Suites false [] (fun n hn=>(hcase n hn).elim (fun q=>.inl q.1) fun q=>.inr q.1)
    rw [aZk,aSw] at this
    exact this
   rw [hfold]
   have ht:=h4.2.1.suites (l:=Te F y4.2.1.Suites) (aOt (aUn _ _) sn) (aE8 F he.v.suites)
   obtain⟨T,hT⟩:∃ T:Ac,T=⟨y4.2.1.Name,y4.2.1.Least,y4.2.1.Most,Te F y4.2.1.Suites,y4.2.1.OwnOrder,y4.2.1.Identities,y4.2.1.Anchors,y4.2.1.Hashes,y4.2.1.Fallback⟩:=⟨_,rfl⟩
   rw [<- hT] at ht
   obtain⟨v,w1,-,w3,-⟩:=aL hP fx (by decide) h6.1 hc.f ht.ep.f 15 y7.1
   have w3:=w3 hc ht.ep (by omega) hw
   have hTi:T.Identities=y4.2.1.Identities:=by rw [hT]
   have hTn:T.Name=y4.2.1.Name:=by rw [hT]
   have hTs:T.Suites=Te F y4.2.1.Suites:=by rw [hT]
   have hv:v=([],0):=by
    rw [w3,hTn,<- hA]
    refine mI ha (fun x hx=>hk x (by rw [<- hTi]; exact hx)) v2 fun n hn _ _=>?_
    rw [uL hTi,<- hF]
    rw [hTs] at hn
    have:=(aVk.1 hn).2
    rw [aF1,aR1] at this
    exact this.2
   unfold A8.l2
   rw [Cy]
   dsimp only
   rw [<- hT,w1,aAg,hv,hr0]
   cases hbad:(y4.2.1.Suites.any fun n=>(F n).1 && decide (n∈y4.1.Suites)) with
   | true=>
    simp only [decide_true,aEa]
    rw [show decide (((([]:List Aa).length:Nat):Int)=0)=true from rfl,aEa,Ng]
    rfl
   | false=>
    have hr:r.1=[]:=by
     rw [r3,hF]
     have:=mI ha hk v2 (day:=15) (weak:=y7.1) (c:=y4.1) (fun n hn hcn _=>by
      have:=aR8.1 hbad n hn
      rw [aA4 hcn,Bool.and_true,hF] at this
      cases hq:(M9 A y4.2.1 n).1 with
      | false=>rfl
      | true=>rw [hq] at this; exact absurd rfl this)
     rw [this]
    rw [hr]
    simp only [decide_true,aEa,aDb]
    rw [show decide (((([]:List Aa).length:Nat):Int)=0)=true from rfl,aEa,aEa,Ng]
    rfl
 ·rw [aAw hl,aR0,aEa,Ng]
  rfl
end Go.Proofs.YtobamahlipiakaaGreat
