import Derived.Test.YtobamahlipiakaaGreatY7
set_option autoImplicit false
set_option linter.unusedVariables false
set_option linter.unusedSimpArgs false
set_option maxRecDepth 100000
namespace Go.Proofs.YtobamahlipiakaaGreat
open Go
theorem Yt (t:List Int) (odd:UInt8) (raw:Ap):B3 t odd raw=some true:=by
 unfold B3 G4
 rw [aAg]
 by_cases hl:(t.length:Int)<=400
 ·rw [aA4 hl,aHl,aDb]
  refine Ok.true_ ?_
  refine Ok.bind (fQ (by omega)) fun d hd=>?_
  refine Ok.bind (Yz hd) fun y4 h4=>?_
  refine Ok.bind (lE h4.2.2) fun y5 h5=>?_
  refine Ok.bind (mC h5.2) fun y6 h6=>?_
  refine Ok.bind (P8 h6.2 (by decide +kernel) (by decide) (by decide) (by decide +kernel)) fun y7 h7=>?_
  refine Ok.bind (P8 h7.2 (by decide +kernel) (by decide) (by decide) (by decide +kernel)) fun y8 h8=>?_
  refine Ok.bind (Io h8.2 _ (by decide) (by decide)) fun y9 h9=>?_
  refine Ok.bind (Io h9.2 _ (by decide) (by decide)) fun y10 h10=>?_
  have fx:∀ x∈([y7.1,y8.1]:List Ah),Qf x:=fun x hx=>by
   simp only [aF2,aF6,aQe] at hx
   rcases hx with rfl | rfl
   ·exact h7.1.1
   ·exact h8.1.1
  have fin:∀ (day weak:Int) (d':Ad) (c e:Ac) (xs:List Ah) (rs:List Aw),L5 d'->Pt c->Pt e->(∀ x∈xs,Qf x)->xs.length<=1000->rs.length<=1000->Ok (B3.j1 odd raw y5 y6 day weak d' c e xs rs) (fun r=>r=true):=fun day weak d' c e xs rs hd' fc fe fxs hn hr=>by
   have hP:Xy ⟨rs,y5.1.Keeps⟩:=⟨by show rs.length<=_; omega,by show y5.1.Keeps.length<=_; have:=h5.1.2.1; omega⟩
   obtain⟨a,a1,a2,a3,a4,-,a6⟩:=tR fc fe day weak
   obtain⟨u,u1,u2,-,u4,u5⟩:=aL hP fxs hn h6.1 fc fe day weak
   have fin4:∀ o,B3.j4 y5 y6 day weak c e xs rs a a u u o=some true:=fun o=>by
    obtain⟨f,f1,f2,-⟩:=Su hP fxs hn h6.1 fe o day
    unfold B3.j4
    rw [xB a1 a3,aAg,aGv a2 a3 a4,aAg,f1,aAg,f2,aAg]
    simp only [decide_true,aEa]
    rw [lN a.1 a3 a6,aAg,aEa,lN u.1 u4 u5,aAg,aEa,Ng]
    rfl
   unfold B3.j1
   rw [a1,aAg,a2,aAg,u1,aAg,u2,aAg]
   refine Ok.bind (Hh hd' 4 (by omega) (by omega)) fun y19 h19=>?_
   refine Ok.bind (Hh h19.2 16 (by omega) (by omega)) fun y20 h20=>?_
   refine Ok.bind (Q:=fun _=>True) ⟨_,rfl,trivial⟩ fun q hq=>?_
   exact Ok.cond (fun _=>⟨_,fin4 _,rfl⟩) (fun _=>⟨_,fin4 _,rfl⟩)
  have hr:y5.1.Rules.length<=1000:=by have:=h5.1.1; omega
  have hc:=h4.1.ep.f
  have he:=h4.2.1.ep.f
  refine Ok.bind (Q:=fun _=>True) ⟨_,rfl,trivial⟩ fun q hq=>?_
  refine Ok.cond (fun _=>Ok.bind (aJs h10.2 h4.1) fun y k=>fin _ _ _ _ _ _ _ k.2 k.1 he fx (by show (2:Nat)<=1000; decide) hr) (fun _=>?_)
  refine Ok.cond (fun _=>Ok.bind (aJs h10.2 h4.2.1) fun y k=>fin _ _ _ _ _ _ _ k.2 hc k.1 fx (by show (2:Nat)<=1000; decide) hr) (fun _=>?_)
  refine Ok.cond (fun _=>Ok.bind (Io h10.2 _ (by decide) (by decide)) fun y k=>fin _ _ _ _ _ _ _ k.2 hc he fx (by show (2:Nat)<=1000; decide) hr) (fun _=>?_)
  refine Ok.cond (fun _=>Ok.bind (Io h10.2 _ (by decide) (by decide)) fun y k=>fin _ _ _ _ _ _ _ k.2 hc he fx (by show (2:Nat)<=1000; decide) hr) (fun _=>?_)
  refine Ok.cond (fun _=>Ok.bindE (D1 (by rw [aF7]; omega)) (fin _ _ _ _ _ _ _ h10.2 hc he fx (by show (2:Nat)<=1000; decide) (by rw [aF3,aF7]; have:=h5.1.1; omega))) (fun _=>?_)
  refine Ok.cond (fun _=>?_) (fun _=>fin _ _ _ _ _ _ _ h10.2 hc he fx (by show (2:Nat)<=1000; decide) hr)
  refine Ok.bind (Q:=fun e=>e=y7.1) ⟨y7.1,rfl,rfl⟩ fun e he'=>?_
  subst he'
  refine fin _ _ _ _ _ _ _ h10.2 hc he (fun x hx=>?_) (by show (2:Nat)<=1000; decide) hr
  have k7:=h7.1.1
  replace hx:x∈([⟨y7.1.Use,0,y7.1.Endpoint,y7.1.Days,y7.1.Seals⟩,y8.1]:List Ah):=hx
  simp only [aF2,aF6,aQe] at hx
  rcases hx with rfl | rfl
  ·exact⟨k7.nam,k7.len,k7.alg,k7.bits,(by show (-9223372036854775808:Int)<=0/\(0:Int)<=9223372036854775807; omega),k7.frm,k7.to⟩
  ·exact h8.1.1
 ·rw [aAw hl,aR0,aEa,Ng]
  rfl
end Go.Proofs.YtobamahlipiakaaGreat
