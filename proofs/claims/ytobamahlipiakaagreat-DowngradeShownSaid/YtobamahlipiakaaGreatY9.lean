import Derived.Test.YtobamahlipiakaaGreatY7
set_option autoImplicit false
set_option linter.unusedVariables false
set_option linter.unusedSimpArgs false
set_option maxRecDepth 100000
namespace Go.Proofs.YtobamahlipiakaaGreat
open Go
theorem rI (a b:List Int) (ha:Lo a):Dj a b=some (decide (a=b)):=by
 unfold Dj
 by_cases hl:a.length=b.length
 ·rw [aA4 (show (a.length:Int)=b.length by omega),aHl,aDb]
  refine (Tc (body:=fun q'=>Dj.l1 a b q') a.length (fun i=>(i:Int)) (fun i=>!decide (a.getD i 0=b.getD i 0)) false true (fun i hi=>?_) ?_).trans ?_
  ·obtain⟨x,hx⟩:∃ x,a[i]?=some x:=⟨_,aCv hi⟩
   obtain⟨y,hy⟩:∃ y,b[i]?=some y:=⟨_,aCv (by omega)⟩
   show Dj.l1 a b (i:Int)=_
   unfold Dj.l1
   rw [Dz hx,Ef,hy,aAg,Ph hx,Ph hy,Fo (by unfold Lo at ha; omega)]
   cases decide (x=y) <;> rfl
  ·show Dj.l1 a b (a.length:Int)=_
   unfold Dj.l1
   rw [Cy]; rfl
  ·congr 1
   cases hq:(List.range a.length).any fun i=>!decide (a.getD i 0=b.getD i 0) with
   | false=>
    rw [aDb]
    refine (aA4 (List.ext_getElem? fun i=>?_)).symm
    by_cases hi:i < a.length
    ·have:=aR8.1 hq i (aSn.2 hi)
     simp only [aR1,aXr,bBd,Bool.not_eq_true,bA8,aJc] at this
     rw [aR6,aR6,aCv hi,aCv (by omega:i < b.length)] at this
     rw [aCv hi,aCv (by omega:i < b.length)]
     exact congrArg some this
    ·rw [aQg (by omega),aQg (by omega)]
   | true=>
    rw [aEa]
    obtain⟨i,-,hi⟩:=aL5.1 hq
    refine (aAw fun e=>?_).symm
    rw [e,aA4 rfl] at hi
    cases hi
 ·rw [aAw (show ¬ (a.length:Int)=b.length by omega),aR0,aEa,aAw fun e=>hl (by rw [e])]
theorem Xh (t:List Int) (day:UInt8):Ax t day=some true:=by
 unfold Ax G4
 rw [aAg]
 by_cases hl:(t.length:Int)<=400
 ·rw [aA4 hl,aHl,aDb]
  refine Ok.true_ ?_
  refine Ok.bind (fQ (by omega)) fun d hd=>?_
  refine Ok.bind (Yz hd) fun y4 h4=>?_
  refine Ok.bind (Io h4.2.2 _ (by decide) (by decide)) fun y5 h5=>?_
  have hc:=h4.1.ep
  have he:=h4.2.1.ep
  have hday:0<=(day.toNat:Int)/\(day.toNat:Int)<=40000:=by have:=day.toNat_lt; omega
  have hw:0<=y5.1/\y5.1<=512:=by
   have:=h5.1
   simp only [aF2,aF6,aQe] at this
   rcases this with e | e | e | e <;> rw [e] <;> decide
  refine Ok.bindE (bZ hc he hday hw) ?_
  have hlen:=U9 (c:=y4.1) (e:=y4.2.1) hc.v (day.toNat:Int) y5.1
  have hasc:=aDr y4.1 y4.2.1 (day.toNat:Int) y5.1
  show Ok (Bz (fun q'=>Ax.l1 day y4 y5 (Gz y4.1 y4.2.1 (day.toNat:Int) y5.1,0) q') 0) _
  generalize hW:Gz y4.1 y4.2.1 (day.toNat:Int) y5.1=ws at hlen hasc
  refine⟨true,?_,rfl⟩
  refine Gs ws.length (fun i=>(i:Int)) true (fun i hi=>?_) ?_
  ·obtain⟨w,hx⟩:∃ w,ws[i]?=some w:=⟨_,aCv hi⟩
   have hm:=Fr hx
   rw [<- hW] at hm
   obtain⟨ho,hwith⟩:=V9 hm
   have hco:=Sp.1 hwith
   have hp:=Nh.1 hco.pos
   have v1:=hc.v.least
   have v2:=hc.v.most
   have v3:=hc.v.most4
   have o1:=ho.low v2
   have o2:=ho.top
   have hlo:Lo w.Suites:=xA hc _ _ w hm
   replace o1:y4.1.Least<=w.Most:=o1
   replace o2:w.Most<=y4.1.Most:=o2
   show Ax.l1 day y4 y5 (ws,0) (i:Int)=_
   have j5:Ax.j5 (i:Int)=some (.next ((i + 1:Nat):Int)):=by
    unfold Ax.j5
    rw [Fo (by omega)]
   have j4:Ax.j4 (i:Int) false=some (.next ((i + 1:Nat):Int)):=j5
   have j3:∀ b,(b=true\/∃ n∈y4.1.Suites,I3 y5.1 n=true/\w.Suites=[n])->Ax.j3 y4 y5 (i:Int) w (w.Outcome,0) b=some (.next ((i + 1:Nat):Int)):=fun b hb=>by
    unfold Ax.j3
    cases b with
    | true=>exact j5
    | false=>
     obtain⟨n,hn,hf,es⟩:∃ n∈y4.1.Suites,I3 y5.1 n=true/\w.Suites=[n]:=hb.elim (fun q=>by cases q) id
     have eo:w.Outcome.Suite=n:=by
      have:=hp.2.2.2.1
      rw [es,aF4] at this
      exact this
     unfold I3 at hf
     rw [aF1,aJc,aJc] at hf
     rw [aDb]
     show (Dn w.Outcome.Suite).bind _=_
     rw [Qb,aAg,eo,aA4 hf.1,aHl,aDb,es,show (!decide ((([n]:List Int).length:Int)=1))=false from rfl,aDb]
     show (Bm ([n]:List Int) 0).bind _=_
     rw [show Bm ([n]:List Int) 0=some n from rfl,aAg,Nr _ _ hc.f.suites,aAg,aA4 hn,aHl,aDb,Oq,aAg,aAw (by omega)]
     exact j4
   have j2:Ax.j2 y4 y5 (i:Int) w (w.Outcome,0) false=some (.next ((i + 1:Nat):Int)):=by
    unfold Ax.j2
    rw [aDb,rI _ _ hlo,aAg]
    rcases ho.how with ⟨q1,q2⟩ | q
    ·have q1:w.Suites=y4.1.Suites:=q1
     rw [aA4 q1,aEa]
     rcases q2 with q2 | q2
     ·have q2:w.Most=y4.1.Most:=q2
      rw [aA4 q2,aEa]
      exact j3 _ (.inl rfl)
     ·rw [q2]
      cases decide (w.Most=y4.1.Most) <;> exact j3 _ (.inl rfl)
    ·cases decide (w.Suites=y4.1.Suites) with
     | false=>exact j3 false (.inr q)
     | true=>
      cases decide (w.Most=y4.1.Most) with
      | true=>exact j3 _ (.inl rfl)
      | false=>exact j3 y4.1.Fallback (.inr q)
   unfold Ax.l1
   rw [Dz hx,bE hc he hday (by omega) hlo,aAg,hwith]
   show cond (!decide ((0:Int)=0)) _ (cond (!decide (w.Outcome=w.Outcome)) _ _)=_
   rw [aA4 rfl,aA4 rfl,aHl,aDb,aDb,aAw (by omega),aAw (by omega),aDb,aDb]
   by_cases h0:0 < i
   ·obtain⟨w0,hx0⟩:∃ w0,ws[i - 1]?=some w0:=⟨_,aCv (by omega)⟩
    have hlt:bY w0 w=true:=by
     have e0:=(aDx.1 hx0).2
     have e1:=(aDx.1 hx).2
     rw [<- e0,<- e1]
     exact aV6.1 hasc (i - 1) i (by omega) hi (by omega)
    rw [aA4 (by omega),aEa,Ej (by omega),show (i:Int) - 1=((i - 1:Nat):Int) by omega,Ef]
    show (ws[i - 1]?).bind _=_
    rw [hx0,aAg]
    unfold bY rS at hlt
    rw [aR9,aF1,aJc,aJc,aJc] at hlt
    rw [aAw (show ¬ w.Outcome.Version < w0.Outcome.Version by omega),aDb]
    by_cases hv:w0.Outcome.Version=w.Outcome.Version
    ·rw [aA4 hv,aEa,aAw (show ¬ w.Outcome.Suite<=w0.Outcome.Suite by omega)]
     exact j2
    ·rw [aAw hv,aDb]
     exact j2
   ·rw [aAw (by omega),aDb]
    exact j2
  ·show Ax.l1 day y4 y5 (ws,0) (ws.length:Int)=_
   unfold Ax.l1
   rw [Cy,Ng]
   rfl
 ·rw [aAw hl,aR0,aEa,Ng]
  rfl
end Go.Proofs.YtobamahlipiakaaGreat
