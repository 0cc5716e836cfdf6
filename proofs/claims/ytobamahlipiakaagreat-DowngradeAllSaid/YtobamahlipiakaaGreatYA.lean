import Derived.Test.YtobamahlipiakaaGreatY7
import Derived.Test.YtobamahlipiakaaGreatOW
import Derived.Test.YtobamahlipiakaaGreatT1
set_option autoImplicit false
set_option linter.unusedVariables false
set_option linter.unusedSimpArgs false
set_option maxRecDepth 100000
namespace Go.Proofs.YtobamahlipiakaaGreat
open Go
theorem rH:∀ l:List Int,Le (Ai (eK .u16) l)->∀ n∈l,0<=n/\n<=65535
 | [],_,n,hn=>by cases hn
 | x :: l,h,n,hn=>by
  have h':Le (.int .u16 x :: Ai (eK .u16) l):=h
  unfold Le at h'
  rcases aF2.1 hn with rfl | hn
  ·exact h'.1
  ·exact rH l h'.2 n hn
theorem aDg {c e:Ac} (hc:Ul c) (he:Ul e) {day:Int} (hd:0<=day/\day<=40000):H5 c e day=some (Is c e day c.Most c.Suites):=by
 have v1:=hc.v.least
 have v2:=hc.v.most
 have v3:=hc.v.most4
 unfold H5
 rw [show max 1 (min 4 c.Most)=c.Most by omega,bE hc he hd (by omega) hc.f.suites]
 rfl
theorem Z7 (t:List Int) (parts:List Int) (hok:jY [.sl 1 (Ai eI t),.sl 1 (Ai (eK .u16) parts)]):A3 t parts=some true:=by
 have hpr:∀ n∈parts,0<=n/\n<=65535:=by
  simp only [aAx,aL2] at hok
  exact rH parts hok.2.1.2
 have j1:A3.j1 t parts true=some true:=by
  unfold A3.j1
  rw [aEa,Ng]; rfl
 unfold A3 G4
 rw [aAg]
 by_cases hl:(t.length:Int)<=400
 ·rw [aA4 hl,aHl,aDb]
  by_cases hpl:20 < (parts.length:Int)
  ·rw [aA4 hpl]; exact j1
  rw [aAw hpl]
  unfold A3.j1
  rw [aDb]
  refine Ok.true_ ?_
  refine Ok.bind (fQ (by omega)) fun d hd=>?_
  refine Ok.bind (Yz hd) fun y4 h4=>?_
  refine Ok.bind (Io h4.2.2 _ (by decide) (by decide)) fun y5 h5=>?_
  have hc:=h4.1.ep
  have he:=h4.2.1.ep
  have v1:=hc.v.least
  have v2:=hc.v.most
  have v3:=hc.v.most4
  have sn:=h4.1.sn
  have hw:0<=y5.1/\y5.1<=512:=by
   have:=h5.1
   simp only [aF2,aF6,aQe] at this
   rcases this with e | e | e <;> rw [e] <;> decide
  have N0:∀ (weak:Int) (o:Ap),0<=weak/\weak<=512->(∃ w∈Gz y4.1 y4.2.1 15 weak,w.Outcome=o)->Gg y4.1 y4.2.1 15 weak o=some (true,0):=fun weak o hwk ⟨w,hw1,hw2⟩=>by
   rw [xB (bZ hc he (by omega) hwk) (U9 hc.v 15 weak)]
   rw [show ((Gz y4.1 y4.2.1 15 weak).any fun w=>decide (w.Outcome=o))=true from aL5.2 ⟨w,hw1,aA4 hw2⟩]
  refine Ok.loop (fun i:Int=>0<=i/\i<=parts.length) (fun i=>((parts.length:Int) - i).toNat) ?_ (by omega)
  intro i hi
  show Ok (A3.l2 parts y4 y5 i) _
  unfold A3.l2
  refine Ok.cond (fun hb=>?_) (fun _=>Ok.up ?_)
  ·have hb:i < parts.length:=aEk hb
   refine Ok.bind (Pl hi.1 hb) fun x hx=>?_
   have hx0:=hpr x hx
   have j7:A3.j7 i=some (.next (i + 1)):=by
    unfold A3.j7
    rw [Ej (by omega)]
   have nxt:∀ {o:Option (Lp Int Bool)},o=some (.next (i + 1))->Ok o (Rd' (fun s':Int=>(0<=s'/\s'<=parts.length)/\((parts.length:Int) - s').toNat < ((parts.length:Int) - i).toNat) (fun r=>r=true)):=fun {o} h=>by
    rw [h]
    exact Ok.ret ⟨by omega,by omega⟩
   rw [Ej (x:=x) (by omega),Ej (x:=y4.1.Most - y4.1.Least) (by omega),Ej (by omega)]
   refine Ok.bind (Q:=fun q=>0<=q/\q<=y4.1.Most - y4.1.Least) ⟨x.tmod (y4.1.Most - y4.1.Least + 1),by unfold Vk; rw [if_neg (by omega)],bA4 _ hx0.1,by
    have:=bA6 x (show 0 < y4.1.Most - y4.1.Least + 1 by omega)
    omega⟩ fun q hq=>?_
   refine Ok.loop (fun s:Int×List Int=>(0<=s.1/\s.1<=y4.1.Suites.length)/\(s.2.length:Int)<=s.1/\∀ n∈s.2,n∈y4.1.Suites) (fun s=>((y4.1.Suites.length:Int) - s.1).toNat) ?_ ⟨⟨aXi _,by show (0:Int)<=_; omega⟩,aXi _,fun n hn=>by cases hn⟩
   rintro⟨k,part⟩ ⟨h1,h2,h3⟩
   dsimp only at h1 h2 h3
   show Ok (A3.l3 y4 y5 i x q k part) _
   unfold A3.l3
   refine Ok.cond (fun hbk=>?_) (fun _=>Ok.up ?_)
   ·have hbk:k < y4.1.Suites.length:=aEk hbk
    have m1:=bA4 12 h1.1
    have m2:=bA6 k (show (0:Int) < 12 by omega)
    refine Ok.bind (Q:=fun r=>r=k.tmod 12) ⟨_,by unfold Vk; rw [if_neg (by omega)],rfl⟩ fun r hr=>?_
    subst hr
    rw [Ej (x:=x) (by omega),Ej (x:=2 + k.tmod 12) (by omega),Sv (by omega)]
    refine Ok.bind (Q:=fun _=>True) ⟨_,by unfold Rn; rw [if_neg (by omega)],trivial⟩ fun r2 _=>?_
    have j4:∀ p',A3.j4 k p'=some (.next (k + 1,p')):=fun p'=>by
     unfold A3.j4
     rw [Ej (by omega)]
    refine Ok.cond (fun _=>?_) (fun _=>?_)
    ·refine Ok.bind (Pl h1.1 hbk) fun x2 hx2=>?_
     refine Ok.bindE (D1 (by rw [aF7]; omega)) ?_
     rw [j4]
     refine Ok.ret ⟨⟨by show 0<=k + 1/\k + 1<=_; omega,by show ((part ++ [x2]).length:Int)<=k + 1; rw [aF3,aF7]; omega,fun n hn=>?_⟩,by show ((y4.1.Suites.length:Int) - (k + 1)).toNat < ((y4.1.Suites.length:Int) - k).toNat; omega⟩
     rcases aHs.1 hn with hn | hn
     ·exact h3 n hn
     ·rw [aF4.1 hn]; exact hx2
    ·rw [j4]
     exact Ok.ret ⟨⟨by show 0<=k + 1/\k + 1<=_; omega,by show (part.length:Int)<=k + 1; omega,h3⟩,by show ((y4.1.Suites.length:Int) - (k + 1)).toNat < ((y4.1.Suites.length:Int) - k).toNat; omega⟩
   ·rw [Ej (by omega)]
    refine Ok.bindE (bE hc he (by omega) (by omega) (by unfold Lo; omega)) ?_
    refine Ok.bindE (Qb _) ?_
    have j5:∀ y6,A3.j5 y4 y5 i y6 true=some (.next (i + 1)):=fun y6=>j7
    refine Ok.cond (fun _=>nxt (j5 _)) (fun h6=>?_)
    refine Ok.cond (fun _=>nxt (j5 _)) (fun h7=>?_)
    refine Ok.bindE (Oq _) ?_
    by_cases hs:y5.1<=H8 (Nw (Is y4.1 y4.2.1 15 (y4.1.Least + q) part).1.Suite).1.Mac
    ·rw [aA4 hs]; exact nxt (j5 _)
    ·rw [aAw hs]
     unfold A3.j5
     have h60:(Is y4.1 y4.2.1 15 (y4.1.Least + q) part).2=0:=by simpa using h6
     have ew:Is y4.1 y4.2.1 15 (y4.1.Least + q) part=((Is y4.1 y4.2.1 15 (y4.1.Least + q) part).1,0):=by rw [<- h60]
     rw [aDb,N0 y5.1 _ hw (aIh (by omega) (by omega) h3 ew (by omega)),aAg]
     exact nxt j7
  ·refine Ok.bindE (aDg hc he (by omega)) ?_
   refine Ok.cond (fun h=>?_) (fun _=>by rw [Ng]; exact⟨true,rfl,rfl⟩)
   have h0:(Is y4.1 y4.2.1 15 y4.1.Most y4.1.Suites).2=0:=aEk h
   have ew:Is y4.1 y4.2.1 15 y4.1.Most y4.1.Suites=((Is y4.1 y4.2.1 15 y4.1.Most y4.1.Suites).1,0):=by rw [<- h0]
   rw [N0 0 _ (by omega) (aLk v2 ew),aAg,Ng]
   exact⟨true,rfl,rfl⟩
 ·rw [aAw hl,aR0,aEa]
  exact j1
end Go.Proofs.YtobamahlipiakaaGreat
