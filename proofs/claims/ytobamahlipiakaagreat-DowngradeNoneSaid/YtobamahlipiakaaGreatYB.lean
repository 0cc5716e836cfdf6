import Derived.Test.YtobamahlipiakaaGreatY7
set_option autoImplicit false
set_option linter.unusedVariables false
set_option linter.unusedSimpArgs false
set_option maxRecDepth 100000
namespace Go.Proofs.YtobamahlipiakaaGreat
open Go
theorem aB1 {c e:Ac} (hc:Ul c) (he:Ul e) {day:Int} (hd:0<=day/\day<=40000):H5 c e day=some (Is c e day c.Most c.Suites):=by
 have v1:=hc.v.least
 have v2:=hc.v.most
 have v3:=hc.v.most4
 unfold H5
 rw [show max 1 (min 4 c.Most)=c.Most by omega,bE hc he hd (by omega) hc.f.suites]
 rfl
theorem aBf {c e:Ac} (hc:Ul c) (he:Ul e):Ok (Cw c e) (fun l=>l.length<=1000/\∀ v n,Rq e c.Suites v n=true->max c.Least e.Least<=v->v<=min c.Most e.Most->1<=n->n<=16->(⟨v,n⟩:Ap)∈l):=by
 have c1:=hc.v.least
 have c2:=hc.v.most
 have c3:=hc.v.most4
 have e1:=he.v.least
 have e2:=he.v.most
 have e3:=he.v.most4
 unfold Cw
 rw [hc.checkR,he.checkR,aAg,aAg,show (!decide ((0:Int)=0))=false from rfl,aDb]
 unfold Cw.j1
 rw [aDb]
 refine Ok.loop (fun s:Int×List Ap=>(max c.Least e.Least<=s.1/\s.1<=5)/\(s.2.length:Int)<=100 * s.1/\∀ v n,Rq e c.Suites v n=true->max c.Least e.Least<=v->v < s.1->1<=n->n<=16->(⟨v,n⟩:Ap)∈s.2) (fun s=>(5 - s.1).toNat) ?_ ⟨⟨aXi _,by show max c.Least e.Least<=5; omega⟩,by show (0:Int)<=100 * max c.Least e.Least; omega,fun v n _ h1 h2=>by
  have h2:v < max c.Least e.Least:=h2
  omega⟩
 rintro⟨v0,out⟩ ⟨h1,h2,h3⟩
 dsimp only at h1 h2 h3
 show Ok (Cw.l2 c e v0 out) _
 unfold Cw.l2
 refine Ok.cond (fun hb=>?_) (fun hb=>Ok.up (Ok.ret ?_))
 ·have hb:v0<=min c.Most e.Most:=aEk hb
  refine Ok.loop (fun s:Int×List Ap=>(1<=s.1/\s.1<=17)/\(s.2.length:Int)<=100 * v0 + s.1/\∀ v n,Rq e c.Suites v n=true->max c.Least e.Least<=v->(v < v0\/(v=v0/\n < s.1))->1<=n->n<=16->(⟨v,n⟩:Ap)∈s.2) (fun s=>(17 - s.1).toNat) ?_ ⟨⟨by show (1:Int)<=1; omega,by show (1:Int)<=17; omega⟩,by show (out.length:Int)<=100 * v0 + 1; omega,fun v n q1 q2 q3 q4 q5=>by
   rcases q3 with q3 | ⟨-,q3⟩
   ·exact h3 v n q1 q2 q3 q4 q5
   ·have q3:n < 1:=q3
    omega⟩
  rintro⟨n0,o2⟩ ⟨k1,k2,k3⟩
  dsimp only at k1 k2 k3
  show Ok (Cw.l3 c e v0 n0 o2) _
  unfold Cw.l3
  refine Ok.cond (fun hn=>?_) (fun hn=>Ok.up (Ok.ret ?_))
  ·have hn:n0<=16:=aEk hn
   have j4:∀ o',Cw.j4 n0 o'=some (.next (n0 + 1,o')):=fun o'=>by
    unfold Cw.j4
    rw [Ej (by omega)]
   refine Ok.bindE (fN he.f hc.f.suites v0 n0) ?_
   refine Ok.cond (fun hp=>?_) (fun hp=>?_)
   ·refine Ok.bindE (D1 (by rw [aF7]; omega)) ?_
    rw [j4]
    refine Ok.ret ⟨⟨by show 1<=n0 + 1/\n0 + 1<=17; omega,by show ((o2 ++ [_]).length:Int)<=100 * v0 + (n0 + 1); rw [aF3,aF7]; omega,fun v n q1 q2 q3 q4 q5=>?_⟩,by show (17 - (n0 + 1)).toNat < (17 - n0).toNat; omega⟩
    have q3:v < v0\/(v=v0/\n < n0 + 1):=q3
    by_cases hq:v=v0/\n=n0
    ·rw [hq.1,hq.2]; exact aHs.2 (.inr (aF4.2 rfl))
    ·exact aHs.2 (.inl (k3 v n q1 q2 (by omega) q4 q5))
   ·rw [j4]
    refine Ok.ret ⟨⟨by show 1<=n0 + 1/\n0 + 1<=17; omega,by show (o2.length:Int)<=100 * v0 + (n0 + 1); omega,fun v n q1 q2 q3 q4 q5=>?_⟩,by show (17 - (n0 + 1)).toNat < (17 - n0).toNat; omega⟩
    have q3:v < v0\/(v=v0/\n < n0 + 1):=q3
    by_cases hq:v=v0/\n=n0
    ·rw [hq.1,hq.2,hp] at q1; cases q1
    ·exact k3 v n q1 q2 (by omega) q4 q5
  ·have hn:¬ n0<=16:=aJb hn
   rw [Ej (by omega)]
   refine⟨⟨by show max c.Least e.Least<=v0 + 1/\v0 + 1<=5; omega,by show (o2.length:Int)<=100 * (v0 + 1); omega,fun v n q1 q2 q3 q4 q5=>?_⟩,by show (5 - (v0 + 1)).toNat < (5 - v0).toNat; omega⟩
   have q3:v < v0 + 1:=q3
   exact k3 v n q1 q2 (by omega) q4 q5
 ·have hb:¬ v0<=min c.Most e.Most:=aJb hb
  exact⟨by omega,fun v n q1 q2 q3 q4 q5=>h3 v n q1 q2 (by omega) q4 q5⟩
theorem aRi {l:List Ae} (hl:l.length<=20) (h:∀ c∈l,Nl c):Ey l=some l:=by
 unfold Ey
 refine Gs (body:=fun q'=>Ey.l1 l q'.1 q'.2) l.length (fun i=>((i:Int),l.take i)) l (fun i hi=>?_) ?_
 ·obtain⟨x,hx⟩:∃ x,l[i]?=some x:=⟨_,aCv hi⟩
  show Ey.l1 l (i:Int) (l.take i)=_
  unfold Ey.l1
  rw [Dz hx,xR x (h x (Fr hx)),aAg,D1 (by rw [aJj,aF7]; omega),aAg,Fo (by omega),I9 hx]
 ·show Ey.l1 l (l.length:Int) (l.take l.length)=_
  unfold Ey.l1
  rw [Cy,aR2]; rfl
theorem aEt {e:Ac} (h:xS e):Gl e=some e:=by
 have h1:=h.sn
 have h2:=h.idn
 have h3:=h.ep.v.ann
 have h4:=h.hsh
 unfold Gl
 rw [D1 (by show (0 + e.Suites.length) * 8<=_; omega),aAg,D1 (by show (0 + e.Anchors.length) * 8<=_; omega),aAg,D1 (by show (0 + e.Hashes.length) * 8<=_; omega),aAg,aSw,aSw,aSw]
 refine Gs (body:=fun q'=>Gl.l1 e e.Suites e.Anchors e.Hashes q'.1 q'.2) e.Identities.length (fun i=>((i:Int),e.Identities.take i)) e (fun i hi=>?_) ?_
 ·obtain⟨x,hx⟩:∃ x,e.Identities[i]?=some x:=⟨_,aCv hi⟩
  have ql:=h.chn x (Fr hx)
  show Gl.l1 e e.Suites e.Anchors e.Hashes (i:Int) (e.Identities.take i)=_
  unfold Gl.l1
  rw [Dz hx,aRi (by omega) (h.ep.shows (Fr hx)).2,aAg,D1 (by rw [aJj,aF7]; omega),aAg,Fo (by omega),I9 hx]
 ·show Gl.l1 e e.Suites e.Anchors e.Hashes (e.Identities.length:Int) (e.Identities.take e.Identities.length)=_
  unfold Gl.l1
  rw [Cy,aR2]; rfl
theorem tE {α T:Type} (l:List α) (q:α->Bool) {body:Bool×Int->Option (Lp (Bool×Int) T)} {X:Bool->Option T} (hl:Lo l)
  (h1:∀ (i:Nat) x b,l[i]?=some x->body (b,(i:Int))=some (.next (b || q x,((i + 1:Nat):Int)))) (h2:∀ b,body (b,(l.length:Int))=up (X b)):Bz body (false,0)=X (l.any q):=by
 have key:∀ (m:List α) (i:Nat) b,l.drop i=m->i<=l.length->Bz body (b,(i:Int))=X (b || m.any q):=by
  intro m
  induction m with
  | nil=>
   intro i b hd hi
   have:l.length<=i:=aZa.1 hd
   obtain rfl:i=l.length:=by omega
   rw [D4 (h2 b)]; simp
  | cons x m ih=>
   intro i b hd hi
   have hx:l[i]?=some x:=by
    have:=congrArg List.head? hd
    rw [bBm] at this
    exact this
   rw [E0 (h1 i x b hx),ih (i + 1) _ (by rw [<- aZg,hd]; rfl) (G3 hx),aS9,Bool.or_assoc]
 have:=key l 0 false rfl (aOm _)
 rw [aZk] at this
 exact this
theorem Ys (t:List Int) (a b:UInt8):Aq t a b=some true:=by
 unfold Aq G4
 rw [aAg]
 by_cases hl:(t.length:Int)<=400
 ·rw [aA4 hl,aHl,aDb]
  refine Ok.true_ ?_
  refine Ok.bind (fQ (by omega)) fun d hd=>?_
  refine Ok.bind (Yz hd) fun y4 h4=>?_
  have hc:=h4.1.ep
  have he:=h4.2.1.ep
  have v2:=hc.v.most
  have ha:=a.toNat_lt
  have hb:=b.toNat_lt
  have ho:Ul ⟨y4.1.Name,y4.1.Least,y4.1.Most,y4.1.Suites,y4.1.OwnOrder,y4.1.Identities,y4.1.Anchors,y4.1.Hashes,false⟩:=⟨⟨hc.f.name,hc.f.suites,hc.f.ids,hc.f.anchors,hc.f.hashes,hc.f.chain⟩,⟨hc.v.name,hc.v.least,hc.v.most,hc.v.most4,hc.v.suites,hc.v.idn,hc.v.ann,hc.v.ana,hc.v.haa,hc.v.ids,hc.v.anr,hc.v.har⟩⟩
  refine Ok.bindE (bZ hc he (by omega) (by omega)) ?_
  rw [Ej (by omega)]
  refine Ok.bindE (bZ hc he (by omega) (by omega)) ?_
  refine Ok.bindE (aEt h4.1) ?_
  refine Ok.bindE (bZ ho he (by omega) (by omega)) ?_
  refine Ok.bindE (aB1 ho he (by omega)) ?_
  rw [zE rfl]
  generalize hz:Is ⟨y4.1.Name,y4.1.Least,y4.1.Most,y4.1.Suites,y4.1.OwnOrder,y4.1.Identities,y4.1.Anchors,y4.1.Hashes,false⟩ y4.2.1 15 y4.1.Most y4.1.Suites=z
  obtain⟨z1,z2⟩:=z
  have fin:Aq.j1 y4 (Gz y4.1 y4.2.1 15 (a.toNat:Int),0) (Gz y4.1 y4.2.1 15 ((a.toNat:Int) + (b.toNat:Int)),0) false=some true:=by
   obtain⟨cl,e1,hcl,hcm⟩:=aBf hc he
   unfold Aq.j1
   rw [aDb,e1,aAg]
   have l1:=U9 (c:=y4.1) (e:=y4.2.1) hc.v 15 (a.toNat:Int)
   have l2:=U9 (c:=y4.1) (e:=y4.2.1) hc.v 15 ((a.toNat:Int) + (b.toNat:Int))
   refine Gs (body:=fun q'=>Aq.l2 (Gz y4.1 y4.2.1 15 (a.toNat:Int),0) (Gz y4.1 y4.2.1 15 ((a.toNat:Int) + (b.toNat:Int)),0) cl q') (Gz y4.1 y4.2.1 15 (a.toNat:Int)).length (fun i=>(i:Int)) true (fun i hi=>?_) ?_
   ·obtain⟨w,hx⟩:∃ w,(Gz y4.1 y4.2.1 15 (a.toNat:Int))[i]?=some w:=⟨_,aCv hi⟩
    have hm:=Fr hx
    show Aq.l2 _ _ cl (i:Int)=_
    unfold Aq.l2
    show cond (decide ((i:Int) < (((Gz y4.1 y4.2.1 15 (a.toNat:Int)).length:Nat):Int))) _ _=_
    rw [aA4 (by omega),aEa]
    have f1:((Gz y4.1 y4.2.1 15 ((a.toNat:Int) + (b.toNat:Int))).any fun y=>decide (y.Outcome=w.Outcome))=true:=by
     obtain⟨y,hy,ey⟩:=aAb (show (a.toNat:Int)<=(a.toNat:Int) + (b.toNat:Int) by omega) hm
     exact aL5.2 ⟨y,hy,aA4 ey⟩
    have f2:(cl.any fun y=>decide (y=w.Outcome))=true:=by
     obtain⟨p1,p2,p3⟩:=tG v2 hm
     have hsu:=uY (Nh.1 p1).1
     exact aL5.2 ⟨w.Outcome,hcm _ _ p1 p2 p3 hsu.1 hsu.2,aA4 rfl⟩
    have in2:Bz (fun q':Bool×Int=>Aq.l5 (Gz y4.1 y4.2.1 15 (a.toNat:Int),0) cl (i:Int) true q'.1 q'.2) (false,0)=some (.next ((i + 1:Nat):Int)):=by
     refine (tE cl (fun y=>decide (y=w.Outcome)) (X:=fun b=>bif b then some (.next ((i + 1:Nat):Int)) else some (.done false)) (Im (by omega)) (fun k x bb hk=>?_) (fun bb=>?_)).trans (by rw [f2]; rfl)
     ·have hki:=G3 hk
      show Aq.l5 _ cl (i:Int) true bb (k:Int)=_
      unfold Aq.l5
      have j6:∀ q,Aq.j6 (k:Int) q=some (.next (q,((k + 1:Nat):Int))):=fun q=>by
       unfold Aq.j6
       rw [Fo (by omega)]
      rw [aA4 (by omega),aEa]
      cases bb with
      | true=>rw [aEa,j6]; rfl
      | false=>
       rw [aDb,Ef,hk,aAg]
       show (Bm (Gz y4.1 y4.2.1 15 (a.toNat:Int)) (i:Int)).bind _=_
       rw [Ef,hx,aAg,j6]
       rfl
     ·show Aq.l5 _ cl (i:Int) true bb (cl.length:Int)=_
      unfold Aq.l5
      rw [Cy,aHl,aDb]
      unfold Aq.j7
      rw [Fo (by omega)]
      cases bb <;> rfl
    refine (tE (Gz y4.1 y4.2.1 15 ((a.toNat:Int) + (b.toNat:Int))) (fun y=>decide (y.Outcome=w.Outcome)) (X:=fun b=>Bz (fun q':Bool×Int=>Aq.l5 (Gz y4.1 y4.2.1 15 (a.toNat:Int),0) cl (i:Int) b q'.1 q'.2) (false,0)) (Im (by omega)) (fun k x bb hk=>?_) (fun bb=>?_)).trans (by rw [f1]; exact in2)
    ·have hki:=G3 hk
     show Aq.l3 _ _ cl (i:Int) bb (k:Int)=_
     unfold Aq.l3
     have j4:∀ q,Aq.j4 (k:Int) q=some (.next (q,((k + 1:Nat):Int))):=fun q=>by
      unfold Aq.j4
      rw [Fo (by omega)]
     show cond (decide ((k:Int) < (((Gz y4.1 y4.2.1 15 ((a.toNat:Int) + (b.toNat:Int))).length:Nat):Int))) _ _=_
     rw [aA4 (by omega),aEa]
     cases bb with
     | true=>rw [aEa,j4]; rfl
     | false=>
      rw [aDb]
      show (Bm (Gz y4.1 y4.2.1 15 ((a.toNat:Int) + (b.toNat:Int))) (k:Int)).bind _=_
      rw [Ef,hk,aAg]
      show (Bm (Gz y4.1 y4.2.1 15 (a.toNat:Int)) (i:Int)).bind _=_
      rw [Ef,hx,aAg,j4]
      rfl
    ·show Aq.l3 _ _ cl (i:Int) bb _=_
     unfold Aq.l3
     rw [Cy]
   ·show Aq.l2 _ _ cl _=_
    unfold Aq.l2
    rw [Cy,Ng]
    rfl
  refine⟨true,?_,rfl⟩
  show cond (!decide ((0:Int)=0)) _ (cond (!decide ((0:Int)=0)) _ (cond (!decide ((0:Int)=0)) _ _))=_
  rw [aA4 rfl,aHl,aDb,aDb,aDb]
  cases h0:decide (z2=0) with
  | true=>
   show cond (decide ((1:Int) < (([_]:List Aa).length:Int))) _ _=_
   rw [show decide ((1:Int) < ((([⟨z1,y4.1.Most,y4.1.Suites⟩]:List Aa).length:Nat):Int))=false from rfl,aDb]
   show cond (!decide (true=true)) _ _=_
   rw [show (!decide (true=true))=false from rfl,aDb]
   show (Bm ([⟨z1,y4.1.Most,y4.1.Suites⟩]:List Aa) 0).bind (fun e=>Aq.j1 _ _ _ (!decide (e.Outcome=z1)))=_
   rw [show Bm ([⟨z1,y4.1.Most,y4.1.Suites⟩]:List Aa) 0=some ⟨z1,y4.1.Most,y4.1.Suites⟩ from rfl,aAg,aA4 rfl]
   exact fin
  | false=>
   show cond (decide ((1:Int) < (([]:List Aa).length:Int))) _ _=_
   rw [show decide ((1:Int) < ((([]:List Aa).length:Nat):Int))=false from rfl,aDb]
   show cond (!decide (false=false)) _ _=_
   rw [show (!decide (false=false))=false from rfl,aDb]
   exact fin
 ·rw [aAw hl,aR0,aEa,Ng]
  rfl
end Go.Proofs.YtobamahlipiakaaGreat
