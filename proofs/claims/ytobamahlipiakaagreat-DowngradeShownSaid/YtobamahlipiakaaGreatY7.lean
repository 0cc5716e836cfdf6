/- Plain texts, joined. No program is in sight here. -/
import Derived.Test.YtobamahlipiakaaGreatY4
import Derived.Test.YtobamahlipiakaaGreatZ3
import Derived.Test.YtobamahlipiakaaGreatME
set_option autoImplicit false
set_option linter.unusedVariables false
set_option linter.unusedSimpArgs false
set_option maxRecDepth 100000
namespace Go.Proofs.YtobamahlipiakaaGreat
section
open Go
theorem aJa {α:Type} {l:List α} {k:Nat} (h:k<=l.length):Zz l 0 (k:Int)=some (l.take k):=by
 obtain⟨x,hx,rfl⟩:=nY (l:=l) (a:=0) (b:=(k:Int)) (by omega)
 rw [hx]
 simp
theorem yM {α:Type} {l:List α} {k:Nat} (h:k<=l.length):Zz l (k:Int) (l.length:Int)=some (l.drop k):=by
 obtain⟨x,hx,rfl⟩:=nY (l:=l) (a:=(k:Int)) (b:=(l.length:Int)) (by omega)
 rw [hx]
 simp only [aMr]
 rw [aJ0 (by rw [aJ4]; omega)]
theorem yL (w:Aa) (l:List Aa) (hl:l.length<=100000):C4 l w=some (X5 l w):=by
 have key:∀ (m pre:List Aa),l=pre ++ m->Bz (fun q'=>C4.l1 l w q') (pre.length:Int)=some (pre ++ X5 m w):=by
  intro m
  induction m with
  | nil=>
   intro pre e
   rw [aVv] at e
   subst e
   have j3:C4.j3 l w (l.length:Int) false=some (l ++ [w]):=by
    unfold C4.j3
    rw [aDb,aJa (aJf _),aAg,D1 (by simp; omega),aAg,D1 (by simp; omega),aAg,yM (aJf _),aAg,D1 (by simp; omega),aAg]
    simp
   refine D4 ?_
   show C4.l1 l w (l.length:Int)=_
   unfold C4.l1
   rw [Cy]
   unfold C4.j2
   rw [aDb,aAw (Int.lt_irrefl _),aDb,j3]
   rfl
  | cons a m ih=>
   intro pre e
   have hx:l[pre.length]?=some a:=by rw [e]; simp
   have hlt:pre.length < l.length:=G3 hx
   have hl1:C4.l1 l w (pre.length:Int)=C4.j2 l w (pre.length:Int) (bY a w):=by
    unfold C4.l1
    rw [Dz hx]
    unfold bY rS
    cases decide (a.Outcome.Version < w.Outcome.Version) <;> cases decide (a.Outcome.Version=w.Outcome.Version) <;> rfl
   unfold X5
   cases hq:bY a w with
   | true=>
    rw [hq] at hl1
    have e1:C4.l1 l w (pre.length:Int)=some (.next (((pre ++ [a]).length:Nat):Int)):=by
     rw [hl1]
     unfold C4.j2
     rw [aEa,Fo (by omega)]
     simp
    refine (E0 e1).trans ?_
    rw [ih (pre ++ [a]) (by rw [e]; simp),aEa]
    simp
   | false=>
    rw [hq] at hl1
    have j3:∀ b,C4.j3 l w (pre.length:Int) b=some (bif b then l else pre ++ w :: a :: m):=fun b=>by
     unfold C4.j3
     rw [aJa (by omega),aAg,D1 (by simp; omega),aAg,D1 (by simp; omega),aAg,yM (by omega),aAg,D1 (by simp; omega),aAg]
     cases b with
     | true=>rfl
     | false=>
      show some _=some _
      congr 1
      rw [e]
      simp
    refine D4 ?_
    show C4.l1 l w (pre.length:Int)=_
    rw [hl1]
    unfold C4.j2
    rw [aDb,Dz hx,j3,aDb]
    cases hd:decide (a.Outcome=w.Outcome) with
    | true=>rw [aEa,e]; rfl
    | false=>rfl
 exact key l [] rfl
theorem rT (w:Aa):∀ l:List Aa,(X5 l w).length<=l.length + 1
 | []=>by simp [X5]
 | a :: l=>by
  have:=rT w l
  unfold X5
  cases bY a w with
  | true=>rw [aEa]; simp only [aJw]; omega
  | false=>rw [aDb]; cases decide (a.Outcome=w.Outcome) <;> simp
theorem Zp (f:WF) (l:List Aa) (x:Int×List Int):(Sn f l x).length<=l.length + 1:=by
 unfold Sn
 cases decide ((f x).2=0) with
 | true=>exact rT _ _
 | false=>exact Nat.le_succ _
theorem aId {c e:Ac} {day:Int} {weak:Int} (hc:Ul c) (he:Ul e) (hd:0<=day/\day<=40000) {v:Int} (hv:1<=v/\v<=4) {out:List Aa} (ho:out.length<=50000):Bz (fun q':List Aa×Int=>A5.l8 c e day weak v q'.1 q'.2) (out,0)=some (.next (c.Suites.foldl (fun s n=>bif I3 weak n then Sn (Xn c e day) s (v,[n]) else s) out,v - 1)):=by
 have hs:=vO hc he hd
 refine (Uc (body:=fun q':List Aa×Int=>A5.l8 c e day weak v q'.1 q'.2) (X:=fun s=>some (Lp.next (s,v - 1))) c.Suites (fun i s=>(s,(i:Int))) (fun s n=>bif I3 weak n then Sn (Xn c e day) s (v,[n]) else s) (fun i s=>s.length<=50000 + i) (by omega) (fun i x s hx hp=>?_) (fun s hp=>?_))
 ·have hi:=G3 hx
  have hsu:uR x:=(hc.v.suites i x hx).1
  have h0:=aBz hsu
  refine⟨?_,?_⟩
  ·show A5.l8 c e day weak v s (i:Int)=_
   unfold A5.l8
   rw [Dz hx,Qb,aAg,Oq,aAg,aFc hsu]
   have j:∀ s',A5.j9 (i:Int) s'=some (.next (s',((i + 1:Nat):Int))):=fun s'=>by
    unfold A5.j9
    rw [Fo (by omega)]
   have hf:I3 weak x=!decide (weak<=H8 (Nw x).1.Mac):=by
    unfold I3
    rw [aA4 h0,aP5,uD,bBq]
   rw [hf]
   cases decide (weak<=H8 (Nw x).1.Mac) with
   | true=>rw [aEa,j]; rfl
   | false=>
    rw [aDb,bE hc he hd hv (by unfold Lo; rw [aF7]; omega),aAg,aR0,aEa]
    unfold Sn Xn
    cases hq:decide ((Is c e day v [x]).2=0) with
    | true=>
     rw [aEa,yL _ _ (by omega),aAg,j]
     rfl
    | false=>rw [aDb,j]; rfl
  ·have:=Zp (Xn c e day) s (v,[x])
   cases I3 weak x with
   | true=>rw [aEa]; omega
   | false=>rw [aDb]; omega
 ·show A5.l8 c e day weak v s (c.Suites.length:Int)=_
  unfold A5.l8
  rw [Cy,Ej (by omega)]
theorem iX {c e:Ac} {day:Int} {weak:Int} (hc:Ul c) (he:Ul e) (hd:0<=day/\day<=40000) (v:Int):∀ (l:List Int) (out:List Aa),(l.foldl (fun s n=>bif I3 weak n then Sn (Xn c e day) s (v,[n]) else s) out).length<=out.length + l.length
 | [],out=>by simp
 | n :: l,out=>by
  rw [aTi]
  have h1:=iX (weak:=weak) hc he hd v l (bif I3 weak n then Sn (Xn c e day) out (v,[n]) else out)
  have h2:=Zp (Xn c e day) out (v,[n])
  simp only [aJw]
  cases hq:I3 weak n with
  | true=>rw [hq,aEa] at h1; rw [aEa]; omega
  | false=>rw [hq,aDb] at h1; rw [aDb]; omega
theorem aCp {c e:Ac} {day:Int} {weak:Int} (hc:Ul c) (he:Ul e) (hd:0<=day/\day<=40000) {out:List Aa} (ho:out.length<=10):A5.j6 c e day weak out=some ((Zq c weak).foldl (Sn (Xn c e day)) out,0):=by
 have hs:=vO hc he hd
 have v1:=hc.v.least
 have v2:=hc.v.most
 have v3:=hc.v.most4
 unfold A5.j6
 rw [aI9]
 have e0:(out,c.Most)=(fun (i:Nat) (s:List Aa)=>(s,c.Most - (i:Int))) 0 out:=by simp
 rw [e0]
 refine Uc (body:=fun q':List Aa×Int=>A5.l7 c e day weak q'.1 q'.2) (X:=fun s=>some (s,(0:Int))) (Sj c.Most c.Least) (fun i s=>(s,c.Most - (i:Int))) _ (fun i s=>s.length<=10 + 16 * i) (by omega) (fun i x s hx hp=>?_) (fun s hp=>?_)
 ·obtain⟨ex,hx1,hx2⟩:=dZ hx
  have hi:=G3 hx
  rw [Ls] at hi
  refine⟨?_,?_⟩
  ·show A5.l7 c e day weak s (c.Most - (i:Int))=_
   unfold A5.l7
   rw [<- ex,aA4 hx1,aEa,aId hc he hd (by omega) (by omega),show x - 1=c.Most - ((i + 1:Nat):Int) by omega]
  ·have:=iX hc he hd (weak:=weak) x c.Suites s
   show (c.Suites.foldl _ s).length<=_
   omega
 ·show A5.l7 c e day weak s (c.Most - ((Sj c.Most c.Least).length:Int))=_
  rw [Ls] at hp ⊢
  unfold A5.l7
  rw [aAw (by omega),aDb]
theorem aQ0 {c e:Ac} {day:Int} {weak:Int} (hc:Ul c) (he:Ul e) (hd:0<=day/\day<=40000) (hw:0<=weak/\weak<=512):A5 c e day weak=some (Gz c e day weak,0):=by
 have hs:=vO hc he hd
 have v1:=hc.v.least
 have v2:=hc.v.most
 have v3:=hc.v.most4
 unfold A5
 rw [hc.checkR,he.checkR,aAg,aAg,show (!decide ((0:Int)=0))=false from rfl,aDb]
 unfold A5.j1
 rw [aDb,aAw (by omega),aAw (by omega),aAw (by omega),aAw (by omega),aDb,aDb,aDb]
 unfold A5.j2
 rw [aDb]
 obtain⟨least,hl⟩:∃ least,least=bif c.Fallback then c.Least else c.Most:=⟨_,rfl⟩
 have l1:c.Least<=least:=by
  rw [hl]
  cases c.Fallback with
  | true=>exact aXi _
  | false=>exact v2
 unfold Gz vM Pk
 rw [bAw,aJg,<- hl]
 have e0:(([]:List Aa),c.Most)=(fun (i:Nat) (s:List Aa)=>(s,c.Most - (i:Int))) 0 []:=by simp
 rw [e0]
 refine Uc (body:=fun q':List Aa×Int=>A5.l3 c e day weak q'.1 q'.2) (X:=fun s=>some ((Zq c weak).foldl (Sn (Xn c e day)) s,(0:Int))) (Sj c.Most least) (fun i s=>(s,c.Most - (i:Int))) _ (fun i s=>s.length<=i) (aJf _) (fun i x s hx hp=>?_) (fun s hp=>?_)
 ·obtain⟨ex,hx1,hx2⟩:=dZ hx
  have hi:=G3 hx
  rw [Ls] at hi
  refine⟨?_,?_⟩
  ·show A5.l3 c e day weak s (c.Most - (i:Int))=_
   have j:A5.j4 c e day weak s x false=some (.next (Sn (Xn c e day) s (x,c.Suites),x - 1)):=by
    unfold A5.j4
    have j5:∀ s',A5.j5 x s'=some (.next (s',x - 1)):=fun s'=>by
     unfold A5.j5
     rw [Ej (by omega)]
    rw [aDb,bE hc he hd (by omega) (by unfold Lo; omega),aAg]
    unfold Sn Xn
    cases hq:decide ((Is c e day x c.Suites).2=0) with
    | true=>
     rw [aEa,D1 (by simp; omega),aAg,aSw,yL _ _ (by omega),aAg,j5]
     rfl
    | false=>rw [aDb,j5]; rfl
   have hb:(decide (x < c.Most) && !c.Fallback)=false:=by
    cases hf:c.Fallback with
    | true=>simp
    | false=>
     rw [hf,aDb] at hl
     rw [aAw (by omega)]; rfl
   unfold A5.l3
   rw [<- ex,aA4 (by omega),aEa]
   have:(bif decide (x < c.Most) then A5.j4 c e day weak s x (!c.Fallback) else A5.j4 c e day weak s x false)=A5.j4 c e day weak s x false:=by
    cases h1:decide (x < c.Most) with
    | true=>rw [h1,aP5] at hb; rw [aEa,hb]
    | false=>rfl
   rw [this,j,show x - 1=c.Most - ((i + 1:Nat):Int) by omega]
  ·have:=Zp (Xn c e day) s (x,c.Suites)
   show (Sn _ s (x,c.Suites)).length<=_
   omega
 ·show A5.l3 c e day weak s (c.Most - ((Sj c.Most least).length:Int))=_
  rw [Ls] at hp ⊢
  have hj6:=aCp hc he hd (weak:=weak) (out:=s) (by omega)
  unfold A5.l3
  cases hf:c.Fallback with
  | true=>
   rw [hf,aEa] at hl
   rw [aAw (by omega),aDb,hj6]
  | false=>
   rw [hf,aDb] at hl
   by_cases hq:c.Least<=c.Most - ((c.Most - least + 1).toNat:Int)
   ·rw [aA4 hq,aEa,aA4 (by omega),aEa,aR0]
    unfold A5.j4
    rw [aEa,hj6]
   ·rw [aAw hq,aDb,hj6]
end
section
open Go
theorem aEu {c:Ac} (h:EpV c) (weak:Int):(Pk c weak).length<=1000:=by
 have hs:=uI h.suites
 have v1:=h.least
 have v3:=h.most4
 have hA:(kP c).length<=4:=by
  unfold kP
  rw [aYw,Ls]
  cases c.Fallback with
  | true=>rw [aEa]; omega
  | false=>rw [aDb]; omega
 have hB:(Zq c weak).length<=4 * 16:=by
  unfold Zq
  have key:∀ l:List Int,(l.flatMap fun v=>(c.Suites.filter (I3 weak)).map fun n=>(v,[n])).length<=l.length * 16:=fun l=>by
   induction l with
   | nil=>simp
   | cons a l ih=>
    rw [aOo,aF3,aYw,aJw]
    have:=aUn (I3 weak) c.Suites
    omega
  have:=key (Sj c.Most c.Least)
  rw [Ls] at this
  omega
 unfold Pk
 rw [aF3]
 omega
theorem rF (f:WF):∀ (X:List (Int×List Int)) (l:List Aa),(X.foldl (Sn f) l).length<=l.length + X.length
 | [],l=>by simp
 | x :: X,l=>by
  rw [aTi]
  have h1:=rF f X (Sn f l x)
  have h2:=Zp f l x
  simp only [aJw]
  omega
theorem U9 {c e:Ac} (h:EpV c) (day weak:Int):(Gz c e day weak).length<=1000:=by
 have h1:=rF (Xn c e day) (Pk c weak) []
 have h2:=aEu h weak
 show ((Pk c weak).foldl _ []).length<=_
 simp only [bAt] at h1
 omega
theorem xA {c e:Ac} (h:Ul c) (day weak:Int):∀ w∈Gz c e day weak,Lo w.Suites:=fun w hw=>by
 rcases (V9 hw).1.how with ⟨q,-⟩ | ⟨n,-,-,q⟩
 ·rw [show w.Suites=c.Suites from q]; exact h.f.suites
 ·rw [show w.Suites=[n] from q]; unfold Lo; rw [aF7]; omega
theorem lM (f:Int->Bool×Int):∀ (l out:List Aa),(∀ w∈(Rz f l out).1,w∈out\/w∈l)/\(Rz f l out).1.length<=out.length + l.length
 | [],out=>⟨fun w hw=>.inl hw,aJf _⟩
 | x :: l,out=>by
  unfold Rz
  cases decide ((f x.Outcome.Suite).2=0) with
  | false=>exact⟨(fun w hw=>by cases hw),aOm _⟩
  | true=>
   rw [aEa]
   obtain⟨h1,h2⟩:=lM f l (bif (f x.Outcome.Suite).1 then out ++ [x] else out)
   have h3:(bif (f x.Outcome.Suite).1 then out ++ [x] else out).length<=out.length + 1:=by
    cases (f x.Outcome.Suite).1 <;> simp
   refine⟨fun w hw=>?_,by simp only [aJw]; omega⟩
   rcases h1 w hw with q | q
   ·cases hb:(f x.Outcome.Suite).1 with
    | true=>
     rw [hb,aEa] at q
     rcases aHs.1 q with q | q
     ·exact .inl q
     ·rw [aF4.1 q]; exact .inr (aI4 ..)
    | false=>rw [hb,aDb] at q; exact .inl q
   ·exact .inr (aHu _ q)
theorem tR {c e:Ac} (fc:Pt c) (fe:Pt e) (day weak:Int):∃ r,Av c e day weak=some r/\A5 c e day weak=some r/\r.1.length<=1000/\(r.2≠0->r.1=[])/\(r.2=0->Ul c/\Ul e/\(0<=day/\day<=40000)/\r.1=Gz c e day weak)/\(∀ w∈r.1,Lo w.Suites):=by
 obtain⟨y1,e1,d1⟩:=Jn fc
 obtain⟨y2,e2,d2⟩:=Jn fe
 have e3:=(Sh fc).trans e1
 have e4:=(Sh fe).trans e2
 have bad:(¬ EpV c\/¬ EpV e)->∃ r,Av c e day weak=some r/\A5 c e day weak=some r/\r.1.length<=1000/\(r.2≠0->r.1=[])/\(r.2=0->Ul c/\Ul e/\(0<=day/\day<=40000)/\r.1=Gz c e day weak)/\(∀ w∈r.1,Lo w.Suites):=fun hv=>by
  refine⟨([],19),?_,?_,aOm _,fun _=>rfl,fun q=>absurd q (by decide),fun w hw=>by cases hw⟩
  ·unfold Av
   rw [e1,e2,aAg,aAg]
   have j:Av.j1 c e day weak true=some ([],19):=rfl
   rcases d1 with ⟨q1,v1⟩ | ⟨q1,v1⟩
   ·rcases d2 with ⟨q2,v2⟩ | ⟨q2,v2⟩
    ·rcases hv with hv | hv
     ·exact absurd v1 hv
     ·exact absurd v2 hv
    ·rw [q1,q2]; exact j
   ·rw [q1]; exact j
  ·unfold A5
   rw [e3,e4,aAg,aAg]
   have j:A5.j1 c e day weak true=some ([],19):=rfl
   rcases d1 with ⟨q1,v1⟩ | ⟨q1,v1⟩
   ·rcases d2 with ⟨q2,v2⟩ | ⟨q2,v2⟩
    ·rcases hv with hv | hv
     ·exact absurd v1 hv
     ·exact absurd v2 hv
    ·rw [q1,q2]; exact j
   ·rw [q1]; exact j
 by_cases v1:EpV c
 ·by_cases v2:EpV e
  ·have hc:Ul c:=⟨fc,v1⟩
   have he:Ul e:=⟨fe,v2⟩
   by_cases hr:(0<=day/\day<=40000)/\0<=weak/\weak<=512
   ·exact⟨(Gz c e day weak,0),bZ hc he hr.1 hr.2,aQ0 hc he hr.1 hr.2,U9 v1 day weak,fun q=>absurd rfl q,fun _=>⟨hc,he,hr.1,rfl⟩,xA hc day weak⟩
   ·refine⟨([],2),?_,?_,aOm _,fun _=>rfl,fun q=>absurd q (by decide),fun w hw=>by cases hw⟩
    ·unfold Av
     rw [hc.check,he.check,aAg,aAg,show (!decide ((0:Int)=0))=false from rfl,aDb]
     unfold Av.j1
     have j:Av.j2 c e day weak true=some ([],2):=rfl
     rw [aDb,j]
     by_cases h1:day < 0
     ·rw [aA4 h1]; rfl
     rw [aAw h1,aDb]
     by_cases h2:40000 < day
     ·rw [aA4 h2]; rfl
     rw [aAw h2,aDb]
     by_cases h3:weak < 0
     ·rw [aA4 h3]; rfl
     rw [aAw h3,aDb,aA4 (by omega),j]
    ·unfold A5
     rw [hc.checkR,he.checkR,aAg,aAg,show (!decide ((0:Int)=0))=false from rfl,aDb]
     unfold A5.j1
     have j:A5.j2 c e day weak true=some ([],2):=rfl
     rw [aDb,j]
     by_cases h1:day < 0
     ·rw [aA4 h1]; rfl
     rw [aAw h1,aDb]
     by_cases h2:40000 < day
     ·rw [aA4 h2]; rfl
     rw [aAw h2,aDb]
     by_cases h3:weak < 0
     ·rw [aA4 h3]; rfl
     rw [aAw h3,aDb,aA4 (by omega),j]
  ·exact bad (.inr v2)
 ·exact bad (.inl v1)
theorem xB {c e:Ac} {day weak:Int} {r:List Aa×Int} (h:Av c e day weak=some r) (hl:r.1.length<=1000) (o:Ap):Gg c e day weak o=some (r.1.any fun w=>decide (w.Outcome=o),r.2):=by
 unfold Gg
 rw [h,aAg,xK r.1 o (by unfold Lo; omega) (fun x0=>Ho x0 o) (fun x=>rfl),aAg]
theorem aGv {c e:Ac} {day weak:Int} {r:List Aa×Int} (h:A5 c e day weak=some r) (hl:r.1.length<=1000) (h0:r.2≠0->r.1=[]) (o:Ap):Fs c e day weak o=some (r.1.any fun w=>decide (w.Outcome=o),r.2):=by
 unfold Fs
 rw [h,aAg]
 by_cases hr:r.2=0
 ·rw [aA4 hr,aHl,aDb]
  refine (Qs (body:=fun q'=>Fs.l1 o r q') r.1 (fun i=>(i:Int)) (fun w=>decide (w.Outcome=o)) (true,(0:Int)) (false,0) (fun i x hx=>?_) ?_).trans ?_
  ·have hi:=G3 hx
   show Fs.l1 o r (i:Int)=_
   unfold Fs.l1
   rw [Dz hx,Fo (by omega)]
   cases decide (x.Outcome=o) <;> rfl
  ·show Fs.l1 o r (r.1.length:Int)=_
   unfold Fs.l1
   rw [Cy]; rfl
  ·rw [hr]
   cases r.1.any fun w=>decide (w.Outcome=o) <;> rfl
 ·rw [aAw hr,aR0,aEa,h0 hr]
  rfl
theorem tL (s:Az) (k:Ao):∀ {f:Int->Option (List Ao×Int)} (hf:∀ n,f n=some ([⟨s.Exchange.Alg,n⟩,k,s.Cipher,s.Mac],0)),(cond (decide (s.Exchange.Bits=0)) (f k.Bits) (f s.Exchange.Bits))=some (aFl s k,0):=fun {f} hf=>by
 unfold aFl aFp
 rw [hf,hf]
 cases decide (s.Exchange.Bits=0) <;> rfl
theorem wO {e:Ac} {n:Int} (h:0<=P4 e n):∃ x,Bm e.Identities (P4 e n)=some x/\aAu e n=x.Key:=by
 obtain⟨-,x,hx,-,ek⟩:=gK h
 refine⟨x,?_,ek⟩
 have:=Ef (l:=e.Identities) (j:=(P4 e n).toNat)
 rw [show (((P4 e n).toNat:Nat):Int)=P4 e n by omega] at this
 rw [this,hx]
theorem aAc {e:Ac} (fe:Pt e) (o:Ap):∃ r,Fx e o=some r/\G8 e o=some r/\r.1.length<=4/\(Ul e->r=V1 e o.Suite):=by
 obtain⟨y2,e2,d2⟩:=Jn fe
 have e4:=(Sh fe).trans e2
 rcases d2 with ⟨q2,v2⟩ | ⟨q2,v2⟩
 ·refine⟨V1 e o.Suite,?_,?_,?_,fun _=>rfl⟩
  ·unfold Fx
   rw [e2,q2,aAg,show (!decide ((0:Int)=0))=false from rfl,aDb,dK,aAg,Xi fe.ids,aAg]
   unfold V1
   by_cases h0:(Nw o.Suite).2=0
   ·rw [aA4 h0,aHl,aDb,aEa]
    by_cases h1:0<=P4 e o.Suite
    ·obtain⟨x,hx,hk⟩:=wO h1
     rw [aA4 h1,aHl,aDb,aEa]
     show (Bm e.Identities (P4 e o.Suite)).bind _=_
     rw [hx,aAg,hk]
     exact tL _ _ (f:=fun n=>Fx.j1 (Nw o.Suite) x n) fun n=>rfl
    ·rw [aAw h1]; rfl
   ·rw [aAw h0]; rfl
  ·unfold G8
   rw [e4,q2,aAg,show (!decide ((0:Int)=0))=false from rfl,aDb,Qb,aAg,Xg fe.ids,aAg]
   unfold V1
   by_cases h0:(Nw o.Suite).2=0
   ·rw [aA4 h0,aHl,aDb,aEa]
    by_cases h1:0<=P4 e o.Suite
    ·obtain⟨x,hx,hk⟩:=wO h1
     rw [aA4 h1,aHl,aDb,aEa]
     show (Bm e.Identities (P4 e o.Suite)).bind _=_
     rw [hx,aAg,hk]
     exact tL _ _ (f:=fun n=>G8.j1 (Nw o.Suite) x n) fun n=>rfl
    ·rw [aAw h1]; rfl
   ·rw [aAw h0]; rfl
  ·unfold V1
   cases decide ((Nw o.Suite).2=0) with
   | true=>
    cases decide (0<=P4 e o.Suite) with
    | true=>exact aJf 4
    | false=>exact aOm _
   | false=>exact aOm _
 ·refine⟨([],19),?_,?_,aOm _,fun h=>absurd h.v v2⟩
  ·unfold Fx
   rw [e2,q2]; rfl
  ·unfold G8
   rw [e4,q2]; rfl
theorem lJ {a:Ao->Bool×Int} {body:Bool×Int->Option (Lp (Bool×Int) (Bool×Int))} (l:List Ao) (hl:l.length<=1000)
  (h1:∀ (i:Nat) x b,l[i]?=some x->body (b,(i:Int))=bif decide ((a x).2=0) then some (.next (b || !(a x).1,((i + 1:Nat):Int))) else up (some (false,(a x).2)))
  (h2:∀ b,body (b,(l.length:Int))=up (some (b,0))):Bz body (false,0)=some (Y3 a l false):=by
 have key:∀ (m:List Ao) (i:Nat) b,l.drop i=m->i<=l.length->Bz body (b,(i:Int))=some (Y3 a m b):=by
  intro m
  induction m with
  | nil=>
   intro i b hd hi
   have:l.length<=i:=aZa.1 hd
   obtain rfl:i=l.length:=by omega
   exact D4 (h2 b)
  | cons x m ih=>
   intro i b hd hi
   have hx:l[i]?=some x:=by
    have:=congrArg List.head? hd
    rw [bBm] at this
    exact this
   have e:=h1 i x b hx
   unfold Y3
   cases hq:decide ((a x).2=0) with
   | true=>
    rw [hq,aEa] at e
    rw [E0 e,aEa]
    refine ih (i + 1) _ ?_ (G3 hx)
    rw [<- aZg,hd]
    rfl
   | false=>
    rw [hq,aDb] at e
    rw [D4 e,aDb]
 exact key l 0 false rfl (aOm _)
section
variable {p:Bk} {l:List Ah} {o:Cc} (hp:Xy p) (hl:∀ x∈l,Qf x) (hn:l.length<=1000) (ho:o.Keys.length<=1000)
include hp hl hn ho
theorem Su {e:Ac} (fe:Pt e) (out:Ap) (day:Int):∃ r,By p l o e out day=some r/\C8 p l o e out day=some r/\(Ul e->r=M9 (fun u=>Uw p l o u 1 e.Name day) e out.Suite):=by
 obtain⟨r,h1,h2,h3,h4⟩:=aAc fe out
 refine⟨bif decide (r.2=0) then Y3 (fun u=>Uw p l o u 1 e.Name day) r.1 false else (false,r.2),?_,?_,fun h=>?_⟩
 ·unfold By
  rw [h1,aAg]
  cases decide (r.2=0) with
  | false=>rfl
  | true=>
   rw [aHl,aDb,aEa]
   refine lJ (body:=fun q'=>By.l1 p l o e day r q'.1 q'.2) r.1 (by omega) (fun i x b hx=>?_) (fun b=>?_)
   ·have hi:=G3 hx
    show By.l1 p l o e day r b (i:Int)=_
    unfold By.l1
    rw [Dz hx,aQs hp hl hn ho,aAg]
    unfold By.j2
    rw [Fo (by omega)]
    cases decide ((Uw p l o x 1 e.Name day).2=0) <;> cases b <;> rfl
   ·show By.l1 p l o e day r b (r.1.length:Int)=_
    unfold By.l1
    rw [Cy]
 ·unfold C8
  rw [h2,aAg]
  cases decide (r.2=0) with
  | false=>rfl
  | true=>
   rw [aHl,aDb,aEa]
   refine lJ (body:=fun q'=>C8.l1 p l o e day r q'.1 q'.2) r.1 (by omega) (fun i x b hx=>?_) (fun b=>?_)
   ·have hi:=G3 hx
    show C8.l1 p l o e day r b (i:Int)=_
    unfold C8.l1
    rw [Dz hx,aO1 hp hl hn ho,aAg]
    unfold C8.j2
    rw [Fo (by omega)]
    cases decide ((Uw p l o x 1 e.Name day).2=0) <;> cases b <;> rfl
   ·show C8.l1 p l o e day r b (r.1.length:Int)=_
    unfold C8.l1
    rw [Cy]
 ·rw [h4 h]
  rfl
end
theorem mU {T:Type} {f:Int->Bool×Int} {body:T->Option (Lp T (List Aa×Int))} (st:Nat->List Aa->T) (l:List Aa) (hl:l.length<=1000)
  (h1:∀ (i:Nat) x out,l[i]?=some x->out.length<=i->body (st i out)=bif decide ((f x.Outcome.Suite).2=0) then some (.next (st (i + 1) (bif (f x.Outcome.Suite).1 then out ++ [x] else out))) else up (some ([],(f x.Outcome.Suite).2)))
  (h2:∀ out,body (st l.length out)=up (some (out,0))):Bz body (st 0 [])=some (Rz f l []):=by
 have key:∀ (m:List Aa) (i:Nat) out,l.drop i=m->i<=l.length->out.length<=i->Bz body (st i out)=some (Rz f m out):=by
  intro m
  induction m with
  | nil=>
   intro i out hd hi ho
   have:l.length<=i:=aZa.1 hd
   obtain rfl:i=l.length:=by omega
   exact D4 (h2 out)
  | cons x m ih=>
   intro i out hd hi ho
   have hx:l[i]?=some x:=by
    have:=congrArg List.head? hd
    rw [bBm] at this
    exact this
   have e:=h1 i x out hx ho
   unfold Rz
   cases hq:decide ((f x.Outcome.Suite).2=0) with
   | true=>
    rw [hq,aEa] at e
    rw [E0 e,aEa]
    refine ih (i + 1) _ ?_ (G3 hx) ?_
    ·rw [<- aZg,hd]
     rfl
    ·cases (f x.Outcome.Suite).1 with
     | true=>rw [aEa,aF3,aF7]; omega
     | false=>rw [aDb]; omega
   | false=>
    rw [hq,aDb] at e
    rw [D4 e,aDb]
 exact key l 0 [] rfl (aOm _) (aJf _)
section
variable {p:Bk} {l:List Ah} {o:Cc} (hp:Xy p) (hl:∀ x∈l,Qf x) (hn:l.length<=1000) (ho:o.Keys.length<=1000)
include hp hl hn ho
theorem aL {c e:Ac} (fc:Pt c) (fe:Pt e) (day weak:Int):∃ r,C1 c e p l o day weak=some r/\E2 c e p l o day weak=some r/\(Ul c->Ul e->(0<=day/\day<=40000)->(0<=weak/\weak<=512)->r=Rz (M9 (fun u=>Uw p l o u 1 e.Name day) e) (Gz c e day weak) [])/\r.1.length<=1000/\(∀ w∈r.1,Lo w.Suites):=by
 obtain⟨y,h1,h2,h3,h4,h5,h6⟩:=tR fc fe day weak
 by_cases h0:y.2=0
 ·obtain⟨hc,he,hd,hy⟩:=h5 h0
  have hsub:=lM (M9 (fun u=>Uw p l o u 1 e.Name day) e) y.1 []
  refine⟨Rz (M9 (fun u=>Uw p l o u 1 e.Name day) e) y.1 [],?_,?_,(fun _ _ _ _=>by rw [hy]),(by have:=hsub.2; simp only [bAt] at this; omega),fun w hw=>(hsub.1 w hw).elim (fun q=>by cases q) fun q=>h6 w q⟩
  ·unfold C1
   rw [h1,aAg,aA4 h0,aHl,aDb]
   refine mU (body:=fun q'=>C1.l1 e p l o day y q'.1 q'.2) (fun i out=>((i:Int),out)) y.1 h3 (fun i x out hx hol=>?_) (fun out=>?_)
   ·have hi:=G3 hx
    obtain⟨r,k1,-,k3⟩:=Su hp hl hn ho fe x.Outcome day
    show C1.l1 e p l o day y (i:Int) out=_
    unfold C1.l1
    rw [Dz hx,k1,aAg,k3 he]
    unfold C1.j2
    rw [Fo (by omega),D1 (by simp; omega),aAg]
    cases decide ((M9 (fun u=>Uw p l o u 1 e.Name day) e x.Outcome.Suite).2=0) <;> cases (M9 (fun u=>Uw p l o u 1 e.Name day) e x.Outcome.Suite).1 <;> rfl
   ·show C1.l1 e p l o day y (y.1.length:Int) out=_
    unfold C1.l1
    rw [Cy]
  ·unfold E2
   rw [h2,aAg,aA4 h0,aHl,aDb]
   refine mU (body:=fun q'=>E2.l1 e p l o day y q'.1 q'.2) (fun i out=>((i:Int),out)) y.1 h3 (fun i x out hx hol=>?_) (fun out=>?_)
   ·have hi:=G3 hx
    obtain⟨r,-,k2,k3⟩:=Su hp hl hn ho fe x.Outcome day
    show E2.l1 e p l o day y (i:Int) out=_
    unfold E2.l1
    rw [Dz hx,k2,aAg,k3 he]
    unfold E2.j2
    rw [Fo (by omega),D1 (by simp; omega),aAg]
    cases decide ((M9 (fun u=>Uw p l o u 1 e.Name day) e x.Outcome.Suite).2=0) <;> cases (M9 (fun u=>Uw p l o u 1 e.Name day) e x.Outcome.Suite).1 <;> rfl
   ·show E2.l1 e p l o day y (y.1.length:Int) out=_
    unfold E2.l1
    rw [Cy]
 ·refine⟨([],y.2),?_,?_,(fun hc he hd hw=>?_),aOm _,fun w hw=>by cases hw⟩
  ·unfold C1
   rw [h1,aAg,aAw h0]; rfl
  ·unfold E2
   rw [h2,aAg,aAw h0]; rfl
  ·rw [bZ hc he hd hw] at h1
   rw [<- oi_ h1] at h0
   exact absurd rfl h0
end
theorem jX (l:List Int) (h:Lo l):Dj l l=some true:=by
 unfold Dj
 rw [aA4 rfl,aHl,aDb]
 refine (Gs l.length (fun i=>(i:Int)) true (fun i hi=>?_) ?_)
 ·obtain⟨x,hx⟩:∃ x,l[i]?=some x:=⟨_,aCv hi⟩
  show Dj.l1 l l (i:Int)=_
  unfold Dj.l1
  rw [Dz hx,Ef,hx,aAg,aA4 rfl,aHl,aDb,Fo (by unfold Lo at h; omega)]
 ·show Dj.l1 l l (l.length:Int)=_
  unfold Dj.l1
  rw [Cy]; rfl
theorem lN (l:List Aa) (h:l.length<=1000) (hs:∀ w∈l,Lo w.Suites):Ez l l=some true:=by
 unfold Ez
 rw [aA4 rfl,aHl,aDb]
 refine (Gs l.length (fun i=>(i:Int)) true (fun i hi=>?_) ?_)
 ·obtain⟨x,hx⟩:∃ x,l[i]?=some x:=⟨_,aCv hi⟩
  show Ez.l1 l l (i:Int)=_
  unfold Ez.l1
  rw [Dz hx,Ef,hx,aAg,aA4 rfl,aA4 rfl,aHl,aDb,aDb,jX _ (hs x (Fr hx)),aAg]
  unfold Ez.j2
  rw [Fo (by omega)]
  rfl
 ·show Ez.l1 l l (l.length:Int)=_
  unfold Ez.l1
  rw [Cy]; rfl
end
section
open Go
theorem mC {d:Ad} (hd:L5 d):Ok (Lx d) (fun y=>y.1.Keys.length<=1000/\L5 y.2):=by
 unfold Lx
 refine Ok.bind (Hh hd 3 (by omega) (by omega)) fun y hy=>?_
 exact Ok.ret ⟨by show (3:Nat)<=1000; decide,hy.2⟩
theorem aDl {p:Bk} {u:Ao} {pu day:Int} (h1:Wz p=0) (h2:decide (0 < H8 u)=true) (h3:1<=pu/\pu<=4) (h4:0<=day/\day<=40000):(aZ p u pu day).2.2=0:=by
 have e:erS p u pu day=0:=by
  unfold erS
  rw [h1,h2,aAw (p:=pu < 1) (by omega),aAw (p:=4 < pu) (by omega),aAw (p:=day < 0) (by omega),aAw (p:=40000 < day) (by omega)]
  rfl
 unfold aZ
 rw [e]
 rfl
theorem aHf {p:Bk} {o:Cc} {nm:ByteArray} {day:Int} (h1:Wz p=0) (h4:0<=day/\day<=40000) (u:Ao) (hu:0 < H8 u):(Uw p [] o u 1 nm day).2=0:=by
 unfold Uw
 rw [aDl h1 (aA4 hu) (by omega) h4]
 rfl
def exC:Ac:=⟨⟨#[97]⟩,1,3,[10,2],false,[],[],[],true⟩
def exS:Ac:=⟨⟨#[98]⟩,1,3,[2,10],false,[⟨⟨5,2048⟩,0,[]⟩],[],[],false⟩
theorem aBn {l:List Int} (h:(List.range l.length).all (fun i=>(decide (1<=l.getD i 0) && decide (l.getD i 0<=16)) && !(l.take i).contains (l.getD i 0))=true) (i:Nat):dY l i:=fun x hx=>by
 have:=aH8.1 h i (aSn.2 (G3 hx))
 rw [Ph hx,aF1,aF1,aJc,aJc,aR1,List.contains_eq_mem,aXr] at this
 exact⟨this.1,this.2⟩
theorem aEe:Ul exC:=⟨⟨by decide,by unfold Lo; decide,by unfold Lo; decide,by unfold Lo; decide,by unfold Lo; decide,fun x hx=>by cases hx⟩,
 ⟨by decide +kernel,by decide,by decide,by decide,aBn (by decide),by decide,by decide,mN (by decide),mN (by decide),(fun x hx=>by cases hx),(fun x hx=>by cases hx),fun x hx=>by cases hx⟩⟩
theorem nU:Ul exS:=⟨⟨by decide,by unfold Lo; decide,by unfold Lo; decide,by unfold Lo; decide,by unfold Lo; decide,fun x hx c hc=>by
  rw [aF4.1 hx] at hc; cases hc⟩,
 ⟨by decide +kernel,by decide,by decide,by decide,aBn (by decide),by decide,by decide,mN (by decide),mN (by decide),(fun x hx=>by rw [aF4.1 hx]; decide +kernel),(fun x hx=>by cases hx),fun x hx=>by cases hx⟩⟩
theorem aIj:Gz exC exS 5 100=[]:=by
 apply bAg.2
 intro w hw
 have ht:=(Sp.1 (V9 hw).2).trust
 unfold Ts at ht
 split at ht
 ·rename_i x hx
  rw [aF4.1 (Fr hx)] at ht
  exact absurd ht (by decide)
 ·cases ht
theorem Ng:Fp=some true:=by
 unfold Fp
 have h1:Av exC exS 5 100=some ([],0):=by rw [bZ aEe nU (by omega) (by omega),aIj]
 have h2:Av exC exS 5 (-1)=some ([],2):=by
  unfold Av
  rw [aEe.check,nU.check]
  rfl
 obtain⟨r,h3,-,h4⟩:=Su (p:=⟨[⟨false,14,0,0,0,40001⟩],[]⟩) (l:=[]) (o:=⟨[],0⟩) ⟨by decide,by decide⟩ (fun x hx=>by cases hx) (by decide) (by decide) nU.f ⟨3,2⟩ 5
 have h5:r=(true,0):=(h4 nU).trans (by decide +kernel)
 show (Av exC exS 5 100).bind _=_
 rw [h1,aAg]
 show (Av exC exS 5 (-1)).bind _=_
 rw [h2,aAg]
 show (By _ _ _ exS _ _).bind _=_
 rw [h3,aAg,h5]
 rfl
structure xS (e:Ac):Prop where
 ep:Ul e
 sn:e.Suites.length<=16
 idn:e.Identities.length<=3
 nam:e.Name.size<=32
 chn:∀ x∈e.Identities,x.Chain.length<=3
 hsh:e.Hashes.length<=4
theorem EpM.p {name:ByteArray} (hn:name.size<=32) (hw:fI name=true) {e:Ac} (h:EpM name e):xS e:=⟨⟨h.fit hn,h.valid hw⟩,by have:=h.sn; omega,h.idn,by rw [h.name]; exact hn,fun x hx=>(h.ids x hx).len,by
 have hh:=h.hashes
 unfold aH7 at hh
 simp only [aF2,aF6,aQe] at hh
 rcases hh with q | q | q <;> rw [q] <;> decide⟩
theorem xS.suites {e:Ac} (h:xS e) {l:List Int} (hl:l.length<=16) (hv:∀ i,dY l i):xS ⟨e.Name,e.Least,e.Most,l,e.OwnOrder,e.Identities,e.Anchors,e.Hashes,e.Fallback⟩:=
 ⟨⟨⟨h.ep.f.name,by show l.length < _; omega,h.ep.f.ids,h.ep.f.anchors,h.ep.f.hashes,h.ep.f.chain⟩,⟨h.ep.v.name,h.ep.v.least,h.ep.v.most,h.ep.v.most4,hv,h.ep.v.idn,h.ep.v.ann,h.ep.v.ana,h.ep.v.haa,h.ep.v.ids,h.ep.v.anr,h.ep.v.har⟩⟩,hl,h.idn,h.nam,h.chn,h.hsh⟩
theorem aDu {l:List Int} (h:∀ i,dY l i) {x:Int} (hx:uR x) (hn:x∉l) (i:Nat):dY (l ++ [x]) i:=fun y hy=>by
 by_cases hi:i < l.length
 ·rw [aNt hi] at hy
  rw [aTc (by omega)]
  exact h i y hy
 ·have hlen:=G3 hy
  rw [aF3,aF7] at hlen
  obtain rfl:i=l.length:=by omega
  rw [aOr (aJf _),Nat.sub_self] at hy
  obtain rfl:x=y:=oi_ hy
  rw [aTc (aJf _),aR2]
  exact⟨hx,hn⟩
theorem Yz {d:Ad} (hd:L5 d):Ok (B8 d) (fun y=>xS y.1/\xS y.2.1/\L5 y.2.2):=by
 unfold B8
 refine Ok.bind (bU hd (by decide +kernel) (by decide)) fun y hy=>?_
 refine Ok.bind (bU hy.2 (by decide +kernel) (by decide)) fun y2 hy2=>?_
 refine Ok.bind (Hh hy2.2 4 (by omega) (by omega)) fun y3 hy3=>?_
 have hs:=hy2.1.p (by decide) (by decide +kernel)
 have fin:∀ (an ha:List Int),EpM ⟨#[97,112,112]⟩ ⟨y.1.Name,y.1.Least,y.1.Most,y.1.Suites,y.1.OwnOrder,y.1.Identities,an,ha,y.1.Fallback⟩->Ok (B8.j1 y y2 y3.2 an ha) (fun y=>xS y.1/\xS y.2.1/\L5 y.2.2):=fun an ha hm=>by
  have hc:=hm.p (by decide) (by decide +kernel)
  have hcn:y.1.Suites.length<=16:=hc.sn
  unfold B8.j1
  refine Ok.loop (fun s:Int×Ad×List Int=>(0<=s.1/\s.1<=y.1.Suites.length)/\L5 s.2.1/\s.2.2.length<=16/\∀ i,dY s.2.2 i) (fun s=>((y.1.Suites.length:Int) - s.1).toNat) ?_ ⟨⟨aXi _,by show (0:Int)<=_; omega⟩,hy3.2,hs.sn,hs.ep.v.suites⟩
  rintro⟨i,d',l⟩ ⟨⟨h1,h2⟩,h3,h4,h5⟩
  dsimp only at h1 h2 h3 h4 h5
  show Ok (B8.l2 y y2 an ha i d' l) _
  have out:Ok (B8.j3 y y2 an ha i d' l false) (Rd' (fun s':Int×Ad×List Int=>((0<=s'.1/\s'.1<=y.1.Suites.length)/\L5 s'.2.1/\s'.2.2.length<=16/\∀ i,dY s'.2.2 i)/\((y.1.Suites.length:Int) - s'.1).toNat < ((y.1.Suites.length:Int) - i).toNat) (fun y=>xS y.1/\xS y.2.1/\L5 y.2.2)):=by
   unfold B8.j3
   exact Ok.up (Ok.ret ⟨hc,hs.suites h4 h5,h3⟩)
  unfold B8.l2
  refine Ok.cond (fun hb=>?_) (fun _=>out)
  have hb:i < y.1.Suites.length:=aEk hb
  cases h16:decide ((l.length:Int) < 16) with
  | false=>exact out
  | true=>
   have h16:=aEk h16
   have nxt:∀ (d2:Ad) (l2:List Int),L5 d2->l2.length<=16->(∀ i,dY l2 i)->Ok (B8.j5 i d2 l2) (Rd' (fun s':Int×Ad×List Int=>((0<=s'.1/\s'.1<=y.1.Suites.length)/\L5 s'.2.1/\s'.2.2.length<=16/\∀ i,dY s'.2.2 i)/\((y.1.Suites.length:Int) - s'.1).toNat < ((y.1.Suites.length:Int) - i).toNat) (fun y=>xS y.1/\xS y.2.1/\L5 y.2.2)):=fun d2 l2 q1 q2 q3=>by
    unfold B8.j5
    rw [Ej (by omega)]
    exact Ok.ret ⟨⟨⟨by show 0<=i + 1; omega,by show i + 1<=_; omega⟩,q1,q2,q3⟩,by show ((y.1.Suites.length:Int) - (i + 1)).toNat < _; omega⟩
   unfold B8.j3
   rw [aEa]
   refine Ok.bind (Rv h1 hb) fun x hx=>?_
   refine Ok.bindE (Nr l x (Im (by omega))) ?_
   refine Ok.cond (fun hn=>?_) (fun _=>?_)
   ·refine Ok.bind (Hh h3 3 (by omega) (by omega)) fun y5 h5'=>?_
    unfold B8.j4
    refine Ok.cond (fun _=>?_) (fun _=>nxt _ _ h5'.2 h4 h5)
    refine Ok.bind (Rv h1 hb) fun x2 hx2=>?_
    obtain rfl:x=x2:=oi_ (hx.symm.trans hx2)
    refine Ok.bindE (D1 (by rw [aF7]; omega)) ?_
    refine nxt _ _ h5'.2 (by rw [aF3,aF7]; omega) (aDu h5 (hc.ep.v.suites i.toNat x hx).1 ?_)
    simpa using hn
   ·unfold B8.j4
    exact nxt _ _ h3 h4 h5
 have hm:=hy.1
 refine Ok.cond (fun _=>fin _ _ ⟨hm.name,hm.least,hm.most,hm.most4,hm.sn,hm.suites,hm.idn,hm.ids,.head _,.head _⟩) (fun _=>fin _ _ ⟨hm.name,hm.least,hm.most,hm.most4,hm.sn,hm.suites,hm.idn,hm.ids,hm.anchors,hm.hashes⟩)
theorem aJs {d:Ad} (hd:L5 d) {e:Ac} (h:xS e):Ok (F9 d e) (fun y=>Pt y.1/\L5 y.2):=by
 have hf:=h.ep.f
 have hsn:=h.sn
 have hidn:=h.idn
 have nm:e.Name.size<=1000:=by have:=h.nam; omega
 have h3:e.Anchors.length<=50:=by have:=h.ep.v.ann; omega
 have fin:∀ (d':Ad) (nm:ByteArray) (a b:Int) (su:List Int) (ids:List Al) (an ha:List Int),L5 ⟨d'.L,d'.At⟩->nm.size<=1000->su.length<=50->ids.length<=50->(∀ x∈ids,∀ c∈x.Chain,cR c)->an.length<=50->Lo ha->Ok (F9.j1 e d'.L d'.At nm a b su ids an ha) (fun y=>Pt y.1/\L5 y.2):=fun d' nm a b su ids an ha k0 k1 k2 k3 k4 k5 k6=>by
  unfold F9.j1
  exact Ok.ret ⟨⟨by show nm.size<=_; omega,Im (by show su.length<=_; omega),Im (by show ids.length<=_; omega),Im (by show an.length<=_; omega),k6,k4⟩,k0⟩
 have h4:=hf.hashes
 have s1:e.Suites.length<=50:=by omega
 have i1:e.Identities.length<=50:=by omega
 unfold F9
 refine Ok.bind (Hh hd 8 (by omega) (by omega)) fun y hy=>?_
 refine Ok.cond (fun _=>Ok.bind (aHg hy.2 _ (by decide) (by decide)) fun y2 k2=>fin y2.2 _ _ _ _ _ _ _ k2.2 ?_ s1 i1 hf.chain h3 h4) (fun _=>?_)
 ·have:=k2.1
  simp only [aF2,aF6,aQe] at this
  rcases this with e | e | e <;> rw [e] <;> decide
 refine Ok.cond (fun _=>Ok.bind (Io hy.2 _ (by simp) (by simp)) fun y2 k2=>fin y2.2 _ _ _ _ _ _ _ k2.2 nm s1 i1 hf.chain h3 h4) (fun _=>?_)
 refine Ok.cond (fun _=>Ok.bind (Io hy.2 _ (by decide) (by decide)) fun y2 k2=>fin y2.2 _ _ _ _ _ _ _ k2.2 nm s1 i1 hf.chain h3 h4) (fun _=>?_)
 refine Ok.cond (fun _=>?_) (fun _=>?_)
 ·refine Ok.bindE (D1 (by simp; omega)) ?_
  refine Ok.bind (Io hy.2 _ (by decide) (by decide)) fun y2 k2=>?_
  refine Ok.bindE (D1 (by simp; omega)) (fin y2.2 _ _ _ _ _ _ _ k2.2 nm ?_ i1 hf.chain h3 h4)
  simp
  omega
 refine Ok.cond (fun _=>fin y.2 _ _ _ _ _ _ _ hy.2 nm s1 i1 hf.chain (by decide) h4) (fun _=>?_)
 refine Ok.cond (fun _=>Ok.bind (Io hy.2 _ (by decide) (by decide)) fun y2 k2=>fin y2.2 _ _ _ _ _ _ _ k2.2 nm s1 i1 hf.chain h3 (Im (by rw [aF7]; omega))) (fun _=>?_)
 have app:∀ (x:Al),(∀ c∈x.Chain,cR c)->∀ z∈([] ++ e.Identities) ++ [x],∀ c∈z.Chain,cR c:=fun x hx z hz c hc=>by
  rw [aSw] at hz
  rcases aHs.1 hz with hz | hz
  ·exact hf.chain z hz c hc
  ·rw [aF4.1 hz] at hc
   exact hx c hc
 have len:∀ (x:Al),(([] ++ e.Identities) ++ [x]).length<=50:=fun x=>by simp; omega
 refine Ok.cond (fun _=>?_) (fun _=>?_)
 ·refine Ok.bindE (D1 (by simp; omega)) (Ok.bindE (D1 (by simp; omega)) (fin y.2 _ _ _ _ _ _ _ hy.2 nm s1 (len _) (app _ fun c hc=>by cases hc) h3 h4))
 ·refine Ok.bindE (D1 (by simp; omega)) ?_
  refine Ok.bind (lF hy.2 (by decide +kernel) (by decide) (show qB ⟨5,2048⟩ from ⟨⟨by unfold Sm; decide,by unfold Sm; decide⟩,by decide +kernel⟩) (by omega)) fun y2 k2=>?_
  refine Ok.bindE (D1 (by simp; omega)) (fin y2.2 _ _ _ _ _ _ _ k2.2 nm s1 (len _) (app _ fun c hc=>(k2.1.2.1 c hc).2.w) h3 h4)
end
end Go.Proofs.YtobamahlipiakaaGreat
