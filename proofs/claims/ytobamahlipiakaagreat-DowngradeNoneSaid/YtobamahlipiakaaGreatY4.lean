/- Plain texts, joined. No program is in sight here. -/
import Derived.Test.YtobamahlipiakaaGreatME
import Derived.Test.YtobamahlipiakaaGreatCO
import Derived.Test.YtobamahlipiakaaGreatK6
import Derived.Test.YtobamahlipiakaaGreatSO5api_Way
set_option autoImplicit false
set_option linter.unusedVariables false
set_option linter.unusedSimpArgs false
set_option maxRecDepth 100000
namespace Go.Proofs.YtobamahlipiakaaGreat
section
noncomputable section
open Go
def Nw (n:Int):Az×Int:=(Dn n).getD (⟨0,⟨#[]⟩,⟨0,0⟩,⟨0,0⟩,⟨0,0⟩,⟨0,0⟩,0,0⟩,0)
theorem Qb (n:Int):Dn n=some (Nw n):=by
 obtain⟨y,hy,-⟩:=Qi n
 unfold Nw
 rw [hy]
 rfl
theorem aAt:Fi=Kw:=by
 unfold Fi Df
 simp only [aAg]
 iterate 16 refine (E0 rfl).trans ?_
 exact D4 rfl
theorem aBs (n:Int):Dw n=Dn n:=by
 obtain⟨l,hl,hlen⟩:=Ri
 unfold Dw Dn
 rw [aAt,hl,aAg]
 have j:∀ b,Dw.j1 n l b=Dn.j1 n b:=fun b=>by
  unfold Dw.j1 Dn.j1
  rw [hl]
  rfl
 rw [j,j,show ((l.length:Nat):Int)=16 by omega]
theorem dK (n:Int):Dw n=some (Nw n):=(aBs n).trans (Qb n)
theorem aBw (n:Int):((Nw n).2=0/\uR n)\/((Nw n).2=8/\¬ uR n):=by
 obtain⟨y,hy,d⟩:=Qi n
 rw [Qb] at hy
 rw [oi_ hy]
 exact d
theorem aBz {n:Int} (h:uR n):(Nw n).2=0:=(aBw n).elim (fun q=>q.1) fun q=>absurd h q.2
theorem uY {n:Int} (h:(Nw n).2=0):uR n:=(aBw n).elim (fun q=>q.2) fun q=>by rw [q.1] at h; cases h
def aFr (s:Az) (n:Int):Bool:=decide (s.Code=n) && (decide (0 < H8 s.Mac) && (decide (0 < H8 s.Cipher) && ((decide (s.Exchange.Bits=0) && (decide (s.Exchange.Alg=10) && decide (s.Sign.Alg=5))) || (decide (s.Exchange.Bits≠0) && decide (0 < H8 s.Exchange)))))
theorem nC {n:Int} (h:uR n):aFr (Nw n).1 n=true:=by
 obtain⟨l,hl,hlen⟩:=Ri
 have key:∀ i:Fin 16,(match Dn ((i.val:Int) + 1) with | some y=>aFr y.1 ((i.val:Int) + 1) | none=>false)=true:=by decide +kernel
 have:=key ⟨(n - 1).toNat,by have:=h.1; have:=h.2; omega⟩
 simp only [show (((n - 1).toNat:Nat):Int) + 1=n by have:=h.1; omega] at this
 rw [Qb] at this
 exact this
theorem aFc {n:Int} (h:uR n):(Nw n).1.Code=n:=by
 have:=nC h
 unfold aFr at this
 rw [aF1] at this
 exact aEk this.1
def Qn (s:Az) (x:Al):Bool:=decide (s.Sign.Alg=0) || decide (x.Key.Alg=s.Sign.Alg)
def P4 (e:Ac) (n:Int):Int:=bif decide ((Nw n).2=0) then Ja e.Identities (Qn (Nw n).1) else -1
def Rq (e:Ac) (offer:List Int) (v n:Int):Bool:=decide ((Nw n).2=0) && (decide ((Nw n).1.Least<=v) && (decide (v<=(Nw n).1.Most) && (decide (n∈offer) && (decide (n∈e.Suites) && decide (0<=P4 e n)))))
def Ts (c e:Ac) (day n:Int):Bool:=match e.Identities[(P4 e n).toNat]? with | some x=>decide (Tm x.Chain c.Anchors c.Hashes day e.Name=0) | none=>false
def Tx (e:Ac) (l:List Int):List Int:=bif e.OwnOrder then e.Suites else l
def bJ (c e:Ac) (day v:Int) (l:List Int):Ap×Int:=match (Tx e l).find? (Rq e l v) with | none=>(⟨0,0⟩,28) | some n=>bif Ts c e day n then (⟨v,n⟩,0) else (⟨0,0⟩,29)
def Is (c e:Ac) (day most:Int) (l:List Int):Ap×Int:=bif decide (min most e.Most < c.Least) || decide (min most e.Most < e.Least) then (⟨0,0⟩,27) else bJ c e day (min most e.Most) l
theorem Nh {e:Ac} {l:List Int} {v n:Int}:Rq e l v n=true↔(Nw n).2=0/\(Nw n).1.Least<=v/\v<=(Nw n).1.Most/\n∈l/\n∈e.Suites/\0<=P4 e n:=by
 unfold Rq
 simp only [aF1,aJc]
structure lU (c e:Ac) (day most:Int) (l:List Int) (o:Ap):Prop where
 ver:o.Version=min most e.Most
 low:c.Least<=o.Version
 low':e.Least<=o.Version
 first:(Tx e l).find? (Rq e l o.Version)=some o.Suite
 trust:Ts c e day o.Suite=true
theorem Sp {c e:Ac} {day most:Int} {l:List Int} {o:Ap}:Is c e day most l=(o,0)↔lU c e day most l o:=by
 unfold Is bJ
 constructor
 ·intro h
  by_cases h1:min most e.Most < c.Least
  ·rw [aA4 h1] at h; simp at h
  by_cases h2:min most e.Most < e.Least
  ·rw [aA4 h2] at h; simp at h
  rw [aAw h1,aAw h2] at h
  simp only [Bool.or_self,aDb] at h
  split at h
  ·simp at h
  rename_i n hn
  cases ht:Ts c e day n with
  | false=>rw [ht] at h; simp at h
  | true=>
   rw [ht] at h
   simp only [aEa,Prod.mk.injEq,and_true] at h
   subst h
   exact⟨rfl,Int.not_lt.1 h1,Int.not_lt.1 h2,hn,ht⟩
 ·intro h
  have h1:=h.low
  have h2:=h.low'
  rw [h.ver] at h1 h2
  rw [show decide (min most e.Most < c.Least)=false from aAw (by omega),show decide (min most e.Most < e.Least)=false from aAw (by omega)]
  simp only [Bool.or_self,aDb]
  have h3:=h.first
  rw [h.ver] at h3
  rw [h3]
  show cond (Ts c e day o.Suite) _ _=_
  rw [h.trust,aEa,<- h.ver]
theorem lU.pos {c e:Ac} {day most:Int} {l:List Int} {o:Ap} (h:lU c e day most l o):Rq e l o.Version o.Suite=true:=List.find?_some h.first
theorem lU.alone {c e:Ac} {day most:Int} {l:List Int} {o:Ap} (h:lU c e day most l o):lU c e day most [o.Suite] o:=by
 refine⟨h.ver,h.low,h.low',?_,h.trust⟩
 have hp:=Nh.1 h.pos
 have key:∀ n,Rq e [o.Suite] o.Version n=true↔n=o.Suite:=fun n=>by
  rw [Nh,aF4]
  constructor
  ·exact fun q=>q.2.2.2.1
  ·intro q
   subst q
   exact⟨hp.1,hp.2.1,hp.2.2.1,rfl,hp.2.2.2.2.1,hp.2.2.2.2.2⟩
 unfold Tx
 cases e.OwnOrder with
 | false=>
  rw [aDb,List.find?_cons,(key _).2 rfl]
 | true=>
  rw [aEa]
  have hm:o.Suite∈e.Suites:=hp.2.2.2.2.1
  cases hf:e.Suites.find? (Rq e [o.Suite] o.Version) with
  | none=>exact absurd ((key _).2 rfl) (by simp [List.find?_eq_none.1 hf _ hm])
  | some n=>rw [(key n).1 (List.find?_some hf)]
def I3 (weak n:Int):Bool:=decide ((Nw n).2=0) && decide (H8 (Nw n).1.Mac < weak)
def Sj (hi lo:Int):List Int:=(List.range (hi - lo + 1).toNat).map fun i:Nat=>hi - (i:Int)
theorem Uz {hi lo v:Int}:v∈Sj hi lo↔lo<=v/\v<=hi:=by
 unfold Sj
 rw [aOq]
 constructor
 ·rintro⟨i,hi',rfl⟩
  have:=aSn.1 hi'
  omega
 ·intro h
  exact⟨(hi - v).toNat,aSn.2 (by omega),by omega⟩
def kP (c:Ac):List (Int×List Int):=(Sj c.Most (bif c.Fallback then c.Least else c.Most)).map fun v=>(v,c.Suites)
def Zq (c:Ac) (weak:Int):List (Int×List Int):=(Sj c.Most c.Least).flatMap fun v=>(c.Suites.filter (I3 weak)).map fun n=>(v,[n])
abbrev WF:=Int×List Int->Ap×Int
def Ps (f:WF) (out:List Aa) (x:Int×List Int):List Aa:=bif decide ((f x).2=0) && !(out.any fun w=>decide (w.Outcome=(f x).1)) then out ++ [⟨(f x).1,x.1,x.2⟩] else out
def rS (a b:Ap):Bool:=decide (a.Version < b.Version) || (decide (a.Version=b.Version) && decide (a.Suite < b.Suite))
def bY (a b:Aa):Bool:=rS a.Outcome b.Outcome
theorem wU {f:WF} {out:List Aa} {x:Int×List Int} (h:(f x).2≠0):Ps f out x=out:=by
 unfold Ps
 rw [aAw h]; rfl
theorem rP {f:WF} {out:List Aa} {x:Int×List Int} {w:Aa} (hw:w∈out) (h:w.Outcome=(f x).1):Ps f out x=out:=by
 unfold Ps
 rw [show (out.any fun w=>decide (w.Outcome=(f x).1))=true from aL5.2 ⟨w,hw,aA4 h⟩,aHl,Bool.and_false]; rfl
theorem fL {f:WF} {out:List Aa} {x:Int×List Int} (h:(f x).2=0) (hn:∀ w∈out,w.Outcome≠(f x).1):Ps f out x=out ++ [⟨(f x).1,x.1,x.2⟩]:=by
 unfold Ps
 rw [aA4 h,show (out.any fun w=>decide (w.Outcome=(f x).1))=false from aR8.2 fun w hw=>by rw [aAw (hn w hw)]; exact aX0]
 rfl
theorem Xw (f:WF) (out:List Aa) (x:Int×List Int):Ps f out x=out\/((f x).2=0/\(∀ w∈out,w.Outcome≠(f x).1)/\Ps f out x=out ++ [⟨(f x).1,x.1,x.2⟩]):=by
 by_cases h:(f x).2=0
 ·by_cases hn:∀ w∈out,w.Outcome≠(f x).1
  ·exact .inr ⟨h,hn,fL h hn⟩
  ·simp only [bAy,bBd] at hn
   obtain⟨w,hw,e⟩:=hn
   exact .inl (rP hw e)
 ·exact .inl (wU h)
structure kR (f:WF) (X:List (Int×List Int)) (out:List Aa):Prop where
 from_:∀ w∈out,(w.Most,w.Suites)∈X/\f (w.Most,w.Suites)=(w.Outcome,0)
 all:∀ x∈X,(f x).2=0->∃ w∈out,w.Outcome=(f x).1
 one:out.Pairwise fun a b=>a.Outcome≠b.Outcome
theorem kR.nil (f:WF):kR f [] []:=⟨(fun w hw=>by cases hw),(fun x hx=>by cases hx),List.Pairwise.nil⟩
theorem kR.add {f:WF} {X:List (Int×List Int)} {out:List Aa} (h:kR f X out) (x:Int×List Int):kR f (X ++ [x]) (Ps f out x):=by
 rcases Xw f out x with e | ⟨h0,hn,e⟩
 ·by_cases h0:(f x).2=0
  ·by_cases hn:∀ w∈out,w.Outcome≠(f x).1
   ·rw [fL h0 hn] at e
    have:=congrArg List.length e
    simp at this
   ·simp only [bAy,bBd] at hn
    obtain⟨w,hw,ew⟩:=hn
    rw [e]
    refine⟨fun w hw=>⟨aHs.2 (.inl (h.from_ w hw).1),(h.from_ w hw).2⟩,fun y hy hy0=>?_,h.one⟩
    rcases aHs.1 hy with hy | hy
    ·exact h.all y hy hy0
    ·rw [aF4.1 hy]; exact⟨w,hw,ew⟩
  ·rw [e]
   refine⟨fun w hw=>⟨aHs.2 (.inl (h.from_ w hw).1),(h.from_ w hw).2⟩,fun y hy hy0=>?_,h.one⟩
   rcases aHs.1 hy with hy | hy
   ·exact h.all y hy hy0
   ·rw [aF4.1 hy] at hy0; exact absurd hy0 h0
 ·rw [e]
  refine⟨fun w hw=>?_,fun y hy hy0=>?_,?_⟩
  ·rcases aHs.1 hw with hw | hw
   ·exact⟨aHs.2 (.inl (h.from_ w hw).1),(h.from_ w hw).2⟩
   ·rw [aF4.1 hw]
    exact⟨aHs.2 (.inr (aF4.2 rfl)),by rw [<- h0]⟩
  ·rcases aHs.1 hy with hy | hy
   ·obtain⟨w,hw,ew⟩:=h.all y hy hy0
    exact⟨w,aHs.2 (.inl hw),ew⟩
   ·rw [aF4.1 hy]
    exact⟨_,aHs.2 (.inr (aF4.2 rfl)),rfl⟩
  ·rw [aZy]
   refine⟨h.one,bA7 _ _,fun a ha b hb=>?_⟩
   rw [aF4.1 hb]
   exact hn a ha
theorem lS {f:WF}:∀ (Y X:List (Int×List Int)) (out:List Aa),kR f X out->kR f (X ++ Y) (Y.foldl (Ps f) out)
 | [],X,out,h=>by rw [aVv]; exact h
 | y :: Y,X,out,h=>by
  rw [aTi,show X ++ y :: Y=(X ++ [y]) ++ Y by rw [aTn]; rfl]
  exact lS Y _ _ (h.add y)
def sE (f:WF) (X:List (Int×List Int)):List Aa:=X.foldl (Ps f) []
theorem aFm (f:WF) (X:List (Int×List Int)):kR f X (sE f X):=lS X [] [] (.nil f)
theorem lB (f:WF):∀ (X:List (Int×List Int)) (out:List Aa),(X.foldl (Ps f) out).length<=out.length + X.length
 | [],out=>by simp
 | x :: X,out=>by
  rw [aTi]
  have h1:=lB f X (Ps f out x)
  have h2:(Ps f out x).length<=out.length + 1:=by
   rcases Xw f out x with e | ⟨-,-,e⟩ <;> rw [e] <;> simp
  simp only [aJw]
  omega
def X5:List Aa->Aa->List Aa
 | [],w=>[w]
 | a :: l,w=>bif bY a w then a :: X5 l w else bif decide (a.Outcome=w.Outcome) then a :: l else w :: a :: l
def Sn (f:WF) (l:List Aa) (x:Int×List Int):List Aa:=bif decide ((f x).2=0) then X5 l ⟨(f x).1,x.1,x.2⟩ else l
theorem Wl (a:Ap):rS a a=false:=by unfold rS; simp
theorem mZ {a b d:Ap} (h:rS a b=true) (g:rS b d=true):rS a d=true:=by
 unfold rS at *
 simp only [aR9,aF1,aJc] at *
 omega
theorem dS (a b:Ap):rS a b=true\/a=b\/rS b a=true:=by
 unfold rS
 simp only [aR9,aF1,aJc]
 rcases a with ⟨a1,a2⟩
 rcases b with ⟨b1,b2⟩
 simp only [Ap.mk.injEq]
 omega
theorem aN8 {a b:Ap} (h:rS a b=true):a≠b:=fun e=>by subst e; rw [Wl] at h; cases h
theorem aCa {a b:Ap} (h:rS a b=true):rS b a=false:=by
 cases hb:rS b a with
 | false=>rfl
 | true=>exact absurd (mZ h hb) (by rw [Wl]; exact aX0)
abbrev jE (l:List Aa):Prop:=l.Pairwise fun a b=>bY a b=true
theorem fP {w z:Aa}:∀ {l:List Aa},(∀ a∈l,a.Outcome≠w.Outcome)->(z∈X5 l w↔z=w\/z∈l)
 | [],_=>by simp [X5]
 | a :: l,h=>by
  unfold X5
  cases bY a w with
  | true=>
   rw [aEa,aF2,fP fun b hb=>h b (aHu _ hb),aF2]
   constructor
   ·rintro (e | e | e)
    ·exact .inr (.inl e)
    ·exact .inl e
    ·exact .inr (.inr e)
   ·rintro (e | e | e)
    ·exact .inr (.inl e)
    ·exact .inl e
    ·exact .inr (.inr e)
  | false=>
   rw [aDb,aAw (h a (aI4 ..)),aDb,aF2]
theorem sZ {w:Aa}:∀ {l:List Aa},jE l->(∀ a∈l,a.Outcome≠w.Outcome)->jE (X5 l w)
 | [],_,_=>bA7 _ _
 | a :: l,hl,h=>by
  have hl':=aOn.1 hl
  unfold X5
  cases ha:bY a w with
  | true=>
   rw [aEa]
   refine aOn.2 ⟨fun z hz=>?_,sZ hl'.2 fun b hb=>h b (aHu _ hb)⟩
   rcases (fP fun b hb=>h b (aHu _ hb)).1 hz with e | e
   ·rw [e]; exact ha
   ·exact hl'.1 z e
  | false=>
   have hne:=h a (aI4 ..)
   rw [aDb,aAw hne,aDb]
   have hwa:bY w a=true:=(dS a.Outcome w.Outcome).elim (fun q=>absurd q (by unfold bY at ha; rw [ha]; exact aX0)) fun q=>q.elim (fun q=>absurd q hne) id
   refine aOn.2 ⟨fun z hz=>?_,hl⟩
   rcases aF2.1 hz with e | e
   ·rw [e]; exact hwa
   ·exact mZ hwa (hl'.1 z e)
theorem qL {w:Aa}:∀ {l:List Aa},jE l->(∃ a∈l,a.Outcome=w.Outcome)->X5 l w=l
 | [],_,⟨_,h,_⟩=>nomatch h
 | a :: l,hl,⟨b,hb,e⟩=>by
  have hl':=aOn.1 hl
  unfold X5
  rcases aF2.1 hb with q | q
  ·subst q
   have:bY b w=false:=by unfold bY; rw [e]; exact Wl _
   rw [this,aDb,aA4 e,aEa]
  ·have:bY a w=true:=by
    have:=hl'.1 b q
    unfold bY at this ⊢
    rw [<- e]; exact this
   rw [this,aEa,qL hl'.2 ⟨b,q,e⟩]
theorem gN {f:WF}:∀ (X:List (Int×List Int)) (l out:List Aa),jE l->(∀ z,z∈l↔z∈out)->jE (X.foldl (Sn f) l)/\∀ z,z∈X.foldl (Sn f) l↔z∈X.foldl (Ps f) out
 | [],l,out,h,hm=>⟨h,hm⟩
 | x :: X,l,out,h,hm=>by
  rw [aTi,aTi]
  have step:jE (Sn f l x)/\∀ z,z∈Sn f l x↔z∈Ps f out x:=by
   unfold Sn
   by_cases h0:(f x).2=0
   ·rw [aA4 h0,aEa]
    by_cases hn:∀ w∈out,w.Outcome≠(f x).1
    ·have hn':∀ a∈l,a.Outcome≠(f x).1:=fun a ha=>hn a ((hm a).1 ha)
     rw [fL h0 hn]
     refine⟨sZ h hn',fun z=>?_⟩
     rw [fP hn',aHs,aF4,hm z]
     exact Or.comm
    ·simp only [bAy,bBd] at hn
     obtain⟨w,hw,e⟩:=hn
     rw [rP hw e,qL h ⟨w,(hm w).2 hw,e⟩]
     exact⟨h,hm⟩
   ·rw [aAw h0,aDb,wU h0]
    exact⟨h,hm⟩
  exact gN X _ _ step.1 step.2
def vM (f:WF) (X:List (Int×List Int)):List Aa:=X.foldl (Sn f) []
theorem eU (f:WF) (X:List (Int×List Int)):jE (vM f X):=(gN X [] [] .nil fun _=>Iff.rfl).1
theorem hG (f:WF) (X:List (Int×List Int)) (z:Aa):z∈vM f X↔z∈sE f X:=(gN X [] [] .nil fun _=>Iff.rfl).2 z
theorem sN:∀ {l m:List Aa},jE l->jE m->(∀ x,x∈l↔x∈m)->l=m
 | [],[],_,_,_=>rfl
 | [],b :: m,_,_,h=>absurd ((h b).2 (aI4 ..)) (by simp)
 | a :: l,[],_,_,h=>absurd ((h a).1 (aI4 ..)) (by simp)
 | a :: l,b :: m,hl,hm,h=>by
  have hl':=aOn.1 hl
  have hm':=aOn.1 hm
  have e:a=b:=by
   rcases aF2.1 ((h a).1 (aI4 ..)) with e | e
   ·exact e
   ·rcases aF2.1 ((h b).2 (aI4 ..)) with e' | e'
    ·exact e'.symm
    ·have h1:=hm'.1 a e
     have h2:=hl'.1 b e'
     unfold bY at h1 h2
     rw [aCa h1] at h2
     cases h2
  subst e
  congr 1
  refine sN hl'.2 hm'.2 fun x=>?_
  have hx:=h x
  rw [aF2,aF2] at hx
  constructor
  ·intro q
   rcases hx.1 (.inr q) with e | e
   ·have:=hl'.1 x q
    rw [e] at this
    exact absurd this (by unfold bY; rw [Wl]; exact aX0)
   ·exact e
  ·intro q
   rcases hx.2 (.inr q) with e | e
   ·have:=hm'.1 x q
    rw [e] at this
    exact absurd this (by unfold bY; rw [Wl]; exact aX0)
   ·exact e
theorem aAl {f:WF} {X:List (Int×List Int)} {r:List Aa} (hp:r.Perm (sE f X)) (hs:r.Pairwise fun a b=>bY b a=false):r=vM f X:=by
 refine sN ?_ (eU f X) fun x=>by rw [hG,hp.mem_iff]
 have h1:r.Pairwise fun a b=>a.Outcome≠b.Outcome:=hp.symm.pairwise (aFm f X).one fun h=>h.symm
 refine (hs.and h1).imp fun {a b} h=>?_
 exact (dS a.Outcome b.Outcome).elim id fun q=>q.elim (fun q=>absurd q h.2) fun q=>by have:=h.1; unfold bY at this; rw [q] at this; cases this
theorem aKi (f:WF) (X:List (Int×List Int)):kR f X (vM f X):=by
 have h:=aFm f X
 refine⟨fun w hw=>h.from_ w ((hG f X w).1 hw),fun x hx h0=>?_,(eU f X).imp fun {a b} q e=>?_⟩
 ·obtain⟨w,hw,e⟩:=h.all x hx h0
  exact⟨w,(hG f X w).2 hw,e⟩
 ·exact aN8 q e
end
end
section
open Go
noncomputable def Xn (c e:Ac) (day:Int):WF:=fun x=>Is c e day x.1 x.2
noncomputable def Pk (c:Ac) (weak:Int):List (Int×List Int):=kP c ++ Zq c weak
noncomputable def Gz (c e:Ac) (day weak:Int):List Aa:=vM (Xn c e day) (Pk c weak)
theorem rO {c:Ac} {x:Int×List Int}:x∈kP c↔x.2=c.Suites/\x.1<=c.Most/\(bif c.Fallback then c.Least else c.Most)<=x.1:=by
 unfold kP
 rw [aOq]
 constructor
 ·rintro⟨v,hv,rfl⟩
  have:=Uz.1 hv
  exact⟨rfl,this.2,this.1⟩
 ·rintro⟨h1,h2,h3⟩
  exact⟨x.1,Uz.2 ⟨h3,h2⟩,by rw [<- h1]⟩
theorem Vj {c:Ac} {weak:Int} {x:Int×List Int}:x∈Zq c weak↔c.Least<=x.1/\x.1<=c.Most/\∃ n∈c.Suites,I3 weak n=true/\x.2=[n]:=by
 unfold Zq
 rw [List.mem_flatMap]
 constructor
 ·rintro⟨v,hv,hx⟩
  have:=Uz.1 hv
  obtain⟨n,hn,rfl⟩:=aOq.1 hx
  have hn:=aVk.1 hn
  exact⟨this.1,this.2,n,hn.1,hn.2,rfl⟩
 ·rintro⟨h1,h2,n,hn,hf,e⟩
  exact⟨x.1,Uz.2 ⟨h1,h2⟩,aOq.2 ⟨n,aVk.2 ⟨hn,hf⟩,by rw [<- e]⟩⟩
structure aJy (c:Ac) (weak:Int) (x:Int×List Int):Prop where
 low:c.Least<=c.Most->c.Least<=x.1
 top:x.1<=c.Most
 how:(x.2=c.Suites/\(x.1=c.Most\/c.Fallback=true))\/∃ n∈c.Suites,I3 weak n=true/\x.2=[n]
theorem aBd {c:Ac} {weak:Int} {x:Int×List Int} (h:x∈Pk c weak):aJy c weak x:=by
 unfold Pk at h
 rcases aHs.1 h with h | h
 ·obtain⟨h1,h2,h3⟩:=rO.1 h
  cases hf:c.Fallback with
  | true=>rw [hf,aEa] at h3; exact⟨fun _=>h3,h2,.inl ⟨h1,.inr hf⟩⟩
  | false=>rw [hf,aDb] at h3; exact⟨fun q=>Int.le_trans q h3,h2,.inl ⟨h1,.inl (Int.le_antisymm h2 h3)⟩⟩
 ·obtain⟨h1,h2,h3⟩:=Vj.1 h
  exact⟨fun _=>h1,h2,.inr h3⟩
theorem nN (c e:Ac) (day weak:Int):kR (Xn c e day) (Pk c weak) (Gz c e day weak):=aKi _ _
theorem V9 {c e:Ac} {day weak:Int} {w:Aa} (h:w∈Gz c e day weak):aJy c weak (w.Most,w.Suites)/\Is c e day w.Most w.Suites=(w.Outcome,0):=by
 have:=(nN c e day weak).from_ w h
 exact⟨aBd this.1,this.2⟩
theorem Ye {c e:Ac} {day weak:Int} {o:Ap}:(∃ w∈Gz c e day weak,w.Outcome=o)↔∃ x∈Pk c weak,Is c e day x.1 x.2=(o,0):=by
 constructor
 ·rintro⟨w,hw,rfl⟩
  exact⟨_,((nN c e day weak).from_ w hw).1,((nN c e day weak).from_ w hw).2⟩
 ·rintro⟨x,hx,e'⟩
  obtain⟨w,hw,ew⟩:=(nN c e day weak).all x hx (by show (Is _ _ _ _ _).2=0; rw [e'])
  exact⟨w,hw,by rw [ew]; show (Is _ _ _ _ _).1=o; rw [e']⟩
theorem aDr (c e:Ac) (day weak:Int):jE (Gz c e day weak):=eU _ _
theorem zP {c:Ac} {a b:Int} (h:a<=b) {x:Int×List Int} (hx:x∈Pk c a):x∈Pk c b:=by
 unfold Pk at *
 rcases aHs.1 hx with hx | hx
 ·exact aHs.2 (.inl hx)
 ·refine aHs.2 (.inr ?_)
  obtain⟨h1,h2,n,hn,hf,e⟩:=Vj.1 hx
  refine Vj.2 ⟨h1,h2,n,hn,?_,e⟩
  unfold I3 at *
  rw [aF1,aJc,aJc] at *
  omega
theorem aAb {c e:Ac} {day a b:Int} (h:a<=b) {w:Aa} (hw:w∈Gz c e day a):∃ y∈Gz c e day b,y.Outcome=w.Outcome:=by
 obtain⟨x,hx,ex⟩:=Ye.1 ⟨w,hw,rfl⟩
 exact Ye.2 ⟨x,zP h hx,ex⟩
theorem aIl {n:Int} (h:(Nw n).2=0):0 < H8 (Nw n).1.Mac/\0 < H8 (Nw n).1.Cipher:=by
 have:=nC (uY h)
 unfold aFr at this
 simp only [aF1,aJc] at this
 exact⟨this.2.1,this.2.2.1⟩
theorem aC9 {c:Ac} (hf:c.Fallback=false):Pk c 0=[(c.Most,c.Suites)]:=by
 have hB:Zq c 0=[]:=by
  apply bAg.2
  intro x hx
  obtain⟨-,-,n,-,h,-⟩:=Vj.1 hx
  unfold I3 at h
  rw [aF1,aJc,aJc] at h
  have:=(aIl h.1).1
  omega
 unfold Pk kP Sj
 rw [hB,hf,aDb,show (c.Most - c.Most + 1).toNat=1 by omega]
 simp
theorem zE {c e:Ac} {day:Int} (hf:c.Fallback=false):Gz c e day 0=bif decide ((Is c e day c.Most c.Suites).2=0) then [⟨(Is c e day c.Most c.Suites).1,c.Most,c.Suites⟩] else []:=by
 unfold Gz vM
 rw [aC9 hf,aTi,List.foldl_nil]
 rfl
theorem aIh {c e:Ac} {day weak v:Int} {l:List Int} {o:Ap} (h1:c.Least<=v) (h2:v<=c.Most) (hl:∀ n∈l,n∈c.Suites) (h:Is c e day v l=(o,0)) (hw:H8 (Nw o.Suite).1.Mac < weak):∃ w∈Gz c e day weak,w.Outcome=o:=by
 have hc:=Sp.1 h
 have hp:=Nh.1 hc.pos
 refine Ye.2 ⟨(v,[o.Suite]),?_,Sp.2 hc.alone⟩
 unfold Pk
 refine aHs.2 (.inr (Vj.2 ⟨h1,h2,o.Suite,hl _ hp.2.2.2.1,?_,rfl⟩))
 unfold I3
 rw [aA4 hp.1,aA4 hw]
 rfl
theorem aLk {c e:Ac} {day weak:Int} {o:Ap} (hm:c.Least<=c.Most) (h:Is c e day c.Most c.Suites=(o,0)):∃ w∈Gz c e day weak,w.Outcome=o:=by
 refine Ye.2 ⟨(c.Most,c.Suites),?_,h⟩
 unfold Pk
 refine aHs.2 (.inl (rO.2 ⟨rfl,aXi _,?_⟩))
 cases c.Fallback with
 | true=>exact hm
 | false=>exact aXi _
theorem tG {c e:Ac} {day weak:Int} {w:Aa} (hm:c.Least<=c.Most) (h:w∈Gz c e day weak):Rq e c.Suites w.Outcome.Version w.Outcome.Suite=true/\max c.Least e.Least<=w.Outcome.Version/\w.Outcome.Version<=min c.Most e.Most:=by
 obtain⟨ho,hw⟩:=V9 h
 have hc:=Sp.1 hw
 have hp:=Nh.1 hc.pos
 have h1:=hc.ver
 have h2:=hc.low
 have h3:=hc.low'
 have h4:=ho.top
 refine⟨Nh.2 ⟨hp.1,hp.2.1,hp.2.2.1,?_,hp.2.2.2.2⟩,by omega,by omega⟩
 rcases ho.how with ⟨q,-⟩ | ⟨n,hn,-,q⟩
 ·have:=hp.2.2.2.1
  rw [show w.Suites=c.Suites from q] at this
  exact this
 ·have:=hp.2.2.2.1
  rw [show w.Suites=[n] from q,aF4] at this
  rw [this]; exact hn
end
section
open Go
noncomputable def aAu (e:Ac) (n:Int):Ao:=(e.Identities.getD (P4 e n).toNat ⟨⟨0,0⟩,0,[]⟩).Key
def aFp (s:Az) (key:Ao):Ao:=bif decide (s.Exchange.Bits=0) then ⟨s.Exchange.Alg,key.Bits⟩ else s.Exchange
def aFl (s:Az) (key:Ao):List Ao:=[aFp s key,key,s.Cipher,s.Mac]
noncomputable def V1 (e:Ac) (n:Int):List Ao×Int:=bif decide ((Nw n).2=0) then (bif decide (0<=P4 e n) then (aFl (Nw n).1 (aAu e n),0) else ([],4)) else ([],(Nw n).2)
def Y3 (a:Ao->Bool×Int):List Ao->Bool->Bool×Int
 | [],b=>(b,0)
 | u :: l,b=>bif decide ((a u).2=0) then Y3 a l (b || !(a u).1) else (false,(a u).2)
noncomputable def M9 (a:Ao->Bool×Int) (e:Ac) (n:Int):Bool×Int:=bif decide ((V1 e n).2=0) then Y3 a (V1 e n).1 false else (false,(V1 e n).2)
def Rz (f:Int->Bool×Int):List Aa->List Aa->List Aa×Int
 | [],out=>(out,0)
 | w :: l,out=>bif decide ((f w.Outcome.Suite).2=0) then Rz f l (bif (f w.Outcome.Suite).1 then out ++ [w] else out) else ([],(f w.Outcome.Suite).2)
theorem rZ {a:Ao->Bool×Int}:∀ (l:List Ao) (b:Bool),(∀ u∈l,(a u).2=0)->Y3 a l b=(b || l.any (fun u=>!(a u).1),0)
 | [],b,_=>by unfold Y3; simp
 | u :: l,b,h=>by
  unfold Y3
  rw [aA4 (h u (aI4 ..)),aEa,rZ l _ fun x hx=>h x (aHu _ hx),aS9,Bool.or_assoc]
theorem fC {f:Int->Bool×Int}:∀ (l out:List Aa),(∀ w∈l,(f w.Outcome.Suite).2=0)->Rz f l out=(out ++ l.filter (fun w=>(f w.Outcome.Suite).1),0)
 | [],out,_=>by unfold Rz; simp
 | w :: l,out,h=>by
  unfold Rz
  rw [aA4 (h w (aI4 ..)),aEa,fC l _ fun x hx=>h x (aHu _ hx),bAo]
  cases (f w.Outcome.Suite).1 <;> simp
theorem gK {e:Ac} {n:Int} (h:0<=P4 e n):(Nw n).2=0/\∃ x,e.Identities[(P4 e n).toNat]?=some x/\Qn (Nw n).1 x=true/\aAu e n=x.Key:=by
 by_cases h0:(Nw n).2=0
 ·refine⟨h0,?_⟩
  have e1:P4 e n=Ja e.Identities (Qn (Nw n).1):=by unfold P4; rw [aA4 h0]; rfl
  unfold Ja at e1
  cases hf:e.Identities.findIdx? (Qn (Nw n).1) with
  | none=>rw [hf] at e1; rw [e1] at h; exact absurd h (by decide)
  | some i=>
   rw [hf] at e1
   replace e1:P4 e n=(i:Int):=e1
   rw [aL6] at hf
   obtain⟨hi,hp,-⟩:=hf
   refine⟨e.Identities[i],by rw [e1,aMr,aCv hi],hp,?_⟩
   unfold aAu
   rw [e1,aMr,aR6,aCv hi]
   rfl
 ·exfalso
  unfold P4 at h
  rw [aAw h0,aDb] at h
  exact absurd h (by decide)
theorem aEr {b:Int} (h:0 < H8 ⟨5,b⟩):0 < H8 ⟨10,b⟩:=h
theorem aF9 {e:Ac} {n:Int} (hk:∀ x∈e.Identities,0 < H8 x.Key) (h:0<=P4 e n):∀ u∈aFl (Nw n).1 (aAu e n),0 < H8 u:=by
 obtain⟨h0,x,hx,hp,ek⟩:=gK h
 have hx0:=hk x (Fr hx)
 have ht:=nC (uY h0)
 unfold aFr at ht
 simp only [aF1,aR9,aJc] at ht
 obtain⟨-,hm,hc,ht⟩:=ht
 rw [ek]
 intro u hu
 unfold aFl at hu
 simp only [aF2,aF6,aQe] at hu
 rcases hu with rfl | rfl | rfl | rfl
 ·unfold aFp
  rcases ht with ⟨q1,q2,q3⟩ | ⟨q1,q2⟩
  ·rw [aA4 q1,aEa,q2]
   unfold Qn at hp
   rw [q3] at hp
   simp only [aR9,aJc] at hp
   have h5:x.Key.Alg=5:=hp.elim (fun q=>absurd q (by decide)) id
   refine aEr ?_
   rw [<- h5]; exact hx0
  ·rw [aAw q1,aDb]; exact q2
 ·exact hx0
 ·exact hc
 ·exact hm
theorem qZ {a:Ao->Bool×Int} (ha:∀ u,0 < H8 u->(a u).2=0) {e:Ac} (hk:∀ x∈e.Identities,0 < H8 x.Key) {n:Int} (h:0<=P4 e n):(M9 a e n).2=0:=by
 obtain⟨h0,-⟩:=gK h
 unfold M9 V1
 rw [aA4 h0,aA4 h,aEa,aEa]
 show (cond (decide ((0:Int)=0)) _ _:Bool×Int).2=0
 rw [aA4 rfl,aEa,rZ _ _ fun u hu=>ha u (aF9 hk h u hu)]
theorem aFd {a:Ao->Bool×Int} {e:Ac} {n:Int} (hn:(Nw n).2=0) (h:¬ 0<=P4 e n):M9 a e n=(false,4):=by
 unfold M9 V1
 rw [aA4 hn,aAw h,aEa,aDb]
 rfl
theorem uL {a:Ao->Bool×Int} {e t:Ac} (h:t.Identities=e.Identities) (n:Int):M9 a t n=M9 a e n:=by
 unfold M9 V1 aAu P4
 rw [h]
theorem aQ {a:Ao->Bool×Int} (ha:∀ u,0 < H8 u->(a u).2=0) {c e:Ac} (hk:∀ x∈e.Identities,0 < H8 x.Key) {day weak:Int} (hm:c.Least<=c.Most) {w:Aa} (hw:w∈Gz c e day weak):(M9 a e w.Outcome.Suite).2=0/\w.Outcome.Suite∈c.Suites/\w.Outcome.Suite∈e.Suites/\0<=P4 e w.Outcome.Suite:=by
 have hp:=Nh.1 (tG hm hw).1
 exact⟨qZ ha hk hp.2.2.2.2.2,hp.2.2.2.1,hp.2.2.2.2.1,hp.2.2.2.2.2⟩
theorem mI {a:Ao->Bool×Int} (ha:∀ u,0 < H8 u->(a u).2=0) {c e:Ac} (hk:∀ x∈e.Identities,0 < H8 x.Key) {day weak:Int} (hm:c.Least<=c.Most)
  (h:∀ n∈e.Suites,n∈c.Suites->0<=P4 e n->(M9 a e n).1=false):Rz (M9 a e) (Gz c e day weak) []=([],0):=by
 rw [fC _ _ fun w hw=>(aQ ha hk hm hw).1,aSw]
 congr 1
 apply bA9.2
 intro w hw
 obtain⟨-,h1,h2,h3⟩:=aQ ha hk hm hw
 rw [h _ h2 h1 h3]
 exact aX0
theorem yW {a:Ao->Bool×Int} (ha:∀ u,0 < H8 u->(a u).2=0) {c e:Ac} (hk:∀ x∈e.Identities,0 < H8 x.Key) {day weak:Int} (hm:c.Least<=c.Most):(Rz (M9 a e) (Gz c e day weak) []).2=0:=by
 rw [fC _ _ fun w hw=>(aQ ha hk hm hw).1]
end
section
open Go
theorem sH {u:Ao} (h:0 < H8 u):(1<=u.Alg/\u.Alg<=22)/\0<=u.Bits/\u.Bits<=16384:=by
 rcases u with ⟨a,b⟩
 unfold H8 at h
 by_cases ha:1<=a/\a<=22
 ·rw [if_pos ha] at h
  refine⟨ha,?_⟩
  show 0<=b/\b<=16384
  have key:∀ n:Nat,1<=n->n<=22->0 < Jb n b->0<=b/\b<=16384:=fun n h1 h2 h3=>by
   have e:n=1\/n=2\/n=3\/n=4\/n=5\/n=6\/n=7\/n=8\/n=9\/n=10\/n=11\/n=12\/n=13\/n=14\/n=15\/n=16\/n=17\/n=18\/n=19\/n=20\/n=21\/n=22:=by omega
   have once:∀ s:Int,0 < Gc s b->0<=b/\b<=16384:=fun s q=>by
    unfold Gc at q
    split at q <;> omega
   have modu:0 < Hb b->0<=b/\b<=16384:=fun q=>by
    unfold Hb at q
    split at q <;> omega
   have curv:0 < Pv b->0<=b/\b<=16384:=fun q=>by
    unfold Pv at q
    split at q <;> omega
   have list:∀ (sz st:List Int),sz.all (fun z=>decide (0<=z) && decide (z<=16384))=true->0 < T7 sz st b->0<=b/\b<=16384:=fun sz st hs q=>by
    unfold T7 at q
    split at q
    ·rename_i i hi
     rw [aL6] at hi
     obtain⟨h1,h2,-⟩:=hi
     have h2:=aEk h2
     have h3:=aH8.1 hs _ (List.getElem_mem h1)
     rw [aF1,aJc,aJc,<- h2] at h3
     exact h3
    ·omega
   rcases e with rfl | rfl | rfl | rfl | rfl | rfl | rfl | rfl | rfl | rfl | rfl | rfl | rfl | rfl | rfl | rfl | rfl | rfl | rfl | rfl | rfl | rfl <;> first | exact once _ h3 | exact modu h3 | exact curv h3 | exact list _ _ (by decide) h3
  exact key a.toNat (by omega) (by omega) h
 ·rw [if_neg ha] at h
  omega
theorem aFa {c:Ae} (hw:cR c) (h:F6 c=true):Nl c:=by
 unfold F6 Wr at h
 simp only [aS9,bBh,id,Bool.or_false,aR1,bAe,aXr,bA8,Bool.and_eq_false_iff] at h
 obtain⟨h1,h2,-,-,-,h6,h7,h8,h9,h10,h11,h12,h13,h14,h15,h16,h17,h18,h19,-⟩:=h
 have k1:0 < H8 c.Key:=by
  unfold O8 at h7
  rw [aF1,aJc] at h7
  exact h7.1
 have k2:0 < H8 c.Hash:=by
  unfold O8 at h10
  rw [aF1,aJc] at h10
  exact h10.1
 have r1:=sH k1
 have r2:=sH k2
 refine⟨by omega,hw.name,hw.issuer,hw.subject,fun n hn=>?_⟩
 simp only [aF2,aF6,aQe] at hn
 rcases hn with rfl | rfl | rfl | rfl | rfl | rfl | rfl | rfl | rfl | rfl | rfl <;> omega
structure Ul (e:Ac):Prop where
 f:Pt e
 v:EpV e
theorem Ul.shows {e:Ac} (h:Ul e) {x:Al} (hx:x∈e.Identities):0 < H8 x.Key/\∀ c∈x.Chain,Nl c:=by
 have hs:=h.v.ids x hx
 unfold Qx O8 at hs
 simp only [aF1,aJc,aR1] at hs
 refine⟨hs.1.1,fun c hc=>aFa (h.f.chain x hx c hc) ?_⟩
 have:=aR8.1 hs.2.2.2.1 c hc
 cases hq:F6 c with
 | true=>rfl
 | false=>rw [hq] at this; exact absurd rfl this
theorem Ul.check {e:Ac} (h:Ul e):Bp e=some 0:=Dc.zero (Jn h.f) h.v
theorem Ul.checkR {e:Ac} (h:Ul e):A6 e=some 0:=Dc.zero (U2 h.f) h.v
theorem or3 (a b:Bool):cond a (some true) (some b)=some (a || b):=by cases a <;> rfl
theorem yR (s:List Al) (p:Al->Bool) (f:Al->Option Bool) (h:Lo s) (hf:∀ x,f x=some (p x)):Bv s f=some (Ja s p):=by
 unfold Bv
 refine J7 s p h (fun i x hx=>?_) ?_
 ·unfold Bv.l1
  rw [Dz hx,hf x,aAg]
  cases p x <;> rfl
 ·unfold Bv.l1
  rw [Cy]; rfl
theorem aAy (s:Az) (x:Al):Hd x s=some (Qn s x):=or3 _ _
theorem aDv {e:Ac} {n:Int} (h:(Nw n).2≠0):P4 e n=-1:=by
 unfold P4
 rw [aAw h]; rfl
theorem xT {e:Ac} {n:Int} (h:(Nw n).2=0):P4 e n=Ja e.Identities (Qn (Nw n).1):=by
 unfold P4
 rw [aA4 h]; rfl
theorem Xi {e:Ac} (h:Lo e.Identities) (n:Int):Fg e n=some (P4 e n,decide (0<=P4 e n)):=by
 unfold Fg
 rw [dK,aAg]
 by_cases h0:(Nw n).2=0
 ·rw [aA4 h0,aHl,aDb,yR _ (Qn (Nw n).1) _ h (fun x=>aAy _ x),aAg,xT h0]
 ·rw [aAw h0,aR0,aEa,aDv h0]
  rfl
theorem Xg {e:Ac} (h:Lo e.Identities) (n:Int):C6 e n=some (P4 e n,decide (0<=P4 e n)):=by
 unfold C6
 rw [Qb,aAg]
 by_cases h0:(Nw n).2=0
 ·rw [aA4 h0,aHl,aDb,xT h0]
  refine (Qk (body:=fun q'=>C6.l1 e (Nw n) q') e.Identities (fun i=>(i:Int)) (Qn (Nw n).1) (fun i=>((i:Int),true)) (-1,false) (fun i x hx=>?_) ?_).trans ?_
  ·have hi:=G3 hx
   show C6.l1 e (Nw n) (i:Int)=_
   unfold C6.l1
   rw [aA4 (by omega),aEa]
   have j:∀ b,C6.j2 (i:Int) b=some (bif b then .done ((i:Int),true) else .next ((i + 1:Nat):Int)):=fun b=>by
    unfold C6.j2
    rw [Fo (by unfold Lo at h; omega)]
    cases b <;> rfl
   unfold Qn
   cases decide ((Nw n).1.Sign.Alg=0) with
   | true=>rw [aEa,j]; rfl
   | false=>rw [aDb,Ef,hx,aAg,j]; rfl
  ·show C6.l1 e (Nw n) (e.Identities.length:Int)=_
   unfold C6.l1
   rw [Cy]; rfl
  ·unfold Ja
   cases e.Identities.findIdx? (Qn (Nw n).1) with
   | none=>rfl
   | some i=>
    show some ((i:Int),true)=some ((i:Int),decide (0<=(i:Int)))
    rw [aA4 (by omega)]
 ·rw [aAw h0,aR0,aEa,aDv h0]
  rfl
theorem uD (a b:Int):decide (a<=b)=!decide (b < a):=by
 by_cases h:a<=b
 ·rw [aA4 h,aAw (by omega)]; rfl
 ·rw [aAw h,aA4 (by omega)]; rfl
theorem wB {e:Ac} (h:Pt e) {l:List Int} (hl:Lo l) (v n:Int):B2 ⟨e,v,l⟩ n=some (Rq e l v n):=by
 unfold B2
 rw [dK,aAg]
 have j:∀ b,B2.j1 ⟨e,v,l⟩ n b=some (!b && decide (0<=P4 e n)):=fun b=>by
  unfold B2.j1
  show cond b _ ((Fg e n).bind _)=_
  rw [Xi h.ids]
  cases b <;> rfl
 show cond _ _ (cond (decide (v < (Nw n).1.Least)) _ (cond (decide ((Nw n).1.Most < v)) _ ((Cz l n).bind fun y_2=>cond (!y_2) _ ((Cz e.Suites n).bind _))))=_
 unfold Rq
 rw [Mz l n hl,Mz e.Suites n h.suites,aAg,aAg]
 simp only [j,uD]
 cases decide ((Nw n).2=0) <;> cases decide (v < (Nw n).1.Least) <;> cases decide ((Nw n).1.Most < v) <;> cases decide (n∈l) <;> cases decide (n∈e.Suites) <;> rfl
theorem fN {e:Ac} (h:Pt e) {l:List Int} (hl:Lo l) (v n:Int):D8 e l v n=some (Rq e l v n):=by
 unfold D8
 rw [Qb,aAg]
 have j:∀ b,D8.j1 e n b=some (!b && decide (0<=P4 e n)):=fun b=>by
  unfold D8.j1
  rw [Xg h.ids]
  cases b <;> rfl
 unfold Rq
 rw [Nr l n hl,Nr e.Suites n h.suites,aAg,aAg]
 simp only [j,uD]
 cases decide ((Nw n).2=0) <;> cases decide (v < (Nw n).1.Least) <;> cases decide ((Nw n).1.Most < v) <;> cases decide (n∈l) <;> cases decide (n∈e.Suites) <;> rfl
theorem aH3 (s:List Int) (p:Int->Bool) (f:Int->Option Bool) (h:Lo s) (hf:∀ x,f x=some (p x)):Bi s f=some (Ja s p):=by
 unfold Bi
 refine J7 s p h (fun i x hx=>?_) ?_
 ·unfold Bi.l1
  rw [Dz hx,hf x,aAg]
  cases p x <;> rfl
 ·unfold Bi.l1
  rw [Cy]; rfl
theorem fO {α:Type} (l:List α) (p:α->Bool):(Ja l p=-1/\l.find? p=none)\/∃ i:Nat,∃ x,Ja l p=(i:Int)/\l[i]?=some x/\l.find? p=some x/\p x=true:=by
 unfold Ja
 cases h:l.findIdx? p with
 | none=>
  refine .inl ⟨rfl,?_⟩
  rw [List.find?_eq_none]
  intro x hx
  have:=aYm.1 h x hx
  rw [this]; exact aX0
 | some i=>
  have h':=h
  rw [aL6] at h'
  obtain⟨hi,hp,hn⟩:=h'
  refine .inr ⟨i,l[i],rfl,aCv hi,?_,hp⟩
  rw [List.find?_eq_some_iff_getElem]
  exact⟨hp,i,hi,rfl,fun j hj=>by
   have:=hn j hj
   simpa using this⟩
theorem xU {c e:Ac} (h:Ul e) {day v n:Int} (hn:0<=P4 e n) {chk:List Ae->Option Int} (hc:∀ l,(∀ x∈l,Nl x)->chk l=some (Tm l c.Anchors c.Hashes day e.Name)) {r:Option Int->Option (Ap×Int)} :
  ((Bm e.Identities (P4 e n)).bind fun e_2=>(chk e_2.Chain).bind fun y=>cond (!decide (y=0)) (some ((⟨0,0⟩:Ap),(29:Int))) (some (⟨v,n⟩,0)))=some (bif Ts c e day n then (⟨v,n⟩,0) else (⟨0,0⟩,29)):=by
 obtain⟨-,x,hx,-,-⟩:=gK hn
 have G:Bm e.Identities (P4 e n)=some x:=by
  have:=Ef (l:=e.Identities) (j:=(P4 e n).toNat)
  rw [show (((P4 e n).toNat:Nat):Int)=P4 e n by omega] at this
  rw [this,hx]
 rw [G,aAg,hc _ (h.shows (Fr hx)).2,aAg]
 unfold Ts
 rw [hx]
 show _=some (cond (decide (Tm x.Chain c.Anchors c.Hashes day e.Name=0)) _ _)
 cases decide (Tm x.Chain c.Anchors c.Hashes day e.Name=0) <;> rfl
theorem aLz {c e:Ac} (hc:Ul c) (he:Ul e) {day most:Int} (hd:0<=day/\day<=40000) (hm:1<=most/\most<=4) {l:List Int} (hl:Lo l):Dh c e day most l=some (Is c e day most l):=by
 have hright:Jq c e=some true:=by
  unfold Jq
  rw [hc.check,he.check]; rfl
 unfold Dh
 rw [hright,aAg,aHl,aDb,aAw (by omega),aAw (by omega),aAw (by omega),aAw (by omega),aDb,aDb,aDb]
 unfold Dh.j1
 rw [aDb]
 have both:∀ o:List Int,Lo o->Tx e l=o->((Bi o (fun x0=>B2 ⟨e,min most e.Most,l⟩ x0)).bind fun y_3=>
   cond (decide (y_3 < 0)) (some ((⟨0,0⟩:Ap),(28:Int)))
    ((Bm o y_3).bind fun e'=>(Fg e e').bind fun y_4=>(Bm e.Identities y_4.1).bind fun e_2=>(Cn e_2.Chain c.Anchors c.Hashes day e.Name).bind fun y_5=>
    cond (!decide (y_5=0)) (some (⟨0,0⟩,29)) (some (⟨min most e.Most,e'⟩,0))))=some (bJ c e day (min most e.Most) l):=fun o ho eo=>by
  rw [aH3 o (Rq e l (min most e.Most)) _ ho (fun x=>wB he.f hl _ x),aAg]
  unfold bJ
  rw [eo]
  rcases fO o (Rq e l (min most e.Most)) with ⟨h1,h2⟩ | ⟨i,x,h1,h2,h3,h4⟩
  ·rw [h1,h2]; rfl
  ·rw [h1,h3,aAw (by omega),aDb,Ef,h2,aAg,Xi he.f.ids,aAg]
   exact xU (c:=c) he (Nh.1 h4).2.2.2.2.2 (chk:=fun q=>Cn q c.Anchors c.Hashes day e.Name) (fun q hq=>tM q _ _ _ _ hc.f.anchors hc.f.hashes hq) (r:=fun _=>none)
 have j:∀ b,Dh.j2 c e day most l b=some (bif b then (⟨0,0⟩,27) else bJ c e day (min most e.Most) l):=fun b=>by
  unfold Dh.j2
  cases b with
  | true=>rfl
  | false=>
   rw [aDb,aDb]
   cases ho:e.OwnOrder with
   | true=>
    rw [aEa]
    exact both e.Suites he.f.suites (by unfold Tx; rw [ho]; rfl)
   | false=>
    rw [aDb]
    exact both l hl (by unfold Tx; rw [ho]; rfl)
 unfold Is
 simp only [j]
 cases decide (min most e.Most < c.Least) <;> cases decide (min most e.Most < e.Least) <;> rfl
theorem bE {c e:Ac} (hc:Ul c) (he:Ul e) {day most:Int} (hd:0<=day/\day<=40000) (hm:1<=most/\most<=4) {l:List Int} (hl:Lo l):B1 c e day most l=some (Is c e day most l):=by
 unfold B1
 rw [hc.checkR,he.checkR,aAg,aAg,show (!decide ((0:Int)=0))=false from rfl,aDb]
 unfold B1.j1
 rw [aDb,aAw (by omega),aAw (by omega),aAw (by omega),aAw (by omega),aDb,aDb,aDb]
 unfold B1.j2
 rw [aDb]
 have both:∀ o:List Int,Lo o->Tx e l=o->B1.j4 c e day most l o=some (bJ c e day (min most e.Most) l):=fun o ho eo=>by
  unfold B1.j4
  refine (Qk (body:=fun q'=>B1.l5 c e day most l o q') o (fun i=>(i:Int)) (Rq e l (min most e.Most)) (fun i=>bif Ts c e day (o.getD i 0) then (⟨min most e.Most,o.getD i 0⟩,0) else (⟨0,0⟩,29)) (⟨0,0⟩,28) (fun i x hx=>?_) ?_).trans ?_
  ·have hi:=G3 hx
   show B1.l5 c e day most l o (i:Int)=_
   unfold B1.l5
   rw [Dz hx,fN he.f hl,aAg]
   cases hp:Rq e l (min most e.Most) x with
   | false=>
    rw [aR0,aEa,Fo (by unfold Lo at ho; omega)]; rfl
   | true=>
    rw [aHl,aDb,Xg he.f.ids,aAg,aEa]
    have ht:=xU (c:=c) he (day:=day) (v:=min most e.Most) (Nh.1 hp).2.2.2.2.2 (chk:=fun q=>Dg q c.Anchors c.Hashes day e.Name) (fun q hq=>bN q _ _ _ _ hc.f.anchors hc.f.hashes hq) (r:=fun _=>none)
    have hx':o.getD i 0=x:=by rw [aR6,hx]; rfl
    rw [hx']
    obtain⟨-,x',hx2,-,-⟩:=gK (Nh.1 hp).2.2.2.2.2
    have G:Bm e.Identities (P4 e x)=some x':=by
     have:=Ef (l:=e.Identities) (j:=(P4 e x).toNat)
     rw [show (((P4 e x).toNat:Nat):Int)=P4 e x by have:=(Nh.1 hp).2.2.2.2.2; omega] at this
     rw [this,hx2]
    rw [G,aAg] at ht ⊢
    have hk:=bN x'.Chain c.Anchors c.Hashes day e.Name hc.f.anchors hc.f.hashes (he.shows (Fr hx2)).2
    rw [hk,aAg] at ht ⊢
    cases hq:decide (Tm x'.Chain c.Anchors c.Hashes day e.Name=0) with
    | true=>rw [hq] at ht; rw [<- oi_ ht]; rfl
    | false=>rw [hq] at ht; rw [<- oi_ ht]; rfl
  ·show B1.l5 c e day most l o (o.length:Int)=_
   unfold B1.l5
   rw [Cy]; rfl
  ·unfold bJ
   rw [eo]
   rcases fO o (Rq e l (min most e.Most)) with ⟨h1,h2⟩ | ⟨i,x,h1,h2,h3,h4⟩
   ·rw [h2]
    unfold Ja at h1
    cases hf:o.findIdx? (Rq e l (min most e.Most)) with
    | none=>rfl
    | some i=>rw [hf] at h1; exact absurd h1 (by show ¬ (i:Int)=-1; omega)
   ·rw [h3]
    unfold Ja at h1
    cases hf:o.findIdx? (Rq e l (min most e.Most)) with
    | none=>rw [hf] at h1; exact absurd h1 (by show ¬ (-1:Int)=(i:Int); omega)
    | some k=>
     rw [hf] at h1
     have:k=i:=by
      have h1:(k:Int)=(i:Int):=h1
      omega
     subst this
     show some (bif Ts c e day (o.getD k 0) then _ else _)=_
     rw [show o.getD k 0=x by rw [aR6,h2]; rfl]
 have j:∀ b,B1.j3 c e day most l b=some (bif b then (⟨0,0⟩,27) else bJ c e day (min most e.Most) l):=fun b=>by
  unfold B1.j3
  cases b with
  | true=>rfl
  | false=>
   rw [aDb,aDb]
   cases ho:e.OwnOrder with
   | true=>
    rw [aEa]
    exact both e.Suites he.f.suites (by unfold Tx; rw [ho]; rfl)
   | false=>
    rw [aDb]
    exact both l hl (by unfold Tx; rw [ho]; rfl)
 unfold Is
 simp only [j]
 cases decide (min most e.Most < c.Least) <;> cases decide (min most e.Most < e.Least) <;> rfl
end
section
open Go
theorem Uc {α S T R:Type} {body:T->Option (Lp T R)} {X:S->Option R} (l:List α) (st:Nat->S->T) (F:S->α->S) (P:Nat->S->Prop) {s0:S} (h0:P 0 s0)
  (h1:∀ i x s,l[i]?=some x->P i s->body (st i s)=some (.next (st (i + 1) (F s x)))/\P (i + 1) (F s x)) (h2:∀ s,P l.length s->body (st l.length s)=up (X s)):Bz body (st 0 s0)=X (l.foldl F s0):=by
 have key:∀ (m:List α) i s,l.drop i=m->i<=l.length->P i s->Bz body (st i s)=X (m.foldl F s):=by
  intro m
  induction m with
  | nil=>
   intro i s hd hi hp
   have:l.length<=i:=aZa.1 hd
   obtain rfl:i=l.length:=by omega
   exact D4 (h2 s hp)
  | cons x m ih=>
   intro i s hd hi hp
   have hx:l[i]?=some x:=by
    have:=congrArg List.head? hd
    rw [bBm] at this
    exact this
   obtain⟨e,hp'⟩:=h1 i x s hx hp
   rw [E0 e,aTi]
   refine ih (i + 1) _ ?_ (G3 hx) hp'
   rw [<- aZg,hd]
   rfl
 exact key l 0 s0 rfl (aOm _) h0
theorem dZ {hi lo:Int} {i:Nat} {x:Int} (h:(Sj hi lo)[i]?=some x):x=hi - (i:Int)/\lo<=x/\x<=hi:=by
 have hm:=Uz.1 (Fr h)
 unfold Sj at h
 rw [aPc] at h
 cases hr:(List.range (hi - lo + 1).toNat)[i]? with
 | none=>rw [hr] at h; cases h
 | some k=>
  rw [hr] at h
  have hk:k=i:=by
   rw [List.getElem?_range (by have:=G3 hr; rw [List.length_range] at this; exact this)] at hr
   exact (oi_ hr).symm
  subst hk
  exact⟨(oi_ h).symm,hm.1,hm.2⟩
theorem Ls (hi lo:Int):(Sj hi lo).length=(hi - lo + 1).toNat:=by unfold Sj; simp
theorem iL {α β S:Type} (F:S->β->S) (g:α->List β):∀ (l:List α) (s:S),(l.flatMap g).foldl F s=l.foldl (fun s a=>(g a).foldl F s) s
 | [],s=>rfl
 | a :: l,s=>by rw [aOo,bAw,aTi,iL F g l]
theorem gA {α β S:Type} (F:S->β->S) (p:α->Bool) (h:α->β):∀ (l:List α) (s:S),((l.filter p).map h).foldl F s=l.foldl (fun s a=>bif p a then F s (h a) else s) s
 | [],s=>rfl
 | a :: l,s=>by
  rw [bAo,aTi,<- gA F p h l]
  cases p a <;> rfl
theorem aI9 {S:Type} (F:S->Int×List Int->S) (c:Ac) (weak:Int) (s:S):(Zq c weak).foldl F s=(Sj c.Most c.Least).foldl (fun s v=>c.Suites.foldl (fun s n=>bif I3 weak n then F s (v,[n]) else s) s) s:=by
 unfold Zq
 rw [iL]
 congr 1
 funext s v
 exact gA _ _ _ _ _
theorem aJg {S:Type} (F:S->Int×List Int->S) (c:Ac) (s:S):(kP c).foldl F s=(Sj c.Most (bif c.Fallback then c.Least else c.Most)).foldl (fun s v=>F s (v,c.Suites)) s:=by
 unfold kP
 rw [List.foldl_map]
theorem zO (l:List Int) (h:l.length<=1000000):E5 l=some l:=by
 have e:∀ b,E5.j1 l b=some (bif b then [] else l):=fun b=>by
  unfold E5.j1
  cases b with
  | true=>rfl
  | false=>rw [aDb,D1 (by simp; omega)]; rfl
 unfold E5
 rw [e,e]
 unfold kO
 cases l with
 | nil=>rw [if_pos rfl]; exact if_pos rfl
 | cons x l=>rw [if_neg (by simp)]; rfl
theorem xK (s:List Aa) (o:Ap) (h:Lo s) (f:Aa->Option Bool) (hf:∀ x,f x=some (decide (x.Outcome=o))):D2 s f=some (s.any fun w=>decide (w.Outcome=o)):=by
 have hi:Bx s f=some (Ja s fun w=>decide (w.Outcome=o)):=by
  unfold Bx
  refine J7 s _ h (fun i x hx=>?_) ?_
  ·unfold Bx.l1
   rw [Dz hx,hf x,aAg]
   cases decide (x.Outcome=o) <;> rfl
  ·unfold Bx.l1
   rw [Cy]; rfl
 unfold D2
 rw [hi,aAg,Mj]
theorem gW (f:WF) (out:List Aa) (x:Int×List Int):(Ps f out x).length<=out.length + 1:=by
 rcases Xw f out x with e | ⟨-,-,e⟩ <;> rw [e] <;> simp
theorem aB6 {c e:Ac} {day:Int} (hc:Ul c) (he:Ul e) (hd:0<=day/\day<=40000) {most:Int} (hm:1<=most/\most<=4) {l:List Int} (hl:l.length<=1000) {out:List Aa} (ho:out.length<=100000):En most l c e day out=some (Ps (Xn c e day) out (most,l)):=by
 have ho':Lo out:=by unfold Lo; omega
 unfold En
 rw [aLz hc he hd hm (by unfold Lo; omega),aAg,xK out (Is c e day most l).1 ho' (fun x0=>Hz x0 (Is c e day most l).1) (fun x=>rfl),aAg]
 have j:∀ b,En.j2 most l out (Is c e day most l) b=some (bif b then out ++ [⟨(Is c e day most l).1,most,l⟩] else out):=fun b=>by
  unfold En.j2
  rw [zO l (by omega),aAg,D1 (by simp; omega)]
  cases b <;> rfl
 rw [j,j]
 unfold Ps Xn
 cases decide ((Is c e day most l).2=0) with
 | true=>rfl
 | false=>rfl
theorem zK {c e:Ac} {day:Int} {weak:Int} (hc:Ul c) (he:Ul e) (hd:0<=day/\day<=40000) (n:Int):I4 n weak=some (I3 weak n):=by
 unfold I4 I3
 rw [dK,aAg,Zm]
 cases decide ((Nw n).2=0) <;> rfl
theorem vO {c e:Ac} {day:Int} (hc:Ul c) (he:Ul e) (hd:0<=day/\day<=40000):c.Suites.length<=16:=uI hc.v.suites
theorem aIf {c e:Ac} {day:Int} {weak:Int} (hc:Ul c) (he:Ul e) (hd:0<=day/\day<=40000) {v:Int} (hv:1<=v/\v<=4) {out:List Aa} (ho:out.length<=50000):Bz (fun q':Int×List Aa=>Av.l8 c e day weak v q'.1 q'.2) (0,out)=some (.next (v - 1,c.Suites.foldl (fun s n=>bif I3 weak n then Ps (Xn c e day) s (v,[n]) else s) out)):=by
 have hs:=vO hc he hd
 refine (Uc (body:=fun q':Int×List Aa=>Av.l8 c e day weak v q'.1 q'.2) (X:=fun s=>some (Lp.next (v - 1,s))) c.Suites (fun i s=>((i:Int),s)) (fun s n=>bif I3 weak n then Ps (Xn c e day) s (v,[n]) else s) (fun i s=>s.length<=50000 + i) (by omega) (fun i x s hx hp=>?_) (fun s hp=>?_))
 ·have hi:=G3 hx
  refine⟨?_,?_⟩
  ·show Av.l8 c e day weak v (i:Int) s=_
   unfold Av.l8
   rw [Dz hx,zK hc he hd,aAg]
   have j:∀ s',Av.j9 (i:Int) s'=some (.next (((i + 1:Nat):Int),s')):=fun s'=>by
    unfold Av.j9
    rw [Fo (by omega)]
   cases I3 weak x with
   | true=>
    rw [aEa,aB6 hc he hd hv (by simp) (by omega),aAg,j]; rfl
   | false=>rw [aDb,j]; rfl
  ·have:=gW (Xn c e day) s (v,[x])
   cases I3 weak x with
   | true=>rw [aEa]; omega
   | false=>rw [aDb]; omega
 ·show Av.l8 c e day weak v (c.Suites.length:Int) s=_
  unfold Av.l8
  rw [Cy,Ej (by omega)]
theorem lC {c e:Ac} {day:Int} {weak:Int} (hc:Ul c) (he:Ul e) (hd:0<=day/\day<=40000) (v:Int):∀ (l:List Int) (out:List Aa),(l.foldl (fun s n=>bif I3 weak n then Ps (Xn c e day) s (v,[n]) else s) out).length<=out.length + l.length
 | [],out=>by simp
 | n :: l,out=>by
  rw [aTi]
  have h1:=lC (weak:=weak) hc he hd v l (bif I3 weak n then Ps (Xn c e day) out (v,[n]) else out)
  have h2:=gW (Xn c e day) out (v,[n])
  simp only [aJw]
  cases hq:I3 weak n with
  | true=>rw [hq,aEa] at h1; rw [aEa]; omega
  | false=>rw [hq,aDb] at h1; rw [aDb]; omega
theorem aCw {c e:Ac} {day:Int} {weak:Int} (hc:Ul c) (he:Ul e) (hd:0<=day/\day<=40000) {X:List Aa->Option (List Aa×Int)} {out:List Aa} (ho:out.length<=10)
  (hX:∀ s:List Aa,s.length<=100->((Dr s (fun x0 x1=>E9 x0 x1)).bind fun y_6=>some (y_6,(0:Int)))=X s):Bz (fun q':Int×List Aa=>Av.l7 c e day weak q'.1 q'.2) (c.Most,out)=X ((Zq c weak).foldl (Ps (Xn c e day)) out):=by
 have hs:=vO hc he hd
 have v1:=hc.v.least
 have v2:=hc.v.most
 have v3:=hc.v.most4
 rw [aI9]
 have e0:(c.Most,out)=(fun (i:Nat) (s:List Aa)=>(c.Most - (i:Int),s)) 0 out:=by simp
 rw [e0]
 refine Uc (body:=fun q':Int×List Aa=>Av.l7 c e day weak q'.1 q'.2) (X:=X) (Sj c.Most c.Least) (fun i s=>(c.Most - (i:Int),s)) _ (fun i s=>s.length<=10 + 16 * i) (by omega) (fun i x s hx hp=>?_) (fun s hp=>?_)
 ·obtain⟨ex,hx1,hx2⟩:=dZ hx
  have hi:=G3 hx
  rw [Ls] at hi
  refine⟨?_,?_⟩
  ·show Av.l7 c e day weak (c.Most - (i:Int)) s=_
   unfold Av.l7
   rw [<- ex,aA4 hx1,aEa,aIf hc he hd (by omega) (by omega),show x - 1=c.Most - ((i + 1:Nat):Int) by omega]
  ·have:=lC hc he hd (weak:=weak) x c.Suites s
   show (c.Suites.foldl _ s).length<=_
   omega
 ·show Av.l7 c e day weak (c.Most - ((Sj c.Most c.Least).length:Int)) s=_
  rw [Ls] at hp ⊢
  unfold Av.l7
  rw [aAw (by omega),aDb,hX s (by omega)]
theorem aB3 {c e:Ac} {day:Int} {weak:Int} (hc:Ul c) (he:Ul e) (hd:0<=day/\day<=40000) {least:Int} (hl:least=bif c.Fallback then c.Least else c.Most) {X:List Aa->Option (List Aa×Int)}
  (hX:∀ s:List Aa,s.length<=100->((Dr s (fun x0 x1=>E9 x0 x1)).bind fun y_6=>some (y_6,(0:Int)))=X s):Av.j5 c e day weak least=X (sE (Xn c e day) (Pk c weak)):=by
 have hs:=vO hc he hd
 have v1:=hc.v.least
 have v2:=hc.v.most
 have v3:=hc.v.most4
 have l1:c.Least<=least:=by
  rw [hl]
  cases c.Fallback with
  | true=>exact aXi _
  | false=>exact v2
 unfold Av.j5 sE Pk
 rw [bAw,aJg,<- hl]
 have e0:(c.Most,([]:List Aa))=(fun (i:Nat) (s:List Aa)=>(c.Most - (i:Int),s)) 0 []:=by simp
 rw [e0]
 refine Uc (body:=fun q':Int×List Aa=>Av.l6 c e day weak least q'.1 q'.2) (X:=fun s=>X ((Zq c weak).foldl (Ps (Xn c e day)) s)) (Sj c.Most least) (fun i s=>(c.Most - (i:Int),s)) _ (fun i s=>s.length<=i) (aJf _) (fun i x s hx hp=>?_) (fun s hp=>?_)
 ·obtain⟨ex,hx1,hx2⟩:=dZ hx
  have hi:=G3 hx
  rw [Ls] at hi
  refine⟨?_,?_⟩
  ·show Av.l6 c e day weak least (c.Most - (i:Int)) s=_
   unfold Av.l6
   rw [<- ex,aA4 hx1,aEa,aB6 hc he hd (by omega) (by omega) (by omega),aAg,Ej (by omega),show x - 1=c.Most - ((i + 1:Nat):Int) by omega]
  ·have:=gW (Xn c e day) s (x,c.Suites)
   show (Ps _ s (x,c.Suites)).length<=_
   omega
 ·show Av.l6 c e day weak least (c.Most - ((Sj c.Most least).length:Int)) s=_
  rw [Ls] at hp ⊢
  unfold Av.l6
  rw [aAw (by omega),aDb,aCw hc he hd (by omega) hX]
theorem wM (x y:Int):Ie x y=some (aK6 x y):=by
 unfold Ie Lt aK6
 by_cases h1:x < y
 ·simp [h1]
 ·by_cases h2:y < x <;> simp [h1,h2]
theorem aJ8 (x y:Int):Gt [x,y]=some (bif decide (x=0) then y else x):=by
 unfold Gt
 have h0:Gt.l1 [x,y] 0=bif decide (x=0) then some (.next 1) else up (some x):=by
  unfold Gt.l1
  show cond (!decide (x=0)) _ _=_
  cases decide (x=0) <;> rfl
 have h1:Gt.l1 [x,y] 1=bif decide (y=0) then some (.next 2) else up (some y):=by
  unfold Gt.l1
  show cond (!decide (y=0)) _ _=_
  cases decide (y=0) <;> rfl
 have h2:Gt.l1 [x,y] 2=up (some 0):=rfl
 by_cases hx:x=0
 ·rw [aA4 hx] at h0 ⊢
  rw [E0 h0]
  by_cases hy:y=0
  ·rw [aA4 hy] at h1
   rw [E0 h1,D4 h2,hy]; rfl
  ·rw [aAw hy] at h1
   rw [D4 h1]; rfl
 ·rw [aAw hx] at h0 ⊢
  rw [D4 h0]; rfl
theorem aHy (a b:Aa):∃ n,E9 a b=some n/\decide (n < 0)=bY a b:=by
 unfold E9
 rw [wM,wM,aAg,aAg,aJ8,aAg]
 refine⟨_,rfl,?_⟩
 unfold bY rS aK6
 rcases Int.lt_trichotomy a.Outcome.Version b.Outcome.Version with h | h | h
 ·simp [h]
 ·have n1:¬ b.Outcome.Version < b.Outcome.Version:=by omega
  rcases Int.lt_trichotomy a.Outcome.Suite b.Outcome.Suite with g | g | g
  ·simp [h,g]
  ·simp [h,g]
  ·simp [h,g,show ¬ a.Outcome.Suite < b.Outcome.Suite by omega]
 ·simp [h,show ¬ a.Outcome.Version < b.Outcome.Version by omega,show ¬ a.Outcome.Version=b.Outcome.Version by omega]
theorem aIs:Sort.SWO bY where
 irrefl x:=Wl _
 trans x y z:=mZ
 ntrans x y z h g:=by
  unfold bY at *
  rcases dS x.Outcome y.Outcome with q | q | q
  ·rw [h] at q; cases q
  ·rw [q]; exact g
  ·rcases dS y.Outcome z.Outcome with k | k | k
   ·rw [g] at k; cases k
   ·rw [<- k]; exact h
   ·exact aCa (mZ k q)
theorem bZ {c e:Ac} {day weak:Int} (hc:Ul c) (he:Ul e) (hd:0<=day/\day<=40000) (hw:0<=weak/\weak<=512):Av c e day weak=some (Gz c e day weak,0):=by
 unfold Av
 rw [hc.check,he.check,aAg,aAg,show (!decide ((0:Int)=0))=false from rfl,aDb]
 unfold Av.j1
 rw [aDb,aAw (by omega),aAw (by omega),aAw (by omega),aAw (by omega),aDb,aDb,aDb]
 unfold Av.j2
 rw [aDb]
 have hX:∀ s:List Aa,s.length<=100->((Dr s (fun x0 x1=>E9 x0 x1)).bind fun y_6=>some (y_6,(0:Int)))=(fun s=>(Dr s (fun x0 x1=>E9 x0 x1)).bind fun y_6=>some (y_6,(0:Int))) s:=fun s _=>rfl
 have hlen:(sE (Xn c e day) (Pk c weak)).length<=65535:=by
  have h1:=lB (Xn c e day) (Pk c weak) []
  have h2:(Pk c weak).length<=1000:=by
   have hs:=vO hc he hd
   have v1:=hc.v.least
   have v3:=hc.v.most4
   have hA:(kP c).length<=4:=by
    unfold kP
    rw [aYw,Ls]
    cases c.Fallback with
    | true=>rw [aEa]; omega
    | false=>rw [aDb]; omega
   have hB:(Zq c weak).length<=4 * 16:=by
    unfold Zq
    have key:∀ l:List Int,(l.flatMap fun v=>(c.Suites.filter (I3 weak)).map fun n=>(v,[n])).length<=l.length * 16:=fun l=>by
     induction l with
     | nil=>simp
     | cons a l ih=>
      rw [aOo,aF3,aYw,aJw]
      have:=aUn (I3 weak) c.Suites
      omega
    have:=key (Sj c.Most c.Least)
    rw [Ls] at this
    omega
   unfold Pk
   rw [aF3]
   omega
  have h3:(sE (Xn c e day) (Pk c weak)).length<=([]:List Aa).length + (Pk c weak).length:=h1
  simp only [bAt] at h3
  omega
 obtain⟨r,hr1,hr2,hr3⟩:=jU (cmp:=fun x0 x1=>E9 x0 x1) (lt:=bY) (P:=fun _=>True) aIs (fun x y _ _=>aHy x y) (sE (Xn c e day) (Pk c weak)) (by unfold Vi; exact hlen) (fun _ _=>trivial)
 have fin:∀ least,(least=bif c.Fallback then c.Least else c.Most)->Av.j5 c e day weak least=some (Gz c e day weak,0):=fun least hl=>by
  rw [aB3 hc he hd hl hX]
  show (Dr _ _).bind _=_
  rw [hr1,aAg,aAl hr2 hr3]
  rfl
 cases hf:c.Fallback with
 | true=>rw [aEa]; exact fin _ (by rw [hf]; rfl)
 | false=>rw [aDb]; exact fin _ (by rw [hf]; rfl)
end
end Go.Proofs.YtobamahlipiakaaGreat
