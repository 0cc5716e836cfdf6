/- Plain texts, joined. No program is in sight here. -/
import Derived.Test.YtboglmbblmakjaaGreatDoorPU
set_option linter.unusedVariables false
set_option linter.unusedSimpArgs false
namespace Go.Proofs.YtboglmbblmakjaaGreatDoor
section
open Go
def Md {S R:Type} (n:Nat) (body:S->Option (Lp S R)) (s:S):Option R:=Sz body n s
theorem As.lpC {S R:Type} {f g:S->Option (Lp S R)} (n:Nat) (h:∀ s,As (f s) (g s)) (s:S):As (Md n f s) (C7 g s):=fun r hr=>Z5 (As.it h n s r hr)
theorem Py {A R:Type} {F:(A->Option R)->A->Option R} (hm:Wi F) (spec:A->R) (μ:A->Nat) (Pre:A->Prop) (h:∀ rec a,Pre a->(∀ b,Pre b->μ b < μ a->rec b=some (spec b))->F rec a=some (spec a)) (a:A) (ha:Pre a):aB F a=some (spec a):=by
 have key:∀ n a,Pre a->μ a < n->iW F n a=some (spec a):=by
  intro n
  induction n with
  | zero=>intro a _ h0; exact absurd h0 (Nat.not_lt_zero _)
  | succ n ih=>intro a ha hn; exact h _ a ha fun b hb hl=>ih b hb (by omega)
 exact aG8 hm (key (μ a + 1) a ha (aKf _))
def aR0 {α β:Type} [DecidableEq β] (l:List α) (a b:Option β):Option β:=match l with
 | []=>(match a,b with
  | some x,some y=>if x=y then some x else none
  | _,_=>none)
 | _ :: _=>b
theorem As.nil {α β:Type} [DecidableEq β] {l:List α} {a a' b b':Option β} (h:As a a') (k:As b b'):As (aR0 l a b) (Yr l a' b'):=fun r hr=>by
 unfold aR0 at hr
 unfold Yr
 cases l with
 | nil=>
  rw [if_pos rfl]
  cases a with
  | none=>cases hr
  | some x=>
   cases b with
   | none=>cases hr
   | some y=>
    simp only at hr
    split at hr
    ·rename_i e
     injection hr with hr
     subst hr
     have h1:=h x rfl
     have h2:=k y rfl
     rw [h1,h2,e,if_pos rfl]
    ·cases hr
 | cons x l=>rw [if_neg (by simp)]; exact k r hr
end
section
open Go
theorem Ie {S R:Type} {body:S->Option (Lp S R)} {s s':S} (h:body s=some (.next s')):C7 body s=C7 body s':=by rw [G8,h]; rfl
theorem cU {S R:Type} {body:S->Option (Lp S R)} {s:S} {r:R} (h:body s=some (.done r)):C7 body s=some r:=by rw [G8,h]; rfl
theorem Mw {S R:Type} {body:S->Option (Lp S R)} {s:S} {x:Option R} (h:body s=up x):C7 body s=x:=by rw [G8,h]; cases x <;> rfl
theorem Je {S R:Type} {body:S->Option (Lp S R)} (n:Nat) (G:Nat->S) (r:R) (h1:∀ i,i < n->body (G i)=some (.next (G (i + 1)))) (h2:body (G n)=some (.done r)):C7 body (G 0)=some r:=by
 have key:∀ k i,i + k=n->C7 body (G i)=some r:=by
  intro k
  induction k with
  | zero=>intro i hi; rw [G8,show i=n by omega,h2]; rfl
  | succ k ih=>intro i hi; rw [G8,h1 i (by omega)]; exact ih (i + 1) (by omega)
 exact key n 0 (by omega)
theorem Yl {S R:Type} {body:S->Option (Lp S R)} (n:Nat) (G:Nat->S) (p:Nat->Bool) (r1 r2:R) (h1:∀ i,i < n->body (G i)=some (bif p i then .done r1 else .next (G (i + 1)))) (h2:body (G n)=some (.done r2)):C7 body (G 0)=some (bif (List.range n).any p then r1 else r2):=by
 have key:∀ k i,i + k=n->C7 body (G i)=some (bif (List.range' i k).any p then r1 else r2):=by
  intro k
  induction k with
  | zero=>intro i hi; rw [G8,show i=n by omega,h2]; rfl
  | succ k ih=>
   intro i hi
   rw [G8,h1 i (by omega),List.range'_succ,aXx]
   cases hp:p i
   ·exact ih (i + 1) (by omega)
   ·rfl
 have:=key n 0 (by omega)
 rw [this,List.range_eq_range']
theorem aAq {α:Type} (l:List α) (p:α->Bool) (q:Nat->Bool) (h:∀ i x,l[i]?=some x->q i=p x):(List.range l.length).any q=l.any p:=by
 induction l generalizing q with
 | nil=>rfl
 | cons x l ih=>
  rw [aP9,List.range_succ_eq_map,aXx,aXx,h 0 x rfl,List.any_map]
  congr 1
  exact ih _ fun i y hy=>h (i + 1) y hy
theorem Xk {α S R:Type} {body:S->Option (Lp S R)} (l:List α) (G:Nat->S) (p:α->Bool) (r1 r2:R) (h1:∀ i x,l[i]?=some x->body (G i)=some (bif p x then .done r1 else .next (G (i + 1)))) (h2:body (G l.length)=some (.done r2)):C7 body (G 0)=some (bif l.any p then r1 else r2):=by
 cases l with
 | nil=>rw [G8,show body (G 0)=some (.done r2) from h2]; rfl
 | cons y l=>
  rw [Yl (y :: l).length G (fun i=>p ((y :: l).getD i y)) r1 r2 (fun i hi=>?_) h2,aAq (y :: l) p _ fun i x hx=>by simp [hx]]
  obtain⟨x,hx⟩:∃ x,(y :: l)[i]?=some x:=⟨_,aBb hi⟩
  rw [h1 i x hx]
  simp [hx]
theorem Yb {α S R:Type} {body:S->Option (Lp S R)} (l:List α) (G:Nat->S) (p:α->Bool) (f:Nat->R) (r2:R) (h1:∀ i x,l[i]?=some x->body (G i)=some (bif p x then .done (f i) else .next (G (i + 1)))) (h2:body (G l.length)=some (.done r2)):C7 body (G 0)=some (match l.findIdx? p with | some i=>f i | none=>r2):=by
 have key:∀ (m:List α) i,l.drop i=m->i<=l.length->C7 body (G i)=some (match m.findIdx? p with | some j=>f (i + j) | none=>r2):=by
  intro m
  induction m with
  | nil=>
   intro i hi hl
   have:l.length<=i:=List.drop_eq_nil_iff.1 hi
   rw [G8,show i=l.length by omega,h2]; rfl
  | cons x m ih=>
   intro i hi hl
   have hx:l[i]?=some x:=by
    have:=congrArg (fun q=>q[0]?) hi
    simpa using this
   have hl':=(aBe.1 hx).1
   rw [G8,h1 i x hx,List.findIdx?_cons]
   cases hp:p x
   ·have:=ih (i + 1) (by rw [<- bDd,hi]; rfl) hl'
    show C7 body (G (i + 1))=_
    rw [this]
    cases hq:m.findIdx? p with
    | none=>simp
    | some j=>simp only [aYk,if_false,aZk]; congr 2; omega
   ·simp; rfl
 have:=key l 0 (by simp) (aLi _)
 rw [this]
 cases l.findIdx? p <;> simp
theorem G0 {α T:Type} {l:List α} {i:Nat} {x:α} {k:α->Option T} {e:Option T} (h:l[i]?=some x):cond (decide ((i:Int) < (l.length:Int))) ((Bn l (i:Int)).bind k) e=k x:=by
 have hl:=(aBe.1 h).1
 rw [aBd (by omega),F4,h]; rfl
theorem Fq {T:Type} {n:Nat} {a e:Option T}:cond (decide ((n:Int) < (n:Int))) a e=e:=by
 rw [aBc (by omega)]; rfl
theorem Kf {i:Nat} (h:i < 4611686018427387904):W ((i:Int) + 1)=((i + 1:Nat):Int):=by
 rw [Hh (by omega)]; omega
theorem aRd {i:Nat} (h:i < 4611686018427387904):W (i:Int)=(i:Int):=Hh (by omega)
theorem Gd {α:Type} {k:Nat} {l m:List α} (h:(l.length + m.length) * k<=140737488355328):Hc k l m=some (l ++ m):=by unfold Hc; rw [if_pos h]
theorem I3 {α:Type} {l:List α} {i:Nat} {x:α} (h:l[i]?=some x):i < l.length:=(aBe.1 h).1
theorem E7 {α:Type} {l:List α} {i:Nat} {x:α} (h:l[i]?=some x):x∈l:=aIm h
theorem M1 {α:Type} {l:List α} {i:Nat} {x:α} (h:l[i]?=some x):l.take (i + 1)=l.take i ++ [x]:=by
 obtain⟨hk,e⟩:=aBe.1 h
 rw [aV5 hk,e]
end
section
open Go
def Lo {α:Type} (l:List α):Prop:=l.length < 4611686018427387904
def Mg {α:Type} (l:List α) (p:α->Bool):Int:=match l.findIdx? p with | some i=>(i:Int) | none=>-1
theorem Of {α:Type} (l:List α) (p:α->Bool):decide (0<=Mg l p)=l.any p:=by
 unfold Mg
 have:=bD0 (xs:=l) (p:=p)
 cases h:l.findIdx? p with
 | none=>rw [h] at this; rw [<- this]; rfl
 | some i=>rw [h] at this; rw [<- this]; simp
theorem Kp {α:Type} {body:Int->Option (Lp Int Int)} (l:List α) (p:α->Bool) (hl:Lo l) (h1:∀ (i:Nat) x,l[i]?=some x->body (i:Int)=some (bif p x then .done (i:Int) else .next (W ((i:Int) + 1)))) (h2:body (l.length:Int)=some (.done (-1))):C7 body 0=some (Mg l p):=by
 unfold Lo at hl
 refine (Yb l (fun i=>(i:Int)) p (fun i=>(i:Int)) (-1) (fun i x hx=>?_) h2).trans ?_
 ·have:=I3 hx
  rw [h1 i x hx,Kf (by omega)]
 ·rfl
theorem rB {α R:Type} {body:Int->Option (Lp Int R)} (l:List α) (p:α->Bool) (r1 r2:R) (hl:Lo l) (h1:∀ (i:Nat) x,l[i]?=some x->body (i:Int)=some (bif p x then .done r1 else .next (W ((i:Int) + 1)))) (h2:body (l.length:Int)=some (.done r2)):C7 body 0=some (bif l.any p then r1 else r2):=by
 unfold Lo at hl
 refine Xk l (fun i=>(i:Int)) p r1 r2 (fun i x hx=>?_) h2
 have:=I3 hx
 rw [h1 i x hx,Kf (by omega)]
theorem zS {R:Type} {body:Int->Option (Lp Int R)} (n:Nat) (p:Nat->Bool) (r1 r2:R) (hl:n < 4611686018427387904) (h1:∀ (i:Nat),i < n->body (i:Int)=some (bif p i then .done r1 else .next (W ((i:Int) + 1)))) (h2:body (n:Int)=some (.done r2)):C7 body 0=some (bif (List.range n).any p then r1 else r2):=by
 refine Yl n (fun i=>(i:Int)) p r1 r2 (fun i hi=>?_) h2
 rw [h1 i hi,Kf (by omega)]
theorem mF {α S R:Type} {body:S×Int->Option (Lp (S×Int) R)} (l:List α) (f:S->α->S) (s:S) (r:S->R) (hl:Lo l) (h1:∀ (i:Nat) x s,l[i]?=some x->body (s,(i:Int))=some (.next (f s x,W ((i:Int) + 1)))) (h2:∀ s,body (s,(l.length:Int))=some (.done (r s))):C7 body (s,0)=some (r (l.foldl f s)):=by
 unfold Lo at hl
 refine Je l.length (fun i=>((l.take i).foldl f s,(i:Int))) _ (fun i hi=>?_) ?_
 ·obtain⟨x,hx⟩:∃ x,l[i]?=some x:=⟨_,aBb hi⟩
  show body ((l.take i).foldl f s,(i:Int))=_
  rw [h1 i x _ hx,Kf (by omega),M1 hx,List.foldl_append]
  rfl
 ·show body ((l.take l.length).foldl f s,(l.length:Int))=_
  rw [h2,aQa]
theorem vU {α:Type} {l:List α}:Bn l 0=l[0]?:=F4 (j:=0)
end
section
open Go
def Ok {α:Type} (x:Option α) (Q:α->Prop):Prop:=∃ a,x=some a/\Q a
section
variable {α β S R:Type} {x y:Option α} {f:α->Option β} {Q:α->Prop} {T:β->Prop}
theorem Ok.bind (h:Ok x Q) (k:∀ a,Q a->Ok (f a) T):Ok (x.bind f) T:=by
 obtain⟨a,rfl,h⟩:=h
 exact k a h
theorem Ok.bindE {a:α} (h:x=some a) (k:Ok (f a) T):Ok (x.bind f) T:=by subst h; exact k
theorem Ok.cond {b:Bool} (h:b=true->Ok x Q) (k:b=false->Ok y Q):Ok (cond b x y) Q:=by
 cases b with
 | true=>exact h rfl
 | false=>exact k rfl
theorem Ok.ret {a:α} (h:Q a):Ok (some a) Q:=⟨a,rfl,h⟩
theorem Ok.of {a:α} (h:x=some a) (k:Q a):Ok x Q:=⟨a,h,k⟩
theorem Ok.mono {Q':α->Prop} (h:Ok x Q) (k:∀ a,Q a->Q' a):Ok x Q':=by
 obtain⟨a,h,q⟩:=h
 exact⟨a,h,k a q⟩
def gP (Inv:S->Prop) (Q:R->Prop):Lp S R->Prop
 | .next s=>Inv s
 | .done r=>Q r
theorem Ok.up {Q:R->Prop} {x:Option R} {I:S->Prop} (h:Ok x Q):Ok (up x:Option (Lp S R)) (gP I Q):=by
 obtain⟨r,rfl,h⟩:=h
 exact⟨_,rfl,h⟩
theorem Ok.loop {body:S->Option (Lp S R)} (Inv:S->Prop) (μ:S->Nat) {Q:R->Prop} {s:S} (h:∀ s,Inv s->Ok (body s) (gP (fun s'=>Inv s'/\μ s' < μ s) Q)) (hs:Inv s):Ok (C7 body s) Q:=
 aFe Inv μ Q (fun s hs=>by
  obtain⟨o,h1,h2⟩:=h s hs
  refine⟨o,h1,?_⟩
  cases o <;> exact h2) s hs
theorem Ok.and {T':α->Prop} (h:Ok x Q) (k:Ok x T'):Ok x (fun a=>Q a/\T' a):=by
 obtain⟨a,h1,h2⟩:=h
 obtain⟨b,h3,h4⟩:=k
 rw [h1] at h3
 injection h3 with h3
 subst h3
 exact⟨a,h1,h2,h4⟩
theorem Ok.true_ {x:Option Bool} (h:Ok x (fun r=>r=true)):x=some true:=by
 obtain⟨a,h1,rfl⟩:=h
 exact h1
end
theorem gJ {α:Type} {l:List α} {i:Int} (h0:0<=i) (h1:i < l.length):Ok (Bn l i) (fun x=>l[i.toNat]?=some x):=by
 have h2:i.toNat < l.length:=by omega
 refine⟨l[i.toNat],?_,aBb h2⟩
 rw [aIo h0]
 exact aBb h2
theorem If {α:Type} {l:List α} {i:Int} (h0:0<=i) (h1:i < l.length):Ok (Bn l i) (fun x=>x∈l):=(gJ h0 h1).mono fun _ h=>aIm h
theorem Nc {α:Type} {k:Nat} {l m:List α} (h:(l.length + m.length) * k<=140737488355328):Ok (Hc k l m) (fun x=>x=l ++ m):=⟨_,Gd h,rfl⟩
theorem aMs {α:Type} {l:List α} {a b:Int} (h:0<=a/\a<=b/\b<=l.length):Ok (pY l a b) (fun x=>x=(l.drop a.toNat).take (b.toNat - a.toNat)):=⟨_,if_pos h,rfl⟩
theorem aHk {a b:ByteArray} (h:a.size + b.size<=9223372036854775807):Ok (aFv a b) (fun x=>x=a ++ b):=⟨_,if_pos h,rfl⟩
theorem R3 {α:Type} {l:List α} (h:l.length<=1000000):Lo l:=by unfold Lo; omega
end
end Go.Proofs.YtboglmbblmakjaaGreatDoor
