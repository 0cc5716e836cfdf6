/- Plain texts, joined. No program is in sight here. -/
import Derived.Test.YtlfeokjhphpjeaaGreatPU
import Derived.Test.YtlfeokjhphpjeaaGreatP1
set_option linter.unusedVariables false
set_option linter.unusedSimpArgs false
namespace Go.Proofs.YtlfeokjhphpjeaaGreat
section
open Go
theorem Jn {A R:Type} {F:(A->Option R)->A->Option R} (hm:Mi F) (spec:A->R) (μ:A->Nat) (Pre:A->Prop) (h:∀ rec a,Pre a->(∀ b,Pre b->μ b < μ a->rec b=some (spec b))->F rec a=some (spec a)) (a:A) (ha:Pre a):Pa F a=some (spec a):=by
 have key:∀ n a,Pre a->μ a < n->Ud F n a=some (spec a):=by
  intro n
  induction n with
  | zero=>intro a _ h0; exact absurd h0 (Nat.not_lt_zero _)
  | succ n ih=>intro a ha hn; exact h _ a ha fun b hb hl=>ih b hb (by omega)
 exact hX hm (key (μ a + 1) a ha (Nat.lt_succ_self _))
def yZ {α β:Type} [DecidableEq β] (l:List α) (a b:Option β):Option β:=match l with
 | []=>(match a,b with
  | some x,some y=>if x=y then some x else none
  | _,_=>none)
 | _ :: _=>b
theorem Cw.nil {α β:Type} [DecidableEq β] {l:List α} {a a' b b':Option β} (h:Cw a a') (k:Cw b b'):Cw (yZ l a b) (X4 l a' b'):=fun r hr=>by
 unfold yZ at hr
 unfold X4
 cases l with
 | nil=>
  rw [if_pos rfl]
  cases a with
  | none=>cases hr
  | some x=>
   cases b with
   | none=>cases hr
   | some y=>
    simp only at hr
    split at hr
    ·rename_i e
     injection hr with hr
     subst hr
     have h1:=h x rfl
     have h2:=k y rfl
     rw [h1,h2,e,if_pos rfl]
    ·cases hr
 | cons x l=>rw [if_neg (by simp)]; exact k r hr
end
section
open Go
theorem H2 {S R:Type} {body:S->Option (Lp S R)} {s s':S} (h:body s=some (.next s')):Dl body s=Dl body s':=by rw [Fg,h]; rfl
theorem S6 {S R:Type} {body:S->Option (Lp S R)} {s:S} {r:R} (h:body s=some (.done r)):Dl body s=some r:=by rw [Fg,h]; rfl
theorem R3 {S R:Type} {body:S->Option (Lp S R)} {s:S} {x:Option R} (h:body s=up x):Dl body s=x:=by rw [Fg,h]; cases x <;> rfl
theorem Fy {S R:Type} {body:S->Option (Lp S R)} (n:Nat) (G:Nat->S) (r:R) (h1:∀ i,i < n->body (G i)=some (.next (G (i + 1)))) (h2:body (G n)=some (.done r)):Dl body (G 0)=some r:=by
 have key:∀ k i,i + k=n->Dl body (G i)=some r:=by
  intro k
  induction k with
  | zero=>intro i hi; rw [Fg,show i=n by omega,h2]; rfl
  | succ k ih=>intro i hi; rw [Fg,h1 i (by omega)]; exact ih (i + 1) (by omega)
 exact key n 0 (by omega)
theorem S3 {S R:Type} {body:S->Option (Lp S R)} (n:Nat) (G:Nat->S) (p:Nat->Bool) (r1 r2:R) (h1:∀ i,i < n->body (G i)=some (bif p i then .done r1 else .next (G (i + 1)))) (h2:body (G n)=some (.done r2)):Dl body (G 0)=some (bif (List.range n).any p then r1 else r2):=by
 have key:∀ k i,i + k=n->Dl body (G i)=some (bif (List.range' i k).any p then r1 else r2):=by
  intro k
  induction k with
  | zero=>intro i hi; rw [Fg,show i=n by omega,h2]; rfl
  | succ k ih=>
   intro i hi
   rw [Fg,h1 i (by omega),List.range'_succ,List.any_cons]
   cases hp:p i
   ·exact ih (i + 1) (by omega)
   ·rfl
 have:=key n 0 (by omega)
 rw [this,List.range_eq_range']
theorem iE {α:Type} (l:List α) (p:α->Bool) (q:Nat->Bool) (h:∀ i x,l[i]?=some x->q i=p x):(List.range l.length).any q=l.any p:=by
 induction l generalizing q with
 | nil=>rfl
 | cons x l ih=>
  rw [List.length_cons,List.range_succ_eq_map,List.any_cons,List.any_cons,h 0 x rfl,List.any_map]
  congr 1
  exact ih _ fun i y hy=>h (i + 1) y hy
theorem R2 {α S R:Type} {body:S->Option (Lp S R)} (l:List α) (G:Nat->S) (p:α->Bool) (r1 r2:R) (h1:∀ i x,l[i]?=some x->body (G i)=some (bif p x then .done r1 else .next (G (i + 1)))) (h2:body (G l.length)=some (.done r2)):Dl body (G 0)=some (bif l.any p then r1 else r2):=by
 cases l with
 | nil=>rw [Fg,show body (G 0)=some (.done r2) from h2]; rfl
 | cons y l=>
  rw [S3 (y :: l).length G (fun i=>p ((y :: l).getD i y)) r1 r2 (fun i hi=>?_) h2,iE (y :: l) p _ fun i x hx=>by simp [hx]]
  obtain⟨x,hx⟩:∃ x,(y :: l)[i]?=some x:=⟨_,List.getElem?_eq_getElem hi⟩
  rw [h1 i x hx]
  simp [hx]
theorem P2 {α S R:Type} {body:S->Option (Lp S R)} (l:List α) (G:Nat->S) (p:α->Bool) (f:Nat->R) (r2:R) (h1:∀ i x,l[i]?=some x->body (G i)=some (bif p x then .done (f i) else .next (G (i + 1)))) (h2:body (G l.length)=some (.done r2)):Dl body (G 0)=some (match l.findIdx? p with | some i=>f i | none=>r2):=by
 have key:∀ (m:List α) i,l.drop i=m->i<=l.length->Dl body (G i)=some (match m.findIdx? p with | some j=>f (i + j) | none=>r2):=by
  intro m
  induction m with
  | nil=>
   intro i hi hl
   have:l.length<=i:=List.drop_eq_nil_iff.1 hi
   rw [Fg,show i=l.length by omega,h2]; rfl
  | cons x m ih=>
   intro i hi hl
   have hx:l[i]?=some x:=by
    have:=congrArg (fun q=>q[0]?) hi
    simpa using this
   have hl':=(List.getElem?_eq_some_iff.1 hx).1
   rw [Fg,h1 i x hx,List.findIdx?_cons]
   cases hp:p x
   ·have:=ih (i + 1) (by rw [<- aC2,hi]; rfl) hl'
    show Dl body (G (i + 1))=_
    rw [this]
    cases hq:m.findIdx? p with
    | none=>simp
    | some j=>simp only [aDg,if_false,aBq]; congr 2; omega
   ·simp; rfl
 have:=key l 0 (by simp) (aBt _)
 rw [this]
 cases l.findIdx? p <;> simp
theorem Fs {α T:Type} {l:List α} {i:Nat} {x:α} {k:α->Option T} {e:Option T} (h:l[i]?=some x):cond (decide ((i:Int) < (l.length:Int))) ((Dd l (i:Int)).bind k) e=k x:=by
 have hl:=(List.getElem?_eq_some_iff.1 h).1
 rw [decide_eq_true (by omega),Hu,h]; rfl
theorem Ej {T:Type} {n:Nat} {a e:Option T}:cond (decide ((n:Int) < (n:Int))) a e=e:=by
 rw [decide_eq_false (by omega)]; rfl
theorem Gp {i:Nat} (h:i < 4611686018427387904):W ((i:Int) + 1)=((i + 1:Nat):Int):=by
 rw [Fv (by omega)]; omega
theorem yE {i:Nat} (h:i < 4611686018427387904):W (i:Int)=(i:Int):=Fv (by omega)
theorem D5 {α:Type} {k:Nat} {l m:List α} (h:(l.length + m.length) * k<=140737488355328):Gn k l m=some (l ++ m):=by unfold Gn; rw [if_pos h]
theorem Rx {α:Type} {l:List α} {i:Nat} {x:α} (h:l[i]?=some x):i < l.length:=(List.getElem?_eq_some_iff.1 h).1
theorem I3 {α:Type} {l:List α} {i:Nat} {x:α} (h:l[i]?=some x):x∈l:=List.mem_of_getElem? h
theorem Fm {α:Type} {l:List α} {i:Nat} {x:α} (h:l[i]?=some x):l.take (i + 1)=l.take i ++ [x]:=by
 obtain⟨hk,e⟩:=List.getElem?_eq_some_iff.1 h
 rw [List.take_succ_eq_append_getElem hk,e]
end
section
open Go
def Lo {α:Type} (l:List α):Prop:=l.length < 4611686018427387904
def fA {α:Type} (l:List α) (p:α->Bool):Int:=match l.findIdx? p with | some i=>(i:Int) | none=>-1
theorem eP {α:Type} (l:List α) (p:α->Bool):decide (0<=fA l p)=l.any p:=by
 unfold fA
 have:=List.findIdx?_isSome (xs:=l) (p:=p)
 cases h:l.findIdx? p with
 | none=>rw [h] at this; rw [<- this]; rfl
 | some i=>rw [h] at this; rw [<- this]; simp
theorem dH {α:Type} {body:Int->Option (Lp Int Int)} (l:List α) (p:α->Bool) (hl:Lo l) (h1:∀ (i:Nat) x,l[i]?=some x->body (i:Int)=some (bif p x then .done (i:Int) else .next (W ((i:Int) + 1)))) (h2:body (l.length:Int)=some (.done (-1))):Dl body 0=some (fA l p):=by
 unfold Lo at hl
 refine (P2 l (fun i=>(i:Int)) p (fun i=>(i:Int)) (-1) (fun i x hx=>?_) h2).trans ?_
 ·have:=Rx hx
  rw [h1 i x hx,Gp (by omega)]
 ·rfl
theorem kS {α R:Type} {body:Int->Option (Lp Int R)} (l:List α) (p:α->Bool) (r1 r2:R) (hl:Lo l) (h1:∀ (i:Nat) x,l[i]?=some x->body (i:Int)=some (bif p x then .done r1 else .next (W ((i:Int) + 1)))) (h2:body (l.length:Int)=some (.done r2)):Dl body 0=some (bif l.any p then r1 else r2):=by
 unfold Lo at hl
 refine R2 l (fun i=>(i:Int)) p r1 r2 (fun i x hx=>?_) h2
 have:=Rx hx
 rw [h1 i x hx,Gp (by omega)]
theorem M7 {α S R:Type} {body:S×Int->Option (Lp (S×Int) R)} (l:List α) (f:S->α->S) (s:S) (r:S->R) (hl:Lo l) (h1:∀ (i:Nat) x s,l[i]?=some x->body (s,(i:Int))=some (.next (f s x,W ((i:Int) + 1)))) (h2:∀ s,body (s,(l.length:Int))=some (.done (r s))):Dl body (s,0)=some (r (l.foldl f s)):=by
 unfold Lo at hl
 refine Fy l.length (fun i=>((l.take i).foldl f s,(i:Int))) _ (fun i hi=>?_) ?_
 ·obtain⟨x,hx⟩:∃ x,l[i]?=some x:=⟨_,List.getElem?_eq_getElem hi⟩
  show body ((l.take i).foldl f s,(i:Int))=_
  rw [h1 i x _ hx,Gp (by omega),Fm hx,List.foldl_append]
  rfl
 ·show body ((l.take l.length).foldl f s,(l.length:Int))=_
  rw [h2,aBm]
theorem dQ {α S R:Type} {body:S×Int->Option (Lp (S×Int) R)} (l:List α) (f:S->α->S) (s:S) (r:S->Option R) (hl:Lo l) (h1:∀ (i:Nat) x s,l[i]?=some x->body (s,(i:Int))=some (.next (f s x,W ((i:Int) + 1)))) (h2:∀ s,body (s,(l.length:Int))=up (r s)):Dl body (s,0)=r (l.foldl f s):=by
 unfold Lo at hl
 have key:∀ k i,i + k=l.length->Dl body ((l.take i).foldl f s,(i:Int))=r (l.foldl f s):=by
  intro k
  induction k with
  | zero=>
   intro i hi
   have:i=l.length:=by omega
   subst this
   rw [aBm,R3 (h2 _)]
  | succ k ih=>
   intro i hi
   obtain⟨x,hx⟩:∃ x,l[i]?=some x:=⟨_,List.getElem?_eq_getElem (by omega)⟩
   rw [H2 (h1 i x _ hx),Gp (by omega)]
   have:=ih (i + 1) (by omega)
   rw [Fm hx,List.foldl_append] at this
   exact this
 exact key l.length 0 (by omega)
theorem N5 {α:Type} {l:List α}:Dd l 0=l[0]?:=Hu (j:=0)
end
section
open Go
def Ok {α:Type} (x:Option α) (Q:α->Prop):Prop:=∃ a,x=some a/\Q a
section
variable {α β S R:Type} {x y:Option α} {f:α->Option β} {Q:α->Prop} {T:β->Prop}
theorem Ok.bind (h:Ok x Q) (k:∀ a,Q a->Ok (f a) T):Ok (x.bind f) T:=by
 obtain⟨a,rfl,h⟩:=h
 exact k a h
theorem Ok.bindE {a:α} (h:x=some a) (k:Ok (f a) T):Ok (x.bind f) T:=by subst h; exact k
theorem Ok.cond {b:Bool} (h:b=true->Ok x Q) (k:b=false->Ok y Q):Ok (cond b x y) Q:=by
 cases b with
 | true=>exact h rfl
 | false=>exact k rfl
theorem Ok.ret {a:α} (h:Q a):Ok (some a) Q:=⟨a,rfl,h⟩
theorem Ok.of {a:α} (h:x=some a) (k:Q a):Ok x Q:=⟨a,h,k⟩
theorem Ok.mono {Q':α->Prop} (h:Ok x Q) (k:∀ a,Q a->Q' a):Ok x Q':=by
 obtain⟨a,h,q⟩:=h
 exact⟨a,h,k a q⟩
def xO (Inv:S->Prop) (Q:R->Prop):Lp S R->Prop
 | .next s=>Inv s
 | .done r=>Q r
theorem Ok.up {Q:R->Prop} {x:Option R} {I:S->Prop} (h:Ok x Q):Ok (up x:Option (Lp S R)) (xO I Q):=by
 obtain⟨r,rfl,h⟩:=h
 exact⟨_,rfl,h⟩
theorem Ok.loop {body:S->Option (Lp S R)} (Inv:S->Prop) (μ:S->Nat) {Q:R->Prop} {s:S} (h:∀ s,Inv s->Ok (body s) (xO (fun s'=>Inv s'/\μ s' < μ s) Q)) (hs:Inv s):Ok (Dl body s) Q:=
 nY Inv μ Q (fun s hs=>by
  obtain⟨o,h1,h2⟩:=h s hs
  refine⟨o,h1,?_⟩
  cases o <;> exact h2) s hs
theorem Ok.and {T':α->Prop} (h:Ok x Q) (k:Ok x T'):Ok x (fun a=>Q a/\T' a):=by
 obtain⟨a,h1,h2⟩:=h
 obtain⟨b,h3,h4⟩:=k
 rw [h1] at h3
 injection h3 with h3
 subst h3
 exact⟨a,h1,h2,h4⟩
theorem gH {A B:Type} {F:(A->Option B)->A->Option B} (hm:Mi F) (μ:A->Nat) (Pre:A->Prop) (Post:A->B->Prop) (h:∀ rec a,Pre a->(∀ b,Pre b->μ b < μ a->Ok (rec b) (Post b))->Ok (F rec a) (Post a)) (a:A) (ha:Pre a):Ok (Pa F a) (Post a):=by
 have key:∀ n a,Pre a->μ a < n->Ok (Ud F n a) (Post a):=by
  intro n
  induction n with
  | zero=>intro a _ h0; exact absurd h0 (Nat.not_lt_zero _)
  | succ n ih=>intro a ha hn; exact h _ a ha fun b hb hl=>ih b hb (by omega)
 obtain⟨r,h1,h2⟩:=key (μ a + 1) a ha (Nat.lt_succ_self _)
 exact⟨r,hX hm h1,h2⟩
theorem Ok.true_ {x:Option Bool} (h:Ok x (fun r=>r=true)):x=some true:=by
 obtain⟨a,h1,rfl⟩:=h
 exact h1
end
theorem N4 {α:Type} {l:List α} {i:Int} (h0:0<=i) (h1:i < l.length):Ok (Dd l i) (fun x=>l[i.toNat]?=some x):=by
 have h2:i.toNat < l.length:=by omega
 refine⟨l[i.toNat],?_,List.getElem?_eq_getElem h2⟩
 rw [qY h0]
 exact List.getElem?_eq_getElem h2
theorem Vy {α:Type} {l:List α} {i:Int} (h0:0<=i) (h1:i < l.length):Ok (Dd l i) (fun x=>x∈l):=(N4 h0 h1).mono fun _ h=>List.mem_of_getElem? h
theorem Wg {α:Type} {k:Nat} {l m:List α} (h:(l.length + m.length) * k<=140737488355328):Ok (Gn k l m) (fun x=>x=l ++ m):=⟨_,D5 h,rfl⟩
theorem oT {α:Type} {l:List α} {a b:Int} (h:0<=a/\a<=b/\b<=l.length):Ok (Q7 l a b) (fun x=>x=(l.drop a.toNat).take (b.toNat - a.toNat)):=⟨_,if_pos h,rfl⟩
theorem pQ {a b:ByteArray} (h:a.size + b.size<=9223372036854775807):Ok (lQ a b) (fun x=>x=a ++ b):=⟨_,if_pos h,rfl⟩
theorem mY {α:Type} {l:List α} (h:l.length<=1000000):Lo l:=by unfold Lo; omega
end
section
theorem m_der_copied.l1 {rec:(List Aa)->Option ((List Aa))} {l:(List Aa)} {x8_1:Int} {out_1:List Aa} {rec_p:(List Aa)->Option ((List Aa))} (h_rec:∀ (x0:(List Aa)),Cw (rec x0) (rec_p x0)):Cw (Cg.l1 rec l x8_1 out_1) (Cg.l1 rec_p l x8_1 out_1):=by
 unfold Cg.l1
 repeat' (with_reducible first | assumption | apply Cw.bind_ | apply Cw.cond_ | apply Cw.up_ | apply h_rec | exact Cw.refl | intro _)
theorem m_der_copied.F {rec:(List Aa)->Option ((List Aa))} {l:(List Aa)} {rec_p:(List Aa)->Option ((List Aa))} (h_rec:∀ (x0:(List Aa)),Cw (rec x0) (rec_p x0)):Cw (Cg.F rec l) (Cg.F rec_p l):=by
 unfold Cg.F
 repeat' (with_reducible first | assumption | apply Cw.bind_ | apply Cw.cond_ | apply Cw.up_ | apply h_rec | apply m_der_copied.l1 | (refine Cw.lp (fun _=>?_) _) | exact Cw.refl | intro _)
theorem Ul:Mi (fun rec (x:(List Aa))=>Cg.F (fun l=>rec l) x):=fun p q h a=>by
 apply m_der_copied.F
 intros
 apply h
theorem Uq {rec:Aa->Option (Bool)} {x':Aa} {rec_p:Aa->Option (Bool)} (h_rec:∀ (x0:Aa),Cw (rec x0) (rec_p x0)):Cw (Ew rec x') (Ew rec_p x'):=by
 unfold Ew
 repeat' (with_reducible first | assumption | apply Cw.bind_ | apply Cw.cond_ | apply Cw.up_ | apply h_rec | exact Cw.refl | intro _)
theorem F0.l1 {s:(List Aa)} {f:Aa->Option (Bool)} {x8_1:Int} {f_p:Aa->Option (Bool)} (h_f:∀ (x0:Aa),Cw (f x0) (f_p x0)):Cw (A8.l1 s f x8_1) (A8.l1 s f_p x8_1):=by
 unfold A8.l1
 repeat' (with_reducible first | assumption | apply Cw.bind_ | apply Cw.cond_ | apply Cw.up_ | apply h_f | exact Cw.refl | intro _)
theorem F0 {rec:Aa->Option (Bool)} {s:(List Aa)} {f:Aa->Option (Bool)} {rec_p:Aa->Option (Bool)} {f_p:Aa->Option (Bool)} (h_rec:∀ (x0:Aa),Cw (rec x0) (rec_p x0)) (h_f:∀ (x0:Aa),Cw (f x0) (f_p x0)):Cw (A8 rec s f) (A8 rec_p s f_p):=by
 unfold A8
 repeat' (with_reducible first | assumption | apply Cw.bind_ | apply Cw.cond_ | apply Cw.up_ | apply h_rec | apply h_f | apply F0.l1 | (refine Cw.lp (fun _=>?_) _) | exact Cw.refl | intro _)
theorem J8 {rec:Aa->Option (Bool)} {s:(List Aa)} {f:Aa->Option (Bool)} {rec_p:Aa->Option (Bool)} {f_p:Aa->Option (Bool)} (h_rec:∀ (x0:Aa),Cw (rec x0) (rec_p x0)) (h_f:∀ (x0:Aa),Cw (f x0) (f_p x0)):Cw (Cy rec s f) (Cy rec_p s f_p):=by
 unfold Cy
 repeat' (with_reducible first | assumption | apply Cw.bind_ | apply Cw.cond_ | apply Cw.up_ | apply h_rec | apply h_f | apply F0 | exact Cw.refl | intro _)
theorem m_der_formed.j1 {rec:Aa->Option (Bool)} {v:Aa} {x36_1:Bool} {rec_p:Aa->Option (Bool)} (h_rec:∀ (x0:Aa),Cw (rec x0) (rec_p x0)):Cw (B1.j1 rec v x36_1) (B1.j1 rec_p v x36_1):=by
 unfold B1.j1
 repeat' (with_reducible first | assumption | apply Cw.bind_ | apply Cw.cond_ | apply Cw.up_ | apply h_rec | apply J8 | apply Uq | exact Cw.refl | intro _)
theorem m_der_formed.F {rec:Aa->Option (Bool)} {v:Aa} {rec_p:Aa->Option (Bool)} (h_rec:∀ (x0:Aa),Cw (rec x0) (rec_p x0)):Cw (B1.F rec v) (B1.F rec_p v):=by
 unfold B1.F
 repeat' (with_reducible first | assumption | apply Cw.bind_ | apply Cw.cond_ | apply Cw.up_ | apply h_rec | apply m_der_formed.j1 | exact Cw.refl | intro _)
theorem Ut:Mi (fun rec (x:Aa)=>B1.F (fun v=>rec v) x):=fun p q h a=>by
 apply m_der_formed.F
 intros
 apply h
theorem m_der_depth.l1 {rec:Aa->Option (Int)} {v:Aa} {most_1:Int} {x9_1:Int} {rec_p:Aa->Option (Int)} (h_rec:∀ (x0:Aa),Cw (rec x0) (rec_p x0)):Cw (Cu.l1 rec v most_1 x9_1) (Cu.l1 rec_p v most_1 x9_1):=by
 unfold Cu.l1
 repeat' (with_reducible first | assumption | apply Cw.bind_ | apply Cw.cond_ | apply Cw.up_ | apply h_rec | exact Cw.refl | intro _)
theorem m_der_depth.F {rec:Aa->Option (Int)} {v:Aa} {rec_p:Aa->Option (Int)} (h_rec:∀ (x0:Aa),Cw (rec x0) (rec_p x0)):Cw (Cu.F rec v) (Cu.F rec_p v):=by
 unfold Cu.F
 repeat' (with_reducible first | assumption | apply Cw.bind_ | apply Cw.cond_ | apply Cw.up_ | apply h_rec | apply m_der_depth.l1 | (refine Cw.lp (fun _=>?_) _) | exact Cw.refl | intro _)
theorem Vs:Mi (fun rec (x:Aa)=>Cu.F (fun v=>rec v) x):=fun p q h a=>by
 apply m_der_depth.F
 intros
 apply h
theorem X5 {rec:Aa->Option ((List UInt8))} {b:List UInt8} {v:Aa} {rec_p:Aa->Option ((List UInt8))} (h_rec:∀ (x0:Aa),Cw (rec x0) (rec_p x0)):Cw (Gg rec b v) (Gg rec_p b v):=by
 unfold Gg
 repeat' (with_reducible first | assumption | apply Cw.bind_ | apply Cw.cond_ | apply Cw.up_ | apply h_rec | exact Cw.refl | intro _)
theorem m_der_contents.l1 {rec:Aa->Option ((List UInt8))} {v:Aa} {x14_1:Int} {out_1:List UInt8} {rec_p:Aa->Option ((List UInt8))} (h_rec:∀ (x0:Aa),Cw (rec x0) (rec_p x0)):Cw (Bx.l1 rec v x14_1 out_1) (Bx.l1 rec_p v x14_1 out_1):=by
 unfold Bx.l1
 repeat' (with_reducible first | assumption | apply Cw.bind_ | apply Cw.cond_ | apply Cw.up_ | apply h_rec | apply X5 | exact Cw.refl | intro _)
theorem m_der_contents.F {rec:Aa->Option ((List UInt8))} {v:Aa} {rec_p:Aa->Option ((List UInt8))} (h_rec:∀ (x0:Aa),Cw (rec x0) (rec_p x0)):Cw (Bx.F rec v) (Bx.F rec_p v):=by
 unfold Bx.F
 repeat' (with_reducible first | assumption | apply Cw.bind_ | apply Cw.cond_ | apply Cw.up_ | apply h_rec | apply m_der_contents.l1 | (refine Cw.lp (fun _=>?_) _) | exact Cw.refl | intro _)
theorem Sn:Mi (fun rec (x:Aa)=>Bx.F (fun v=>rec v) x):=fun p q h a=>by
 apply m_der_contents.F
 intros
 apply h
theorem Tg.l1 {rec:(List UInt8)->Option (Aa×Int×Bool)} {b:(List UInt8)} {at_1:Int} {out_1:List Aa} {rec_p:(List UInt8)->Option (Aa×Int×Bool)} (h_rec:∀ (x0:(List UInt8)),Cw (rec x0) (rec_p x0)):Cw (E3.l1 rec b at_1 out_1) (E3.l1 rec_p b at_1 out_1):=by
 unfold E3.l1
 repeat' (with_reducible first | assumption | apply Cw.bind_ | apply Cw.cond_ | apply Cw.up_ | apply h_rec | exact Cw.refl | intro _)
theorem Tg {rec:(List UInt8)->Option (Aa×Int×Bool)} {b:(List UInt8)} {rec_p:(List UInt8)->Option (Aa×Int×Bool)} (h_rec:∀ (x0:(List UInt8)),Cw (rec x0) (rec_p x0)):Cw (E3 rec b) (E3 rec_p b):=by
 unfold E3
 repeat' (with_reducible first | assumption | apply Cw.bind_ | apply Cw.cond_ | apply Cw.up_ | apply h_rec | apply Tg.l1 | (refine Cw.lp (fun _=>?_) _) | exact Cw.refl | intro _)
theorem m_der_next.j2 {rec:(List UInt8)->Option (Aa×Int×Bool)} {b:(List UInt8)} {y_2:Int×Int×Bool} {x40_2:Bool} {rec_p:(List UInt8)->Option (Aa×Int×Bool)} (h_rec:∀ (x0:(List UInt8)),Cw (rec x0) (rec_p x0)):Cw (B2.j2 rec b y_2 x40_2) (B2.j2 rec_p b y_2 x40_2):=by
 unfold B2.j2
 repeat' (with_reducible first | assumption | apply Cw.bind_ | apply Cw.cond_ | apply Cw.up_ | apply h_rec | apply Tg | exact Cw.refl | intro _)
theorem m_der_next.j1 {rec:(List UInt8)->Option (Aa×Int×Bool)} {b:(List UInt8)} {x20_1:Bool} {rec_p:(List UInt8)->Option (Aa×Int×Bool)} (h_rec:∀ (x0:(List UInt8)),Cw (rec x0) (rec_p x0)):Cw (B2.j1 rec b x20_1) (B2.j1 rec_p b x20_1):=by
 unfold B2.j1
 repeat' (with_reducible first | assumption | apply Cw.bind_ | apply Cw.cond_ | apply Cw.up_ | apply h_rec | apply m_der_next.j2 | exact Cw.refl | intro _)
theorem m_der_next.F {rec:(List UInt8)->Option (Aa×Int×Bool)} {b:(List UInt8)} {rec_p:(List UInt8)->Option (Aa×Int×Bool)} (h_rec:∀ (x0:(List UInt8)),Cw (rec x0) (rec_p x0)):Cw (B2.F rec b) (B2.F rec_p b):=by
 unfold B2.F
 repeat' (with_reducible first | assumption | apply Cw.bind_ | apply Cw.cond_ | apply Cw.up_ | apply h_rec | apply m_der_next.j1 | exact Cw.refl | intro _)
theorem X0:Mi (fun rec (x:(List UInt8))=>B2.F (fun b=>rec b) x):=fun p q h a=>by
 apply m_der_next.F
 intros
 apply h
theorem Jq.l1 {s:(List UInt8)} {f:UInt8->Option (Bool)} {x8_1:Int} {f_p:UInt8->Option (Bool)} (h_f:∀ (x0:UInt8),Cw (f x0) (f_p x0)):Cw (Bi.l1 s f x8_1) (Bi.l1 s f_p x8_1):=by
 unfold Bi.l1
 repeat' (with_reducible first | assumption | apply Cw.bind_ | apply Cw.cond_ | apply Cw.up_ | apply h_f | exact Cw.refl | intro _)
theorem Jq {s:(List UInt8)} {f:UInt8->Option (Bool)} {f_p:UInt8->Option (Bool)} (h_f:∀ (x0:UInt8),Cw (f x0) (f_p x0)):Cw (Bi s f) (Bi s f_p):=by
 unfold Bi
 repeat' (with_reducible first | assumption | apply Cw.bind_ | apply Cw.cond_ | apply Cw.up_ | apply h_f | apply Jq.l1 | (refine Cw.lp (fun _=>?_) _) | exact Cw.refl | intro _)
theorem m_ref01_copies.l1 {rec:(List Aa)->Option ((List Aa))} {l:(List Aa)} {i_1:Int} {out_1:List Aa} {rec_p:(List Aa)->Option ((List Aa))} (h_rec:∀ (x0:(List Aa)),Cw (rec x0) (rec_p x0)):Cw (Bs.l1 rec l i_1 out_1) (Bs.l1 rec_p l i_1 out_1):=by
 unfold Bs.l1
 repeat' (with_reducible first | assumption | apply Cw.bind_ | apply Cw.cond_ | apply Cw.up_ | apply h_rec | exact Cw.refl | intro _)
theorem m_ref01_copies.F {rec:(List Aa)->Option ((List Aa))} {l:(List Aa)} {rec_p:(List Aa)->Option ((List Aa))} (h_rec:∀ (x0:(List Aa)),Cw (rec x0) (rec_p x0)):Cw (Bs.F rec l) (Bs.F rec_p l):=by
 unfold Bs.F
 repeat' (with_reducible first | assumption | apply Cw.bind_ | apply Cw.cond_ | apply Cw.up_ | apply h_rec | apply m_ref01_copies.l1 | (refine Cw.lp (fun _=>?_) _) | exact Cw.refl | intro _)
theorem R9:Mi (fun rec (x:(List Aa))=>Bs.F (fun l=>rec l) x):=fun p q h a=>by
 apply m_ref01_copies.F
 intros
 apply h
theorem m_ref01_formed.l2 {rec:Aa->Option (Bool)} {v:Aa} {i_2:Int} {rec_p:Aa->Option (Bool)} (h_rec:∀ (x0:Aa),Cw (rec x0) (rec_p x0)):Cw (A6.l2 rec v i_2) (A6.l2 rec_p v i_2):=by
 unfold A6.l2
 repeat' (with_reducible first | assumption | apply Cw.bind_ | apply Cw.cond_ | apply Cw.up_ | apply h_rec | exact Cw.refl | intro _)
theorem m_ref01_formed.j1 {rec:Aa->Option (Bool)} {v:Aa} {x38_1:Bool} {rec_p:Aa->Option (Bool)} (h_rec:∀ (x0:Aa),Cw (rec x0) (rec_p x0)):Cw (A6.j1 rec v x38_1) (A6.j1 rec_p v x38_1):=by
 unfold A6.j1
 repeat' (with_reducible first | assumption | apply Cw.bind_ | apply Cw.cond_ | apply Cw.up_ | apply h_rec | apply m_ref01_formed.l2 | (refine Cw.lp (fun _=>?_) _) | exact Cw.refl | intro _)
theorem m_ref01_formed.F {rec:Aa->Option (Bool)} {v:Aa} {rec_p:Aa->Option (Bool)} (h_rec:∀ (x0:Aa),Cw (rec x0) (rec_p x0)):Cw (A6.F rec v) (A6.F rec_p v):=by
 unfold A6.F
 repeat' (with_reducible first | assumption | apply Cw.bind_ | apply Cw.cond_ | apply Cw.up_ | apply h_rec | apply m_ref01_formed.j1 | exact Cw.refl | intro _)
theorem Rm:Mi (fun rec (x:Aa)=>A6.F (fun v=>rec v) x):=fun p q h a=>by
 apply m_ref01_formed.F
 intros
 apply h
theorem m_ref01_depth.l1 {rec:Aa->Option (Int)} {v:Aa} {d_1:Int} {i_1:Int} {rec_p:Aa->Option (Int)} (h_rec:∀ (x0:Aa),Cw (rec x0) (rec_p x0)):Cw (B6.l1 rec v d_1 i_1) (B6.l1 rec_p v d_1 i_1):=by
 unfold B6.l1
 repeat' (with_reducible first | assumption | apply Cw.bind_ | apply Cw.cond_ | apply Cw.up_ | apply h_rec | exact Cw.refl | intro _)
theorem m_ref01_depth.F {rec:Aa->Option (Int)} {v:Aa} {rec_p:Aa->Option (Int)} (h_rec:∀ (x0:Aa),Cw (rec x0) (rec_p x0)):Cw (B6.F rec v) (B6.F rec_p v):=by
 unfold B6.F
 repeat' (with_reducible first | assumption | apply Cw.bind_ | apply Cw.cond_ | apply Cw.up_ | apply h_rec | apply m_ref01_depth.l1 | (refine Cw.lp (fun _=>?_) _) | exact Cw.refl | intro _)
theorem Tf:Mi (fun rec (x:Aa)=>B6.F (fun v=>rec v) x):=fun p q h a=>by
 apply m_ref01_depth.F
 intros
 apply h
theorem m_ref01_put.l1 {rec:Aa->Option ((List UInt8))} {v:Aa} {i_1:Int} {b_1:List UInt8} {rec_p:Aa->Option ((List UInt8))} (h_rec:∀ (x0:Aa),Cw (rec x0) (rec_p x0)):Cw (C2.l1 rec v i_1 b_1) (C2.l1 rec_p v i_1 b_1):=by
 unfold C2.l1
 repeat' (with_reducible first | assumption | apply Cw.bind_ | apply Cw.cond_ | apply Cw.up_ | apply h_rec | exact Cw.refl | intro _)
theorem m_ref01_put.F {rec:Aa->Option ((List UInt8))} {v:Aa} {rec_p:Aa->Option ((List UInt8))} (h_rec:∀ (x0:Aa),Cw (rec x0) (rec_p x0)):Cw (C2.F rec v) (C2.F rec_p v):=by
 unfold C2.F
 repeat' (with_reducible first | assumption | apply Cw.bind_ | apply Cw.cond_ | apply Cw.up_ | apply h_rec | apply m_ref01_put.l1 | (refine Cw.lp (fun _=>?_) _) | exact Cw.refl | intro _)
theorem Xe:Mi (fun rec (x:Aa)=>C2.F (fun v=>rec v) x):=fun p q h a=>by
 apply m_ref01_put.F
 intros
 apply h
theorem m_ref01_all.l1 {rec:(List UInt8)->Option ((List Aa)×Bool)} {b:(List UInt8)} {at_1:Int} {out_1:List Aa} {rec_p:(List UInt8)->Option ((List Aa)×Bool)} (h_rec:∀ (x0:(List UInt8)),Cw (rec x0) (rec_p x0)):Cw (B8.l1 rec b at_1 out_1) (B8.l1 rec_p b at_1 out_1):=by
 unfold B8.l1
 repeat' (with_reducible first | assumption | apply Cw.bind_ | apply Cw.cond_ | apply Cw.up_ | apply h_rec | exact Cw.refl | intro _)
theorem m_ref01_all.F {rec:(List UInt8)->Option ((List Aa)×Bool)} {b:(List UInt8)} {rec_p:(List UInt8)->Option ((List Aa)×Bool)} (h_rec:∀ (x0:(List UInt8)),Cw (rec x0) (rec_p x0)):Cw (B8.F rec b) (B8.F rec_p b):=by
 unfold B8.F
 repeat' (with_reducible first | assumption | apply Cw.bind_ | apply Cw.cond_ | apply Cw.up_ | apply h_rec | apply m_ref01_all.l1 | (refine Cw.lp (fun _=>?_) _) | exact Cw.refl | intro _)
theorem Vw:Mi (fun rec (x:(List UInt8))=>B8.F (fun b=>rec b) x):=fun p q h a=>by
 apply m_ref01_all.F
 intros
 apply h
end
end Go.Proofs.YtlfeokjhphpjeaaGreat
