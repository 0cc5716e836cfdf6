/- Plain texts, joined. No program is in sight here. -/
import Derived.Test.YtobamahlipiakaaGreatPU
import Derived.Test.YtobamahlipiakaaGreatP1
set_option linter.unusedVariables false
set_option linter.unusedSimpArgs false
namespace Go.Proofs.YtobamahlipiakaaGreat
section
open Go
def aTz {A R:Type} (n:Nat) (F:(A->Option R)->A->Option R) (a:A):Option R:=Xt F n a
theorem Dq.fx {A R:Type} {F G:(A->Option R)->A->Option R} (n:Nat) (h:∀ p q:A->Option R,(∀ a,Dq (p a) (q a))->∀ a,Dq (F p a) (G q a)) (hm:Rh G) (a:A):Dq (aTz n F a) (U0 G a):=by
 have key:∀ n a,Dq (Xt F n a) (Xt G n a):=by
  intro n
  induction n with
  | zero=>intro a r hr; cases hr
  | succ n ih=>exact h _ _ ih
 exact fun r hr=>nP hm (key n a r hr)
theorem Nv {A R:Type} {F:(A->Option R)->A->Option R} (hm:Rh F) (spec:A->R) (μ:A->Nat) (Pre:A->Prop) (h:∀ rec a,Pre a->(∀ b,Pre b->μ b < μ a->rec b=some (spec b))->F rec a=some (spec a)) (a:A) (ha:Pre a):U0 F a=some (spec a):=by
 have key:∀ n a,Pre a->μ a < n->Xt F n a=some (spec a):=by
  intro n
  induction n with
  | zero=>intro a _ h0; exact absurd h0 (Nat.not_lt_zero _)
  | succ n ih=>intro a ha hn; exact h _ a ha fun b hb hl=>ih b hb (by omega)
 exact nP hm (key (μ a + 1) a ha (bAn _))
def aPg {α β:Type} [DecidableEq β] (l:List α) (a b:Option β):Option β:=match l with
 | []=>(match a,b with
  | some x,some y=>if x=y then some x else none
  | _,_=>none)
 | _ :: _=>b
theorem Dq.nil {α β:Type} [DecidableEq β] {l:List α} {a a' b b':Option β} (h:Dq a a') (k:Dq b b'):Dq (aPg l a b) (kO l a' b'):=fun r hr=>by
 unfold aPg at hr
 unfold kO
 cases l with
 | nil=>
  rw [if_pos rfl]
  cases a with
  | none=>cases hr
  | some x=>
   cases b with
   | none=>cases hr
   | some y=>
    simp only at hr
    split at hr
    ·rename_i e
     injection hr with hr
     subst hr
     have h1:=h x rfl
     have h2:=k y rfl
     rw [h1,h2,e,if_pos rfl]
    ·cases hr
 | cons x l=>rw [if_neg (by simp)]; exact k r hr
end
section
open Go
theorem E0 {S R:Type} {body:S->Option (Lp S R)} {s s':S} (h:body s=some (.next s')):Bz body s=Bz body s':=by rw [Fj,h]; rfl
theorem kX {S R:Type} {body:S->Option (Lp S R)} {s:S} {r:R} (h:body s=some (.done r)):Bz body s=some r:=by rw [Fj,h]; rfl
theorem D4 {S R:Type} {body:S->Option (Lp S R)} {s:S} {x:Option R} (h:body s=up x):Bz body s=x:=by rw [Fj,h]; cases x <;> rfl
theorem Gs {S R:Type} {body:S->Option (Lp S R)} (n:Nat) (G:Nat->S) (r:R) (h1:∀ i,i < n->body (G i)=some (.next (G (i + 1)))) (h2:body (G n)=some (.done r)):Bz body (G 0)=some r:=by
 have key:∀ k i,i + k=n->Bz body (G i)=some r:=by
  intro k
  induction k with
  | zero=>intro i hi; rw [Fj,show i=n by omega,h2]; rfl
  | succ k ih=>intro i hi; rw [Fj,h1 i (by omega)]; exact ih (i + 1) (by omega)
 exact key n 0 (by omega)
theorem Tc {S R:Type} {body:S->Option (Lp S R)} (n:Nat) (G:Nat->S) (p:Nat->Bool) (r1 r2:R) (h1:∀ i,i < n->body (G i)=some (bif p i then .done r1 else .next (G (i + 1)))) (h2:body (G n)=some (.done r2)):Bz body (G 0)=some (bif (List.range n).any p then r1 else r2):=by
 have key:∀ k i,i + k=n->Bz body (G i)=some (bif (List.range' i k).any p then r1 else r2):=by
  intro k
  induction k with
  | zero=>intro i hi; rw [Fj,show i=n by omega,h2]; rfl
  | succ k ih=>
   intro i hi
   rw [Fj,h1 i (by omega),List.range'_succ,aS9]
   cases hp:p i
   ·exact ih (i + 1) (by omega)
   ·rfl
 have:=key n 0 (by omega)
 rw [this,List.range_eq_range']
theorem Ws {α:Type} (l:List α) (p:α->Bool) (q:Nat->Bool) (h:∀ i x,l[i]?=some x->q i=p x):(List.range l.length).any q=l.any p:=by
 induction l generalizing q with
 | nil=>rfl
 | cons x l ih=>
  rw [aJw,bBa,aS9,aS9,h 0 x rfl,List.any_map]
  congr 1
  exact ih _ fun i y hy=>h (i + 1) y hy
theorem Qs {α S R:Type} {body:S->Option (Lp S R)} (l:List α) (G:Nat->S) (p:α->Bool) (r1 r2:R) (h1:∀ i x,l[i]?=some x->body (G i)=some (bif p x then .done r1 else .next (G (i + 1)))) (h2:body (G l.length)=some (.done r2)):Bz body (G 0)=some (bif l.any p then r1 else r2):=by
 cases l with
 | nil=>rw [Fj,show body (G 0)=some (.done r2) from h2]; rfl
 | cons y l=>
  rw [Tc (y :: l).length G (fun i=>p ((y :: l).getD i y)) r1 r2 (fun i hi=>?_) h2,Ws (y :: l) p _ fun i x hx=>by simp [hx]]
  obtain⟨x,hx⟩:∃ x,(y :: l)[i]?=some x:=⟨_,aCv hi⟩
  rw [h1 i x hx]
  simp [hx]
theorem Qk {α S R:Type} {body:S->Option (Lp S R)} (l:List α) (G:Nat->S) (p:α->Bool) (f:Nat->R) (r2:R) (h1:∀ i x,l[i]?=some x->body (G i)=some (bif p x then .done (f i) else .next (G (i + 1)))) (h2:body (G l.length)=some (.done r2)):Bz body (G 0)=some (match l.findIdx? p with | some i=>f i | none=>r2):=by
 have key:∀ (m:List α) i,l.drop i=m->i<=l.length->Bz body (G i)=some (match m.findIdx? p with | some j=>f (i + j) | none=>r2):=by
  intro m
  induction m with
  | nil=>
   intro i hi hl
   have:l.length<=i:=aZa.1 hi
   rw [Fj,show i=l.length by omega,h2]; rfl
  | cons x m ih=>
   intro i hi hl
   have hx:l[i]?=some x:=by
    have:=congrArg (fun q=>q[0]?) hi
    simpa using this
   have hl':=(aDx.1 hx).1
   rw [Fj,h1 i x hx,List.findIdx?_cons]
   cases hp:p x
   ·have:=ih (i + 1) (by rw [<- aZg,hi]; rfl) hl'
    show Bz body (G (i + 1))=_
    rw [this]
    cases hq:m.findIdx? p with
    | none=>simp
    | some j=>simp only [bA2,if_false,bAq]; congr 2; omega
   ·simp; rfl
 have:=key l 0 (by simp) (aOm _)
 rw [this]
 cases l.findIdx? p <;> simp
theorem Dz {α T:Type} {l:List α} {i:Nat} {x:α} {k:α->Option T} {e:Option T} (h:l[i]?=some x):cond (decide ((i:Int) < (l.length:Int))) ((Bm l (i:Int)).bind k) e=k x:=by
 have hl:=(aDx.1 h).1
 rw [aA4 (by omega),Ef,h]; rfl
theorem Cy {T:Type} {n:Nat} {a e:Option T}:cond (decide ((n:Int) < (n:Int))) a e=e:=by
 rw [aAw (by omega)]; rfl
theorem Fo {i:Nat} (h:i < 4611686018427387904):W ((i:Int) + 1)=((i + 1:Nat):Int):=by
 rw [Ej (by omega)]; omega
theorem aQv {i:Nat} (h:i < 4611686018427387904):W (i:Int)=(i:Int):=Ej (by omega)
theorem D1 {α:Type} {k:Nat} {l m:List α} (h:(l.length + m.length) * k<=140737488355328):Gy k l m=some (l ++ m):=by unfold Gy; rw [if_pos h]
theorem G3 {α:Type} {l:List α} {i:Nat} {x:α} (h:l[i]?=some x):i < l.length:=(aDx.1 h).1
theorem Fr {α:Type} {l:List α} {i:Nat} {x:α} (h:l[i]?=some x):x∈l:=aJz h
theorem I9 {α:Type} {l:List α} {i:Nat} {x:α} (h:l[i]?=some x):l.take (i + 1)=l.take i ++ [x]:=by
 obtain⟨hk,e⟩:=aDx.1 h
 rw [aZu hk,e]
end
section
open Go
def Lo {α:Type} (l:List α):Prop:=l.length < 4611686018427387904
def Ja {α:Type} (l:List α) (p:α->Bool):Int:=match l.findIdx? p with | some i=>(i:Int) | none=>-1
theorem Mj {α:Type} (l:List α) (p:α->Bool):decide (0<=Ja l p)=l.any p:=by
 unfold Ja
 have:=bBk (xs:=l) (p:=p)
 cases h:l.findIdx? p with
 | none=>rw [h] at this; rw [<- this]; rfl
 | some i=>rw [h] at this; rw [<- this]; simp
theorem J7 {α:Type} {body:Int->Option (Lp Int Int)} (l:List α) (p:α->Bool) (hl:Lo l) (h1:∀ (i:Nat) x,l[i]?=some x->body (i:Int)=some (bif p x then .done (i:Int) else .next (W ((i:Int) + 1)))) (h2:body (l.length:Int)=some (.done (-1))):Bz body 0=some (Ja l p):=by
 unfold Lo at hl
 refine (Qk l (fun i=>(i:Int)) p (fun i=>(i:Int)) (-1) (fun i x hx=>?_) h2).trans ?_
 ·have:=G3 hx
  rw [h1 i x hx,Fo (by omega)]
 ·rfl
theorem M7 {α R:Type} {body:Int->Option (Lp Int R)} (l:List α) (p:α->Bool) (r1 r2:R) (hl:Lo l) (h1:∀ (i:Nat) x,l[i]?=some x->body (i:Int)=some (bif p x then .done r1 else .next (W ((i:Int) + 1)))) (h2:body (l.length:Int)=some (.done r2)):Bz body 0=some (bif l.any p then r1 else r2):=by
 unfold Lo at hl
 refine Qs l (fun i=>(i:Int)) p r1 r2 (fun i x hx=>?_) h2
 have:=G3 hx
 rw [h1 i x hx,Fo (by omega)]
theorem V6 {R:Type} {body:Int->Option (Lp Int R)} (n:Nat) (p:Nat->Bool) (r1 r2:R) (hl:n < 4611686018427387904) (h1:∀ (i:Nat),i < n->body (i:Int)=some (bif p i then .done r1 else .next (W ((i:Int) + 1)))) (h2:body (n:Int)=some (.done r2)):Bz body 0=some (bif (List.range n).any p then r1 else r2):=by
 refine Tc n (fun i=>(i:Int)) p r1 r2 (fun i hi=>?_) h2
 rw [h1 i hi,Fo (by omega)]
theorem mQ {α S R:Type} {body:S×Int->Option (Lp (S×Int) R)} (l:List α) (f:S->α->S) (s:S) (r:S->R) (hl:Lo l) (h1:∀ (i:Nat) x s,l[i]?=some x->body (s,(i:Int))=some (.next (f s x,W ((i:Int) + 1)))) (h2:∀ s,body (s,(l.length:Int))=some (.done (r s))):Bz body (s,0)=some (r (l.foldl f s)):=by
 unfold Lo at hl
 refine Gs l.length (fun i=>((l.take i).foldl f s,(i:Int))) _ (fun i hi=>?_) ?_
 ·obtain⟨x,hx⟩:∃ x,l[i]?=some x:=⟨_,aCv hi⟩
  show body ((l.take i).foldl f s,(i:Int))=_
  rw [h1 i x _ hx,Fo (by omega),I9 hx,bAw]
  rfl
 ·show body ((l.take l.length).foldl f s,(l.length:Int))=_
  rw [h2,aR2]
theorem fY (n:Nat) (b:Bool) (h:0 < n):(List.range n).any (fun i=>decide (i=0) && b)=b:=by
 cases n with
 | zero=>omega
 | succ n=>
  rw [bBa,aS9,List.any_map]
  cases b <;> simp
theorem gY (n:Nat) (b:Bool) (h:0 < n):(List.range n).any (fun i=>decide (i + 1=n) && b)=b:=by
 cases b with
 | false=>simp
 | true=>
  rw [aL5]
  exact⟨n - 1,aSn.2 (by omega),by simp; omega⟩
theorem Lr {n:Nat} {p q:Nat->Bool} (h:∀ i,i < n->p i=q i):(List.range n).any p=(List.range n).any q:=by
 rw [Bool.eq_iff_iff,aL5,aL5]
 constructor
 ·rintro⟨i,hi,hp⟩; exact⟨i,hi,by rw [<- h i (aSn.1 hi)]; exact hp⟩
 ·rintro⟨i,hi,hp⟩; exact⟨i,hi,by rw [h i (aSn.1 hi)]; exact hp⟩
theorem aKo {α:Type} {l:List α}:Bm l 0=l[0]?:=Ef (j:=0)
end
section
open Go
def Ok {α:Type} (x:Option α) (Q:α->Prop):Prop:=∃ a,x=some a/\Q a
section
variable {α β S R:Type} {x y:Option α} {f:α->Option β} {Q:α->Prop} {T:β->Prop}
theorem Ok.bind (h:Ok x Q) (k:∀ a,Q a->Ok (f a) T):Ok (x.bind f) T:=by
 obtain⟨a,rfl,h⟩:=h
 exact k a h
theorem Ok.bindE {a:α} (h:x=some a) (k:Ok (f a) T):Ok (x.bind f) T:=by subst h; exact k
theorem Ok.cond {b:Bool} (h:b=true->Ok x Q) (k:b=false->Ok y Q):Ok (cond b x y) Q:=by
 cases b with
 | true=>exact h rfl
 | false=>exact k rfl
theorem Ok.ret {a:α} (h:Q a):Ok (some a) Q:=⟨a,rfl,h⟩
theorem Ok.of {a:α} (h:x=some a) (k:Q a):Ok x Q:=⟨a,h,k⟩
theorem Ok.mono {Q':α->Prop} (h:Ok x Q) (k:∀ a,Q a->Q' a):Ok x Q':=by
 obtain⟨a,h,q⟩:=h
 exact⟨a,h,k a q⟩
def Rd' (Inv:S->Prop) (Q:R->Prop):Lp S R->Prop
 | .next s=>Inv s
 | .done r=>Q r
theorem Ok.up {Q:R->Prop} {x:Option R} {I:S->Prop} (h:Ok x Q):Ok (up x:Option (Lp S R)) (Rd' I Q):=by
 obtain⟨r,rfl,h⟩:=h
 exact⟨_,rfl,h⟩
theorem Ok.loop {body:S->Option (Lp S R)} (Inv:S->Prop) (μ:S->Nat) {Q:R->Prop} {s:S} (h:∀ s,Inv s->Ok (body s) (Rd' (fun s'=>Inv s'/\μ s' < μ s) Q)) (hs:Inv s):Ok (Bz body s) Q:=
 aE5 Inv μ Q (fun s hs=>by
  obtain⟨o,h1,h2⟩:=h s hs
  refine⟨o,h1,?_⟩
  cases o <;> exact h2) s hs
theorem Ok.and {T':α->Prop} (h:Ok x Q) (k:Ok x T'):Ok x (fun a=>Q a/\T' a):=by
 obtain⟨a,h1,h2⟩:=h
 obtain⟨b,h3,h4⟩:=k
 rw [h1] at h3
 injection h3 with h3
 subst h3
 exact⟨a,h1,h2,h4⟩
theorem aGy {A B:Type} {F:(A->Option B)->A->Option B} (hm:Rh F) (μ:A->Nat) (Pre:A->Prop) (Post:A->B->Prop) (h:∀ rec a,Pre a->(∀ b,Pre b->μ b < μ a->Ok (rec b) (Post b))->Ok (F rec a) (Post a)) (a:A) (ha:Pre a):Ok (U0 F a) (Post a):=by
 have key:∀ n a,Pre a->μ a < n->Ok (Xt F n a) (Post a):=by
  intro n
  induction n with
  | zero=>intro a _ h0; exact absurd h0 (Nat.not_lt_zero _)
  | succ n ih=>intro a ha hn; exact h _ a ha fun b hb hl=>ih b hb (by omega)
 obtain⟨r,h1,h2⟩:=key (μ a + 1) a ha (bAn _)
 exact⟨r,nP hm h1,h2⟩
theorem Ok.true_ {x:Option Bool} (h:Ok x (fun r=>r=true)):x=some true:=by
 obtain⟨a,h1,rfl⟩:=h
 exact h1
end
theorem Rv {α:Type} {l:List α} {i:Int} (h0:0<=i) (h1:i < l.length):Ok (Bm l i) (fun x=>l[i.toNat]?=some x):=by
 have h2:i.toNat < l.length:=by omega
 refine⟨l[i.toNat],?_,aCv h2⟩
 rw [aGj h0]
 exact aCv h2
theorem Pl {α:Type} {l:List α} {i:Int} (h0:0<=i) (h1:i < l.length):Ok (Bm l i) (fun x=>x∈l):=(Rv h0 h1).mono fun _ h=>aJz h
theorem Ky {α:Type} {k:Nat} {l m:List α} (h:(l.length + m.length) * k<=140737488355328):Ok (Gy k l m) (fun x=>x=l ++ m):=⟨_,D1 h,rfl⟩
theorem nY {α:Type} {l:List α} {a b:Int} (h:0<=a/\a<=b/\b<=l.length):Ok (Zz l a b) (fun x=>x=(l.drop a.toNat).take (b.toNat - a.toNat)):=⟨_,if_pos h,rfl⟩
theorem aG5 {a b:ByteArray} (h:a.size + b.size<=9223372036854775807):Ok (aEs a b) (fun x=>x=a ++ b):=⟨_,if_pos h,rfl⟩
theorem Im {α:Type} {l:List α} (h:l.length<=1000000):Lo l:=by unfold Lo; omega
end
section
theorem Oe.l1 {s:(List Int)} {f:Int->Option (Bool)} {x8_1:Int} {f_p:Int->Option (Bool)} (h_f:∀ (x0:Int),Dq (f x0) (f_p x0)):Dq (Bi.l1 s f x8_1) (Bi.l1 s f_p x8_1):=by
 unfold Bi.l1
 repeat' (with_reducible first | assumption | apply Dq.bind_ | apply Dq.cond_ | apply Dq.up_ | apply h_f | exact Dq.refl | intro _)
theorem Oe {s:(List Int)} {f:Int->Option (Bool)} {f_p:Int->Option (Bool)} (h_f:∀ (x0:Int),Dq (f x0) (f_p x0)):Dq (Bi s f) (Bi s f_p):=by
 unfold Bi
 repeat' (with_reducible first | assumption | apply Dq.bind_ | apply Dq.cond_ | apply Dq.up_ | apply h_f | apply Oe.l1 | (refine Dq.lp (fun _=>?_) _) | exact Dq.refl | intro _)
theorem Kh.l1 {s:(List Al)} {f:Al->Option (Bool)} {x8_1:Int} {f_p:Al->Option (Bool)} (h_f:∀ (x0:Al),Dq (f x0) (f_p x0)):Dq (Bv.l1 s f x8_1) (Bv.l1 s f_p x8_1):=by
 unfold Bv.l1
 repeat' (with_reducible first | assumption | apply Dq.bind_ | apply Dq.cond_ | apply Dq.up_ | apply h_f | exact Dq.refl | intro _)
theorem Kh {s:(List Al)} {f:Al->Option (Bool)} {f_p:Al->Option (Bool)} (h_f:∀ (x0:Al),Dq (f x0) (f_p x0)):Dq (Bv s f) (Bv s f_p):=by
 unfold Bv
 repeat' (with_reducible first | assumption | apply Dq.bind_ | apply Dq.cond_ | apply Dq.up_ | apply h_f | apply Kh.l1 | (refine Dq.lp (fun _=>?_) _) | exact Dq.refl | intro _)
theorem I0.l1 {s:(List Ae)} {f:Ae->Option (Bool)} {x8_1:Int} {f_p:Ae->Option (Bool)} (h_f:∀ (x0:Ae),Dq (f x0) (f_p x0)):Dq (Bh.l1 s f x8_1) (Bh.l1 s f_p x8_1):=by
 unfold Bh.l1
 repeat' (with_reducible first | assumption | apply Dq.bind_ | apply Dq.cond_ | apply Dq.up_ | apply h_f | exact Dq.refl | intro _)
theorem I0 {s:(List Ae)} {f:Ae->Option (Bool)} {f_p:Ae->Option (Bool)} (h_f:∀ (x0:Ae),Dq (f x0) (f_p x0)):Dq (Bh s f) (Bh s f_p):=by
 unfold Bh
 repeat' (with_reducible first | assumption | apply Dq.bind_ | apply Dq.cond_ | apply Dq.up_ | apply h_f | apply I0.l1 | (refine Dq.lp (fun _=>?_) _) | exact Dq.refl | intro _)
theorem m_der_copied.l1 {rec:(List Ab)->Option ((List Ab))} {l:(List Ab)} {x8_1:Int} {out_1:List Ab} {rec_p:(List Ab)->Option ((List Ab))} (h_rec:∀ (x0:(List Ab)),Dq (rec x0) (rec_p x0)):Dq (D6.l1 rec l x8_1 out_1) (D6.l1 rec_p l x8_1 out_1):=by
 unfold D6.l1
 repeat' (with_reducible first | assumption | apply Dq.bind_ | apply Dq.cond_ | apply Dq.up_ | apply h_rec | exact Dq.refl | intro _)
theorem m_der_copied.F {rec:(List Ab)->Option ((List Ab))} {l:(List Ab)} {rec_p:(List Ab)->Option ((List Ab))} (h_rec:∀ (x0:(List Ab)),Dq (rec x0) (rec_p x0)):Dq (D6.F rec l) (D6.F rec_p l):=by
 unfold D6.F
 repeat' (with_reducible first | assumption | apply Dq.bind_ | apply Dq.cond_ | apply Dq.up_ | apply h_rec | apply m_der_copied.l1 | (refine Dq.lp (fun _=>?_) _) | exact Dq.refl | intro _)
theorem cJ:Rh (fun rec (x:(List Ab))=>D6.F (fun l=>rec l) x):=fun p q h a=>by
 apply m_der_copied.F
 intros
 apply h
theorem cS {rec:Ab->Option (Bool)} {x':Ab} {rec_p:Ab->Option (Bool)} (h_rec:∀ (x0:Ab),Dq (rec x0) (rec_p x0)):Dq (G5 rec x') (G5 rec_p x'):=by
 unfold G5
 repeat' (with_reducible first | assumption | apply Dq.bind_ | apply Dq.cond_ | apply Dq.up_ | apply h_rec | exact Dq.refl | intro _)
theorem If.l1 {s:(List Ab)} {f:Ab->Option (Bool)} {x8_1:Int} {f_p:Ab->Option (Bool)} (h_f:∀ (x0:Ab),Dq (f x0) (f_p x0)):Dq (B7.l1 s f x8_1) (B7.l1 s f_p x8_1):=by
 unfold B7.l1
 repeat' (with_reducible first | assumption | apply Dq.bind_ | apply Dq.cond_ | apply Dq.up_ | apply h_f | exact Dq.refl | intro _)
theorem If {rec:Ab->Option (Bool)} {s:(List Ab)} {f:Ab->Option (Bool)} {rec_p:Ab->Option (Bool)} {f_p:Ab->Option (Bool)} (h_rec:∀ (x0:Ab),Dq (rec x0) (rec_p x0)) (h_f:∀ (x0:Ab),Dq (f x0) (f_p x0)):Dq (B7 rec s f) (B7 rec_p s f_p):=by
 unfold B7
 repeat' (with_reducible first | assumption | apply Dq.bind_ | apply Dq.cond_ | apply Dq.up_ | apply h_rec | apply h_f | apply If.l1 | (refine Dq.lp (fun _=>?_) _) | exact Dq.refl | intro _)
theorem Ov {rec:Ab->Option (Bool)} {s:(List Ab)} {f:Ab->Option (Bool)} {rec_p:Ab->Option (Bool)} {f_p:Ab->Option (Bool)} (h_rec:∀ (x0:Ab),Dq (rec x0) (rec_p x0)) (h_f:∀ (x0:Ab),Dq (f x0) (f_p x0)):Dq (Eb rec s f) (Eb rec_p s f_p):=by
 unfold Eb
 repeat' (with_reducible first | assumption | apply Dq.bind_ | apply Dq.cond_ | apply Dq.up_ | apply h_rec | apply h_f | apply If | exact Dq.refl | intro _)
theorem m_der_formed.j1 {rec:Ab->Option (Bool)} {v:Ab} {x36_1:Bool} {rec_p:Ab->Option (Bool)} (h_rec:∀ (x0:Ab),Dq (rec x0) (rec_p x0)):Dq (Dp.j1 rec v x36_1) (Dp.j1 rec_p v x36_1):=by
 unfold Dp.j1
 repeat' (with_reducible first | assumption | apply Dq.bind_ | apply Dq.cond_ | apply Dq.up_ | apply h_rec | apply Ov | apply cS | exact Dq.refl | intro _)
theorem m_der_formed.F {rec:Ab->Option (Bool)} {v:Ab} {rec_p:Ab->Option (Bool)} (h_rec:∀ (x0:Ab),Dq (rec x0) (rec_p x0)):Dq (Dp.F rec v) (Dp.F rec_p v):=by
 unfold Dp.F
 repeat' (with_reducible first | assumption | apply Dq.bind_ | apply Dq.cond_ | apply Dq.up_ | apply h_rec | apply m_der_formed.j1 | exact Dq.refl | intro _)
theorem cD:Rh (fun rec (x:Ab)=>Dp.F (fun v=>rec v) x):=fun p q h a=>by
 apply m_der_formed.F
 intros
 apply h
theorem m_der_depth.l1 {rec:Ab->Option (Int)} {v:Ab} {most_1:Int} {x9_1:Int} {rec_p:Ab->Option (Int)} (h_rec:∀ (x0:Ab),Dq (rec x0) (rec_p x0)):Dq (Et.l1 rec v most_1 x9_1) (Et.l1 rec_p v most_1 x9_1):=by
 unfold Et.l1
 repeat' (with_reducible first | assumption | apply Dq.bind_ | apply Dq.cond_ | apply Dq.up_ | apply h_rec | exact Dq.refl | intro _)
theorem m_der_depth.F {rec:Ab->Option (Int)} {v:Ab} {rec_p:Ab->Option (Int)} (h_rec:∀ (x0:Ab),Dq (rec x0) (rec_p x0)):Dq (Et.F rec v) (Et.F rec_p v):=by
 unfold Et.F
 repeat' (with_reducible first | assumption | apply Dq.bind_ | apply Dq.cond_ | apply Dq.up_ | apply h_rec | apply m_der_depth.l1 | (refine Dq.lp (fun _=>?_) _) | exact Dq.refl | intro _)
theorem fW:Rh (fun rec (x:Ab)=>Et.F (fun v=>rec v) x):=fun p q h a=>by
 apply m_der_depth.F
 intros
 apply h
theorem jR {rec:Ab->Option ((List UInt8))} {b:List UInt8} {v:Ab} {rec_p:Ab->Option ((List UInt8))} (h_rec:∀ (x0:Ab),Dq (rec x0) (rec_p x0)):Dq (Iu rec b v) (Iu rec_p b v):=by
 unfold Iu
 repeat' (with_reducible first | assumption | apply Dq.bind_ | apply Dq.cond_ | apply Dq.up_ | apply h_rec | exact Dq.refl | intro _)
theorem m_der_contents.l1 {rec:Ab->Option ((List UInt8))} {v:Ab} {x14_1:Int} {out_1:List UInt8} {rec_p:Ab->Option ((List UInt8))} (h_rec:∀ (x0:Ab),Dq (rec x0) (rec_p x0)):Dq (Dd.l1 rec v x14_1 out_1) (Dd.l1 rec_p v x14_1 out_1):=by
 unfold Dd.l1
 repeat' (with_reducible first | assumption | apply Dq.bind_ | apply Dq.cond_ | apply Dq.up_ | apply h_rec | apply jR | exact Dq.refl | intro _)
theorem m_der_contents.F {rec:Ab->Option ((List UInt8))} {v:Ab} {rec_p:Ab->Option ((List UInt8))} (h_rec:∀ (x0:Ab),Dq (rec x0) (rec_p x0)):Dq (Dd.F rec v) (Dd.F rec_p v):=by
 unfold Dd.F
 repeat' (with_reducible first | assumption | apply Dq.bind_ | apply Dq.cond_ | apply Dq.up_ | apply h_rec | apply m_der_contents.l1 | (refine Dq.lp (fun _=>?_) _) | exact Dq.refl | intro _)
theorem Zh:Rh (fun rec (x:Ab)=>Dd.F (fun v=>rec v) x):=fun p q h a=>by
 apply m_der_contents.F
 intros
 apply h
theorem Mh.l1 {s:(List Aa)} {f:Aa->Option (Bool)} {x8_1:Int} {f_p:Aa->Option (Bool)} (h_f:∀ (x0:Aa),Dq (f x0) (f_p x0)):Dq (Bx.l1 s f x8_1) (Bx.l1 s f_p x8_1):=by
 unfold Bx.l1
 repeat' (with_reducible first | assumption | apply Dq.bind_ | apply Dq.cond_ | apply Dq.up_ | apply h_f | exact Dq.refl | intro _)
theorem Mh {s:(List Aa)} {f:Aa->Option (Bool)} {f_p:Aa->Option (Bool)} (h_f:∀ (x0:Aa),Dq (f x0) (f_p x0)):Dq (Bx s f) (Bx s f_p):=by
 unfold Bx
 repeat' (with_reducible first | assumption | apply Dq.bind_ | apply Dq.cond_ | apply Dq.up_ | apply h_f | apply Mh.l1 | (refine Dq.lp (fun _=>?_) _) | exact Dq.refl | intro _)
theorem Nn {cmp:Aa->Aa->Option (Int)}:Rh (fun rec (x:List Aa×Int×Int×Int)=>Ak.F (fun data a b limit=>rec (data,a,b,limit)) x.1 x.2.1 x.2.2.1 x.2.2.2 cmp):=fun p q h a=>by
 show Dq (Ak.F _ _ _ _ _ _) (Ak.F _ _ _ _ _ _)
 unfold Ak.F
 refine Dq.lp (fun _=>?_) _
 unfold Ak.l1 Ak.j2 Ak.j3 Ak.j4 Ak.j5 Ak.j6
 repeat' (with_reducible first | exact Dq.refl | apply Dq.cond_ | apply Dq.bind_ | apply Dq.up_ | apply h | intro _)
theorem L6.l1 {s:(List Aw)} {f:Aw->Option (Bool)} {x8_1:Int} {f_p:Aw->Option (Bool)} (h_f:∀ (x0:Aw),Dq (f x0) (f_p x0)):Dq (Cb.l1 s f x8_1) (Cb.l1 s f_p x8_1):=by
 unfold Cb.l1
 repeat' (with_reducible first | assumption | apply Dq.bind_ | apply Dq.cond_ | apply Dq.up_ | apply h_f | exact Dq.refl | intro _)
theorem L6 {s:(List Aw)} {f:Aw->Option (Bool)} {f_p:Aw->Option (Bool)} (h_f:∀ (x0:Aw),Dq (f x0) (f_p x0)):Dq (Cb s f) (Cb s f_p):=by
 unfold Cb
 repeat' (with_reducible first | assumption | apply Dq.bind_ | apply Dq.cond_ | apply Dq.up_ | apply h_f | apply L6.l1 | (refine Dq.lp (fun _=>?_) _) | exact Dq.refl | intro _)
theorem L8.l1 {s:(List Bl)} {f:Bl->Option (Bool)} {x8_1:Int} {f_p:Bl->Option (Bool)} (h_f:∀ (x0:Bl),Dq (f x0) (f_p x0)):Dq (Ca.l1 s f x8_1) (Ca.l1 s f_p x8_1):=by
 unfold Ca.l1
 repeat' (with_reducible first | assumption | apply Dq.bind_ | apply Dq.cond_ | apply Dq.up_ | apply h_f | exact Dq.refl | intro _)
theorem L8 {s:(List Bl)} {f:Bl->Option (Bool)} {f_p:Bl->Option (Bool)} (h_f:∀ (x0:Bl),Dq (f x0) (f_p x0)):Dq (Ca s f) (Ca s f_p):=by
 unfold Ca
 repeat' (with_reducible first | assumption | apply Dq.bind_ | apply Dq.cond_ | apply Dq.up_ | apply h_f | apply L8.l1 | (refine Dq.lp (fun _=>?_) _) | exact Dq.refl | intro _)
theorem Jp.l1 {s:(List Ah)} {f:Ah->Option (Bool)} {x8_1:Int} {f_p:Ah->Option (Bool)} (h_f:∀ (x0:Ah),Dq (f x0) (f_p x0)):Dq (Bt.l1 s f x8_1) (Bt.l1 s f_p x8_1):=by
 unfold Bt.l1
 repeat' (with_reducible first | assumption | apply Dq.bind_ | apply Dq.cond_ | apply Dq.up_ | apply h_f | exact Dq.refl | intro _)
theorem Jp {s:(List Ah)} {f:Ah->Option (Bool)} {f_p:Ah->Option (Bool)} (h_f:∀ (x0:Ah),Dq (f x0) (f_p x0)):Dq (Bt s f) (Bt s f_p):=by
 unfold Bt
 repeat' (with_reducible first | assumption | apply Dq.bind_ | apply Dq.cond_ | apply Dq.up_ | apply h_f | apply Jp.l1 | (refine Dq.lp (fun _=>?_) _) | exact Dq.refl | intro _)
theorem m_ref01_copies.l1 {rec:(List Ab)->Option ((List Ab))} {l:(List Ab)} {i_1:Int} {out_1:List Ab} {rec_p:(List Ab)->Option ((List Ab))} (h_rec:∀ (x0:(List Ab)),Dq (rec x0) (rec_p x0)):Dq (Dl.l1 rec l i_1 out_1) (Dl.l1 rec_p l i_1 out_1):=by
 unfold Dl.l1
 repeat' (with_reducible first | assumption | apply Dq.bind_ | apply Dq.cond_ | apply Dq.up_ | apply h_rec | exact Dq.refl | intro _)
theorem m_ref01_copies.F {rec:(List Ab)->Option ((List Ab))} {l:(List Ab)} {rec_p:(List Ab)->Option ((List Ab))} (h_rec:∀ (x0:(List Ab)),Dq (rec x0) (rec_p x0)):Dq (Dl.F rec l) (Dl.F rec_p l):=by
 unfold Dl.F
 repeat' (with_reducible first | assumption | apply Dq.bind_ | apply Dq.cond_ | apply Dq.up_ | apply h_rec | apply m_ref01_copies.l1 | (refine Dq.lp (fun _=>?_) _) | exact Dq.refl | intro _)
theorem Y5:Rh (fun rec (x:(List Ab))=>Dl.F (fun l=>rec l) x):=fun p q h a=>by
 apply m_ref01_copies.F
 intros
 apply h
theorem m_ref01_formed.l2 {rec:Ab->Option (Bool)} {v:Ab} {i_2:Int} {rec_p:Ab->Option (Bool)} (h_rec:∀ (x0:Ab),Dq (rec x0) (rec_p x0)):Dq (B6.l2 rec v i_2) (B6.l2 rec_p v i_2):=by
 unfold B6.l2
 repeat' (with_reducible first | assumption | apply Dq.bind_ | apply Dq.cond_ | apply Dq.up_ | apply h_rec | exact Dq.refl | intro _)
theorem m_ref01_formed.j1 {rec:Ab->Option (Bool)} {v:Ab} {x38_1:Bool} {rec_p:Ab->Option (Bool)} (h_rec:∀ (x0:Ab),Dq (rec x0) (rec_p x0)):Dq (B6.j1 rec v x38_1) (B6.j1 rec_p v x38_1):=by
 unfold B6.j1
 repeat' (with_reducible first | assumption | apply Dq.bind_ | apply Dq.cond_ | apply Dq.up_ | apply h_rec | apply m_ref01_formed.l2 | (refine Dq.lp (fun _=>?_) _) | exact Dq.refl | intro _)
theorem m_ref01_formed.F {rec:Ab->Option (Bool)} {v:Ab} {rec_p:Ab->Option (Bool)} (h_rec:∀ (x0:Ab),Dq (rec x0) (rec_p x0)):Dq (B6.F rec v) (B6.F rec_p v):=by
 unfold B6.F
 repeat' (with_reducible first | assumption | apply Dq.bind_ | apply Dq.cond_ | apply Dq.up_ | apply h_rec | apply m_ref01_formed.j1 | exact Dq.refl | intro _)
theorem Yp:Rh (fun rec (x:Ab)=>B6.F (fun v=>rec v) x):=fun p q h a=>by
 apply m_ref01_formed.F
 intros
 apply h
theorem m_ref01_depth.l1 {rec:Ab->Option (Int)} {v:Ab} {d_1:Int} {i_1:Int} {rec_p:Ab->Option (Int)} (h_rec:∀ (x0:Ab),Dq (rec x0) (rec_p x0)):Dq (Dt.l1 rec v d_1 i_1) (Dt.l1 rec_p v d_1 i_1):=by
 unfold Dt.l1
 repeat' (with_reducible first | assumption | apply Dq.bind_ | apply Dq.cond_ | apply Dq.up_ | apply h_rec | exact Dq.refl | intro _)
theorem m_ref01_depth.F {rec:Ab->Option (Int)} {v:Ab} {rec_p:Ab->Option (Int)} (h_rec:∀ (x0:Ab),Dq (rec x0) (rec_p x0)):Dq (Dt.F rec v) (Dt.F rec_p v):=by
 unfold Dt.F
 repeat' (with_reducible first | assumption | apply Dq.bind_ | apply Dq.cond_ | apply Dq.up_ | apply h_rec | apply m_ref01_depth.l1 | (refine Dq.lp (fun _=>?_) _) | exact Dq.refl | intro _)
theorem aU:Rh (fun rec (x:Ab)=>Dt.F (fun v=>rec v) x):=fun p q h a=>by
 apply m_ref01_depth.F
 intros
 apply h
theorem m_ref01_put.l1 {rec:Ab->Option ((List UInt8))} {v:Ab} {i_1:Int} {b_1:List UInt8} {rec_p:Ab->Option ((List UInt8))} (h_rec:∀ (x0:Ab),Dq (rec x0) (rec_p x0)):Dq (Eu.l1 rec v i_1 b_1) (Eu.l1 rec_p v i_1 b_1):=by
 unfold Eu.l1
 repeat' (with_reducible first | assumption | apply Dq.bind_ | apply Dq.cond_ | apply Dq.up_ | apply h_rec | exact Dq.refl | intro _)
theorem m_ref01_put.F {rec:Ab->Option ((List UInt8))} {v:Ab} {rec_p:Ab->Option ((List UInt8))} (h_rec:∀ (x0:Ab),Dq (rec x0) (rec_p x0)):Dq (Eu.F rec v) (Eu.F rec_p v):=by
 unfold Eu.F
 repeat' (with_reducible first | assumption | apply Dq.bind_ | apply Dq.cond_ | apply Dq.up_ | apply h_rec | apply m_ref01_put.l1 | (refine Dq.lp (fun _=>?_) _) | exact Dq.refl | intro _)
theorem fH:Rh (fun rec (x:Ab)=>Eu.F (fun v=>rec v) x):=fun p q h a=>by
 apply m_ref01_put.F
 intros
 apply h
end
end Go.Proofs.YtobamahlipiakaaGreat
