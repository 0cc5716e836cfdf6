/- Plain texts, joined. No program is in sight here. -/
import Derived.Test.YtfanepojdefdpaaGreatPU
import Derived.Test.YtfanepojdefdpaaGreatP1
set_option linter.unusedVariables false
set_option linter.unusedSimpArgs false
namespace Go.Proofs.YtfanepojdefdpaaGreat
section
open Go
def uR {A R:Type} (n:Nat) (F:(A->Option R)->A->Option R) (a:A):Option R:=Pz F n a
theorem Cg.fx {A R:Type} {F G:(A->Option R)->A->Option R} (n:Nat) (h:∀ p q:A->Option R,(∀ a,Cg (p a) (q a))->∀ a,Cg (F p a) (G q a)) (hm:Ll G) (a:A):Cg (uR n F a) (O0 G a):=by
 have key:∀ n a,Cg (Pz F n a) (Pz G n a):=by
  intro n
  induction n with
  | zero=>intro a r hr; cases hr
  | succ n ih=>exact h _ _ ih
 exact fun r hr=>cA hm (key n a r hr)
theorem Ig {A R:Type} {F:(A->Option R)->A->Option R} (hm:Ll F) (spec:A->R) (μ:A->Nat) (Pre:A->Prop) (h:∀ rec a,Pre a->(∀ b,Pre b->μ b < μ a->rec b=some (spec b))->F rec a=some (spec a)) (a:A) (ha:Pre a):O0 F a=some (spec a):=by
 have key:∀ n a,Pre a->μ a < n->Pz F n a=some (spec a):=by
  intro n
  induction n with
  | zero=>intro a _ h0; exact absurd h0 (Nat.not_lt_zero _)
  | succ n ih=>intro a ha hn; exact h _ a ha fun b hb hl=>ih b hb (by omega)
 exact cA hm (key (μ a + 1) a ha (vO _))
def tA {α β:Type} [DecidableEq β] (l:List α) (a b:Option β):Option β:=match l with
 | []=>(match a,b with
  | some x,some y=>if x=y then some x else none
  | _,_=>none)
 | _ :: _=>b
theorem Cg.nil {α β:Type} [DecidableEq β] {l:List α} {a a' b b':Option β} (h:Cg a a') (k:Cg b b'):Cg (tA l a b) (U8 l a' b'):=fun r hr=>by
 unfold tA at hr
 unfold U8
 cases l with
 | nil=>
  rw [if_pos rfl]
  cases a with
  | none=>cases hr
  | some x=>
   cases b with
   | none=>cases hr
   | some y=>
    simp only at hr
    split at hr
    ·rename_i e
     injection hr with hr
     subst hr
     have h1:=h x rfl
     have h2:=k y rfl
     rw [h1,h2,e,if_pos rfl]
    ·cases hr
 | cons x l=>rw [if_neg (by simp)]; exact k r hr
end
section
open Go
theorem Gk {S R:Type} {body:S->Option (Lp S R)} {s s':S} (h:body s=some (.next s')):C5 body s=C5 body s':=by rw [E9,h]; rfl
theorem Q7 {S R:Type} {body:S->Option (Lp S R)} {s:S} {r:R} (h:body s=some (.done r)):C5 body s=some r:=by rw [E9,h]; rfl
theorem K6 {S R:Type} {body:S->Option (Lp S R)} {s:S} {x:Option R} (h:body s=up x):C5 body s=x:=by rw [E9,h]; cases x <;> rfl
theorem D8 {S R:Type} {body:S->Option (Lp S R)} (n:Nat) (G:Nat->S) (r:R) (h1:∀ i,i < n->body (G i)=some (.next (G (i + 1)))) (h2:body (G n)=some (.done r)):C5 body (G 0)=some r:=by
 have key:∀ k i,i + k=n->C5 body (G i)=some r:=by
  intro k
  induction k with
  | zero=>intro i hi; rw [E9,show i=n by omega,h2]; rfl
  | succ k ih=>intro i hi; rw [E9,h1 i (by omega)]; exact ih (i + 1) (by omega)
 exact key n 0 (by omega)
theorem Ly {S R:Type} {body:S->Option (Lp S R)} (n:Nat) (G:Nat->S) (p:Nat->Bool) (r1 r2:R) (h1:∀ i,i < n->body (G i)=some (bif p i then .done r1 else .next (G (i + 1)))) (h2:body (G n)=some (.done r2)):C5 body (G 0)=some (bif (List.range n).any p then r1 else r2):=by
 have key:∀ k i,i + k=n->C5 body (G i)=some (bif (List.range' i k).any p then r1 else r2):=by
  intro k
  induction k with
  | zero=>intro i hi; rw [E9,show i=n by omega,h2]; rfl
  | succ k ih=>
   intro i hi
   rw [E9,h1 i (by omega),List.range'_succ,xY]
   cases hp:p i
   ·exact ih (i + 1) (by omega)
   ·rfl
 have:=key n 0 (by omega)
 rw [this,List.range_eq_range']
theorem eE {α:Type} (l:List α) (p:α->Bool) (q:Nat->Bool) (h:∀ i x,l[i]?=some x->q i=p x):(List.range l.length).any q=l.any p:=by
 induction l generalizing q with
 | nil=>rfl
 | cons x l ih=>
  rw [xA,List.range_succ_eq_map,xY,xY,h 0 x rfl,List.any_map]
  congr 1
  exact ih _ fun i y hy=>h (i + 1) y hy
theorem Px {α S R:Type} {body:S->Option (Lp S R)} (l:List α) (G:Nat->S) (p:α->Bool) (r1 r2:R) (h1:∀ i x,l[i]?=some x->body (G i)=some (bif p x then .done r1 else .next (G (i + 1)))) (h2:body (G l.length)=some (.done r2)):C5 body (G 0)=some (bif l.any p then r1 else r2):=by
 cases l with
 | nil=>rw [E9,show body (G 0)=some (.done r2) from h2]; rfl
 | cons y l=>
  rw [Ly (y :: l).length G (fun i=>p ((y :: l).getD i y)) r1 r2 (fun i hi=>?_) h2,eE (y :: l) p _ fun i x hx=>by simp [hx]]
  obtain⟨x,hx⟩:∃ x,(y :: l)[i]?=some x:=⟨_,vJ hi⟩
  rw [h1 i x hx]
  simp [hx]
theorem L5 {α S R:Type} {body:S->Option (Lp S R)} (l:List α) (G:Nat->S) (p:α->Bool) (f:Nat->R) (r2:R) (h1:∀ i x,l[i]?=some x->body (G i)=some (bif p x then .done (f i) else .next (G (i + 1)))) (h2:body (G l.length)=some (.done r2)):C5 body (G 0)=some (match l.findIdx? p with | some i=>f i | none=>r2):=by
 have key:∀ (m:List α) i,l.drop i=m->i<=l.length->C5 body (G i)=some (match m.findIdx? p with | some j=>f (i + j) | none=>r2):=by
  intro m
  induction m with
  | nil=>
   intro i hi hl
   have:l.length<=i:=List.drop_eq_nil_iff.1 hi
   rw [E9,show i=l.length by omega,h2]; rfl
  | cons x m ih=>
   intro i hi hl
   have hx:l[i]?=some x:=by
    have:=congrArg (fun q=>q[0]?) hi
    simpa using this
   have hl':=(vM.1 hx).1
   rw [E9,h1 i x hx,List.findIdx?_cons]
   cases hp:p x
   ·have:=ih (i + 1) (by rw [<- aAe,hi]; rfl) hl'
    show C5 body (G (i + 1))=_
    rw [this]
    cases hq:m.findIdx? p with
    | none=>simp
    | some j=>simp only [zU,if_false,aAn]; congr 2; omega
   ·simp; rfl
 have:=key l 0 (by simp) (wV _)
 rw [this]
 cases l.findIdx? p <;> simp
theorem Dw {α T:Type} {l:List α} {i:Nat} {x:α} {k:α->Option T} {e:Option T} (h:l[i]?=some x):cond (decide ((i:Int) < (l.length:Int))) ((C2 l (i:Int)).bind k) e=k x:=by
 have hl:=(vM.1 h).1
 rw [vL (by omega),Ec,h]; rfl
theorem Db {T:Type} {n:Nat} {a e:Option T}:cond (decide ((n:Int) < (n:Int))) a e=e:=by
 rw [vK (by omega)]; rfl
theorem Du {i:Nat} (h:i < 4611686018427387904):W ((i:Int) + 1)=((i + 1:Nat):Int):=by
 rw [Hy (by omega)]; omega
theorem sK {i:Nat} (h:i < 4611686018427387904):W (i:Int)=(i:Int):=Hy (by omega)
theorem Dj {α:Type} {k:Nat} {l m:List α} (h:(l.length + m.length) * k<=140737488355328):Fk k l m=some (l ++ m):=by unfold Fk; rw [if_pos h]
theorem Jc {α:Type} {l:List α} {i:Nat} {x:α} (h:l[i]?=some x):i < l.length:=(vM.1 h).1
theorem Ef {α:Type} {l:List α} {i:Nat} {x:α} (h:l[i]?=some x):x∈l:=vZ h
theorem En {α:Type} {l:List α} {i:Nat} {x:α} (h:l[i]?=some x):l.take (i + 1)=l.take i ++ [x]:=by
 obtain⟨hk,e⟩:=vM.1 h
 rw [yU hk,e]
end
section
open Go
def Lo {α:Type} (l:List α):Prop:=l.length < 4611686018427387904
def On {α:Type} (l:List α) (p:α->Bool):Int:=match l.findIdx? p with | some i=>(i:Int) | none=>-1
theorem Zd {α:Type} {body:Int->Option (Lp Int Int)} (l:List α) (p:α->Bool) (hl:Lo l) (h1:∀ (i:Nat) x,l[i]?=some x->body (i:Int)=some (bif p x then .done (i:Int) else .next (W ((i:Int) + 1)))) (h2:body (l.length:Int)=some (.done (-1))):C5 body 0=some (On l p):=by
 unfold Lo at hl
 refine (L5 l (fun i=>(i:Int)) p (fun i=>(i:Int)) (-1) (fun i x hx=>?_) h2).trans ?_
 ·have:=Jc hx
  rw [h1 i x hx,Du (by omega)]
 ·rfl
theorem Ye {α R:Type} {body:Int->Option (Lp Int R)} (l:List α) (p:α->Bool) (r1 r2:R) (hl:Lo l) (h1:∀ (i:Nat) x,l[i]?=some x->body (i:Int)=some (bif p x then .done r1 else .next (W ((i:Int) + 1)))) (h2:body (l.length:Int)=some (.done r2)):C5 body 0=some (bif l.any p then r1 else r2):=by
 unfold Lo at hl
 refine Px l (fun i=>(i:Int)) p r1 r2 (fun i x hx=>?_) h2
 have:=Jc hx
 rw [h1 i x hx,Du (by omega)]
theorem Vn {R:Type} {body:Int->Option (Lp Int R)} (n:Nat) (p:Nat->Bool) (r1 r2:R) (hl:n < 4611686018427387904) (h1:∀ (i:Nat),i < n->body (i:Int)=some (bif p i then .done r1 else .next (W ((i:Int) + 1)))) (h2:body (n:Int)=some (.done r2)):C5 body 0=some (bif (List.range n).any p then r1 else r2):=by
 refine Ly n (fun i=>(i:Int)) p r1 r2 (fun i hi=>?_) h2
 rw [h1 i hi,Du (by omega)]
theorem cY {α S R:Type} {body:S×Int->Option (Lp (S×Int) R)} (l:List α) (f:S->α->S) (s:S) (r:S->R) (hl:Lo l) (h1:∀ (i:Nat) x s,l[i]?=some x->body (s,(i:Int))=some (.next (f s x,W ((i:Int) + 1)))) (h2:∀ s,body (s,(l.length:Int))=some (.done (r s))):C5 body (s,0)=some (r (l.foldl f s)):=by
 unfold Lo at hl
 refine D8 l.length (fun i=>((l.take i).foldl f s,(i:Int))) _ (fun i hi=>?_) ?_
 ·obtain⟨x,hx⟩:∃ x,l[i]?=some x:=⟨_,vJ hi⟩
  show body ((l.take i).foldl f s,(i:Int))=_
  rw [h1 i x _ hx,Du (by omega),En hx,List.foldl_append]
  rfl
 ·show body ((l.take l.length).foldl f s,(l.length:Int))=_
  rw [h2,wP]
end
section
open Go
def Ok {α:Type} (x:Option α) (Q:α->Prop):Prop:=∃ a,x=some a/\Q a
section
variable {α β S R:Type} {x y:Option α} {f:α->Option β} {Q:α->Prop} {T:β->Prop}
theorem Ok.bind (h:Ok x Q) (k:∀ a,Q a->Ok (f a) T):Ok (x.bind f) T:=by
 obtain⟨a,rfl,h⟩:=h
 exact k a h
theorem Ok.bindE {a:α} (h:x=some a) (k:Ok (f a) T):Ok (x.bind f) T:=by subst h; exact k
theorem Ok.cond {b:Bool} (h:b=true->Ok x Q) (k:b=false->Ok y Q):Ok (cond b x y) Q:=by
 cases b with
 | true=>exact h rfl
 | false=>exact k rfl
theorem Ok.ret {a:α} (h:Q a):Ok (some a) Q:=⟨a,rfl,h⟩
theorem Ok.of {a:α} (h:x=some a) (k:Q a):Ok x Q:=⟨a,h,k⟩
theorem Ok.mono {Q':α->Prop} (h:Ok x Q) (k:∀ a,Q a->Q' a):Ok x Q':=by
 obtain⟨a,h,q⟩:=h
 exact⟨a,h,k a q⟩
def uY (Inv:S->Prop) (Q:R->Prop):Lp S R->Prop
 | .next s=>Inv s
 | .done r=>Q r
theorem Ok.up {Q:R->Prop} {x:Option R} {I:S->Prop} (h:Ok x Q):Ok (up x:Option (Lp S R)) (uY I Q):=by
 obtain⟨r,rfl,h⟩:=h
 exact⟨_,rfl,h⟩
theorem Ok.loop {body:S->Option (Lp S R)} (Inv:S->Prop) (μ:S->Nat) {Q:R->Prop} {s:S} (h:∀ s,Inv s->Ok (body s) (uY (fun s'=>Inv s'/\μ s' < μ s) Q)) (hs:Inv s):Ok (C5 body s) Q:=
 gK Inv μ Q (fun s hs=>by
  obtain⟨o,h1,h2⟩:=h s hs
  refine⟨o,h1,?_⟩
  cases o <;> exact h2) s hs
theorem Ok.and {T':α->Prop} (h:Ok x Q) (k:Ok x T'):Ok x (fun a=>Q a/\T' a):=by
 obtain⟨a,h1,h2⟩:=h
 obtain⟨b,h3,h4⟩:=k
 rw [h1] at h3
 injection h3 with h3
 subst h3
 exact⟨a,h1,h2,h4⟩
theorem Ok.true_ {x:Option Bool} (h:Ok x (fun r=>r=true)):x=some true:=by
 obtain⟨a,h1,rfl⟩:=h
 exact h1
end
theorem Sw {α:Type} {l:List α} {i:Int} (h0:0<=i) (h1:i < l.length):Ok (C2 l i) (fun x=>l[i.toNat]?=some x):=by
 have h2:i.toNat < l.length:=by omega
 refine⟨l[i.toNat],?_,vJ h2⟩
 rw [kO h0]
 exact vJ h2
theorem P8 {α:Type} {l:List α} {i:Int} (h0:0<=i) (h1:i < l.length):Ok (C2 l i) (fun x=>x∈l):=(Sw h0 h1).mono fun _ h=>vZ h
theorem Qi {α:Type} {k:Nat} {l m:List α} (h:(l.length + m.length) * k<=140737488355328):Ok (Fk k l m) (fun x=>x=l ++ m):=⟨_,Dj h,rfl⟩
theorem kD {a b:ByteArray} (h:a.size + b.size<=9223372036854775807):Ok (fE a b) (fun x=>x=a ++ b):=⟨_,if_pos h,rfl⟩
theorem Gj {α:Type} {l:List α} (h:l.length<=1000000):Lo l:=by unfold Lo; omega
end
section
theorem G3.l1 {s:(List Ac)} {f:Ac->Option (Bool)} {x8_1:Int} {f_p:Ac->Option (Bool)} (h_f:∀ (x0:Ac),Cg (f x0) (f_p x0)):Cg (A9.l1 s f x8_1) (A9.l1 s f_p x8_1):=by
 unfold A9.l1
 repeat' (with_reducible first | assumption | apply Cg.bind_ | apply Cg.cond_ | apply Cg.up_ | apply h_f | exact Cg.refl | intro _)
theorem G3 {s:(List Ac)} {f:Ac->Option (Bool)} {f_p:Ac->Option (Bool)} (h_f:∀ (x0:Ac),Cg (f x0) (f_p x0)):Cg (A9 s f) (A9 s f_p):=by
 unfold A9
 repeat' (with_reducible first | assumption | apply Cg.bind_ | apply Cg.cond_ | apply Cg.up_ | apply h_f | apply G3.l1 | (refine Cg.lp (fun _=>?_) _) | exact Cg.refl | intro _)
theorem Cy.l2 {a:Int} {cmp:Ac->Ac->Option (Int)} {i_1:Int} {j_2:Int} {data_2:List Ac} {cmp_p:Ac->Ac->Option (Int)} (h_cmp:∀ (x0:Ac) (x1:Ac),Cg (cmp x0 x1) (cmp_p x0 x1)):Cg (Aj.l2 a cmp i_1 j_2 data_2) (Aj.l2 a cmp_p i_1 j_2 data_2):=by
 unfold Aj.l2
 repeat' (with_reducible first | assumption | apply Cg.bind_ | apply Cg.cond_ | apply Cg.up_ | apply h_cmp | exact Cg.refl | intro _)
theorem Cy.l1 {a:Int} {b:Int} {cmp:Ac->Ac->Option (Int)} {i_1:Int} {data_1:List Ac} {cmp_p:Ac->Ac->Option (Int)} (h_cmp:∀ (x0:Ac) (x1:Ac),Cg (cmp x0 x1) (cmp_p x0 x1)):Cg (Aj.l1 a b cmp i_1 data_1) (Aj.l1 a b cmp_p i_1 data_1):=by
 unfold Aj.l1
 repeat' (with_reducible first | assumption | apply Cg.bind_ | apply Cg.cond_ | apply Cg.up_ | apply h_cmp | apply Cy.l2 | (refine Cg.lp (fun _=>?_) _) | exact Cg.refl | intro _)
theorem Cy {data:List Ac} {a:Int} {b:Int} {cmp:Ac->Ac->Option (Int)} {cmp_p:Ac->Ac->Option (Int)} (h_cmp:∀ (x0:Ac) (x1:Ac),Cg (cmp x0 x1) (cmp_p x0 x1)):Cg (Aj data a b cmp) (Aj data a b cmp_p):=by
 unfold Aj
 repeat' (with_reducible first | assumption | apply Cg.bind_ | apply Cg.cond_ | apply Cg.up_ | apply h_cmp | apply Cy.l1 | (refine Cg.lp (fun _=>?_) _) | exact Cg.refl | intro _)
theorem F1.l1 {data:List Ac} {a:Int} {b:Int} {limit:Int} {cmp:Ac->Ac->Option (Int)} {cmp_p:Ac->Ac->Option (Int)} (h_cmp:∀ (x0:Ac) (x1:Ac),Cg (cmp x0 x1) (cmp_p x0 x1)):Cg (A6.l1 data a b limit cmp) (A6.l1 data a b limit cmp_p):=by
 unfold A6.l1
 repeat' (with_reducible first | assumption | apply Cg.bind_ | apply Cg.cond_ | apply Cg.up_ | apply h_cmp | apply Cy | exact Cg.refl | intro _)
theorem F1 {data:List Ac} {a:Int} {b:Int} {limit:Int} {cmp:Ac->Ac->Option (Int)} {cmp_p:Ac->Ac->Option (Int)} (h_cmp:∀ (x0:Ac) (x1:Ac),Cg (cmp x0 x1) (cmp_p x0 x1)):Cg (A6 data a b limit cmp) (A6 data a b limit cmp_p):=by
 unfold A6
 repeat' (with_reducible first | assumption | apply Cg.bind_ | apply Cg.cond_ | apply Cg.up_ | apply h_cmp | apply F1.l1 | (refine Cg.lp (fun _=>?_) _) | exact Cg.refl | intro _)
theorem m_ref01_copies.l1 {rec:(List Aa)->Option ((List Aa))} {l:(List Aa)} {i_1:Int} {out_1:List Aa} {rec_p:(List Aa)->Option ((List Aa))} (h_rec:∀ (x0:(List Aa)),Cg (rec x0) (rec_p x0)):Cg (Bz.l1 rec l i_1 out_1) (Bz.l1 rec_p l i_1 out_1):=by
 unfold Bz.l1
 repeat' (with_reducible first | assumption | apply Cg.bind_ | apply Cg.cond_ | apply Cg.up_ | apply h_rec | exact Cg.refl | intro _)
theorem m_ref01_copies.F {rec:(List Aa)->Option ((List Aa))} {l:(List Aa)} {rec_p:(List Aa)->Option ((List Aa))} (h_rec:∀ (x0:(List Aa)),Cg (rec x0) (rec_p x0)):Cg (Bz.F rec l) (Bz.F rec_p l):=by
 unfold Bz.F
 repeat' (with_reducible first | assumption | apply Cg.bind_ | apply Cg.cond_ | apply Cg.up_ | apply h_rec | apply m_ref01_copies.l1 | (refine Cg.lp (fun _=>?_) _) | exact Cg.refl | intro _)
theorem Pe:Ll (fun rec (x:(List Aa))=>Bz.F (fun l=>rec l) x):=fun p q h a=>by
 apply m_ref01_copies.F
 intros
 apply h
theorem m_ref01_formed.l2 {rec:Aa->Option (Bool)} {v:Aa} {i_2:Int} {rec_p:Aa->Option (Bool)} (h_rec:∀ (x0:Aa),Cg (rec x0) (rec_p x0)):Cg (Bb.l2 rec v i_2) (Bb.l2 rec_p v i_2):=by
 unfold Bb.l2
 repeat' (with_reducible first | assumption | apply Cg.bind_ | apply Cg.cond_ | apply Cg.up_ | apply h_rec | exact Cg.refl | intro _)
theorem m_ref01_formed.j1 {rec:Aa->Option (Bool)} {v:Aa} {x38_1:Bool} {rec_p:Aa->Option (Bool)} (h_rec:∀ (x0:Aa),Cg (rec x0) (rec_p x0)):Cg (Bb.j1 rec v x38_1) (Bb.j1 rec_p v x38_1):=by
 unfold Bb.j1
 repeat' (with_reducible first | assumption | apply Cg.bind_ | apply Cg.cond_ | apply Cg.up_ | apply h_rec | apply m_ref01_formed.l2 | (refine Cg.lp (fun _=>?_) _) | exact Cg.refl | intro _)
theorem m_ref01_formed.F {rec:Aa->Option (Bool)} {v:Aa} {rec_p:Aa->Option (Bool)} (h_rec:∀ (x0:Aa),Cg (rec x0) (rec_p x0)):Cg (Bb.F rec v) (Bb.F rec_p v):=by
 unfold Bb.F
 repeat' (with_reducible first | assumption | apply Cg.bind_ | apply Cg.cond_ | apply Cg.up_ | apply h_rec | apply m_ref01_formed.j1 | exact Cg.refl | intro _)
theorem P9:Ll (fun rec (x:Aa)=>Bb.F (fun v=>rec v) x):=fun p q h a=>by
 apply m_ref01_formed.F
 intros
 apply h
theorem m_ref01_depth.l1 {rec:Aa->Option (Int)} {v:Aa} {d_1:Int} {i_1:Int} {rec_p:Aa->Option (Int)} (h_rec:∀ (x0:Aa),Cg (rec x0) (rec_p x0)):Cg (Ca.l1 rec v d_1 i_1) (Ca.l1 rec_p v d_1 i_1):=by
 unfold Ca.l1
 repeat' (with_reducible first | assumption | apply Cg.bind_ | apply Cg.cond_ | apply Cg.up_ | apply h_rec | exact Cg.refl | intro _)
theorem m_ref01_depth.F {rec:Aa->Option (Int)} {v:Aa} {rec_p:Aa->Option (Int)} (h_rec:∀ (x0:Aa),Cg (rec x0) (rec_p x0)):Cg (Ca.F rec v) (Ca.F rec_p v):=by
 unfold Ca.F
 repeat' (with_reducible first | assumption | apply Cg.bind_ | apply Cg.cond_ | apply Cg.up_ | apply h_rec | apply m_ref01_depth.l1 | (refine Cg.lp (fun _=>?_) _) | exact Cg.refl | intro _)
theorem Rl:Ll (fun rec (x:Aa)=>Ca.F (fun v=>rec v) x):=fun p q h a=>by
 apply m_ref01_depth.F
 intros
 apply h
theorem m_ref01_put.l1 {rec:Aa->Option ((List UInt8))} {v:Aa} {i_1:Int} {b_1:List UInt8} {rec_p:Aa->Option ((List UInt8))} (h_rec:∀ (x0:Aa),Cg (rec x0) (rec_p x0)):Cg (Cw.l1 rec v i_1 b_1) (Cw.l1 rec_p v i_1 b_1):=by
 unfold Cw.l1
 repeat' (with_reducible first | assumption | apply Cg.bind_ | apply Cg.cond_ | apply Cg.up_ | apply h_rec | exact Cg.refl | intro _)
theorem m_ref01_put.F {rec:Aa->Option ((List UInt8))} {v:Aa} {rec_p:Aa->Option ((List UInt8))} (h_rec:∀ (x0:Aa),Cg (rec x0) (rec_p x0)):Cg (Cw.F rec v) (Cw.F rec_p v):=by
 unfold Cw.F
 repeat' (with_reducible first | assumption | apply Cg.bind_ | apply Cg.cond_ | apply Cg.up_ | apply h_rec | apply m_ref01_put.l1 | (refine Cg.lp (fun _=>?_) _) | exact Cg.refl | intro _)
theorem Tz:Ll (fun rec (x:Aa)=>Cw.F (fun v=>rec v) x):=fun p q h a=>by
 apply m_ref01_put.F
 intros
 apply h
theorem m_der_copied.l1 {rec:(List Aa)->Option ((List Aa))} {l:(List Aa)} {x8_1:Int} {out_1:List Aa} {rec_p:(List Aa)->Option ((List Aa))} (h_rec:∀ (x0:(List Aa)),Cg (rec x0) (rec_p x0)):Cg (Ci.l1 rec l x8_1 out_1) (Ci.l1 rec_p l x8_1 out_1):=by
 unfold Ci.l1
 repeat' (with_reducible first | assumption | apply Cg.bind_ | apply Cg.cond_ | apply Cg.up_ | apply h_rec | exact Cg.refl | intro _)
theorem m_der_copied.F {rec:(List Aa)->Option ((List Aa))} {l:(List Aa)} {rec_p:(List Aa)->Option ((List Aa))} (h_rec:∀ (x0:(List Aa)),Cg (rec x0) (rec_p x0)):Cg (Ci.F rec l) (Ci.F rec_p l):=by
 unfold Ci.F
 repeat' (with_reducible first | assumption | apply Cg.bind_ | apply Cg.cond_ | apply Cg.up_ | apply h_rec | apply m_der_copied.l1 | (refine Cg.lp (fun _=>?_) _) | exact Cg.refl | intro _)
theorem Sf:Ll (fun rec (x:(List Aa))=>Ci.F (fun l=>rec l) x):=fun p q h a=>by
 apply m_der_copied.F
 intros
 apply h
theorem Sp {rec:Aa->Option (Bool)} {x':Aa} {rec_p:Aa->Option (Bool)} (h_rec:∀ (x0:Aa),Cg (rec x0) (rec_p x0)):Cg (El rec x') (El rec_p x'):=by
 unfold El
 repeat' (with_reducible first | assumption | apply Cg.bind_ | apply Cg.cond_ | apply Cg.up_ | apply h_rec | exact Cg.refl | intro _)
theorem Fh.l1 {s:(List Aa)} {f:Aa->Option (Bool)} {x8_1:Int} {f_p:Aa->Option (Bool)} (h_f:∀ (x0:Aa),Cg (f x0) (f_p x0)):Cg (Bc.l1 s f x8_1) (Bc.l1 s f_p x8_1):=by
 unfold Bc.l1
 repeat' (with_reducible first | assumption | apply Cg.bind_ | apply Cg.cond_ | apply Cg.up_ | apply h_f | exact Cg.refl | intro _)
theorem Fh {rec:Aa->Option (Bool)} {s:(List Aa)} {f:Aa->Option (Bool)} {rec_p:Aa->Option (Bool)} {f_p:Aa->Option (Bool)} (h_rec:∀ (x0:Aa),Cg (rec x0) (rec_p x0)) (h_f:∀ (x0:Aa),Cg (f x0) (f_p x0)):Cg (Bc rec s f) (Bc rec_p s f_p):=by
 unfold Bc
 repeat' (with_reducible first | assumption | apply Cg.bind_ | apply Cg.cond_ | apply Cg.up_ | apply h_rec | apply h_f | apply Fh.l1 | (refine Cg.lp (fun _=>?_) _) | exact Cg.refl | intro _)
theorem Iu {rec:Aa->Option (Bool)} {s:(List Aa)} {f:Aa->Option (Bool)} {rec_p:Aa->Option (Bool)} {f_p:Aa->Option (Bool)} (h_rec:∀ (x0:Aa),Cg (rec x0) (rec_p x0)) (h_f:∀ (x0:Aa),Cg (f x0) (f_p x0)):Cg (Cq rec s f) (Cq rec_p s f_p):=by
 unfold Cq
 repeat' (with_reducible first | assumption | apply Cg.bind_ | apply Cg.cond_ | apply Cg.up_ | apply h_rec | apply h_f | apply Fh | exact Cg.refl | intro _)
theorem m_der_formed.j1 {rec:Aa->Option (Bool)} {v:Aa} {x36_1:Bool} {rec_p:Aa->Option (Bool)} (h_rec:∀ (x0:Aa),Cg (rec x0) (rec_p x0)):Cg (B2.j1 rec v x36_1) (B2.j1 rec_p v x36_1):=by
 unfold B2.j1
 repeat' (with_reducible first | assumption | apply Cg.bind_ | apply Cg.cond_ | apply Cg.up_ | apply h_rec | apply Iu | apply Sp | exact Cg.refl | intro _)
theorem m_der_formed.F {rec:Aa->Option (Bool)} {v:Aa} {rec_p:Aa->Option (Bool)} (h_rec:∀ (x0:Aa),Cg (rec x0) (rec_p x0)):Cg (B2.F rec v) (B2.F rec_p v):=by
 unfold B2.F
 repeat' (with_reducible first | assumption | apply Cg.bind_ | apply Cg.cond_ | apply Cg.up_ | apply h_rec | apply m_der_formed.j1 | exact Cg.refl | intro _)
theorem Sd:Ll (fun rec (x:Aa)=>B2.F (fun v=>rec v) x):=fun p q h a=>by
 apply m_der_formed.F
 intros
 apply h
theorem m_der_depth.l1 {rec:Aa->Option (Int)} {v:Aa} {most_1:Int} {x9_1:Int} {rec_p:Aa->Option (Int)} (h_rec:∀ (x0:Aa),Cg (rec x0) (rec_p x0)):Cg (Ct.l1 rec v most_1 x9_1) (Ct.l1 rec_p v most_1 x9_1):=by
 unfold Ct.l1
 repeat' (with_reducible first | assumption | apply Cg.bind_ | apply Cg.cond_ | apply Cg.up_ | apply h_rec | exact Cg.refl | intro _)
theorem m_der_depth.F {rec:Aa->Option (Int)} {v:Aa} {rec_p:Aa->Option (Int)} (h_rec:∀ (x0:Aa),Cg (rec x0) (rec_p x0)):Cg (Ct.F rec v) (Ct.F rec_p v):=by
 unfold Ct.F
 repeat' (with_reducible first | assumption | apply Cg.bind_ | apply Cg.cond_ | apply Cg.up_ | apply h_rec | apply m_der_depth.l1 | (refine Cg.lp (fun _=>?_) _) | exact Cg.refl | intro _)
theorem Ts:Ll (fun rec (x:Aa)=>Ct.F (fun v=>rec v) x):=fun p q h a=>by
 apply m_der_depth.F
 intros
 apply h
theorem U6 {rec:Aa->Option ((List UInt8))} {b:List UInt8} {v:Aa} {rec_p:Aa->Option ((List UInt8))} (h_rec:∀ (x0:Aa),Cg (rec x0) (rec_p x0)):Cg (Fp rec b v) (Fp rec_p b v):=by
 unfold Fp
 repeat' (with_reducible first | assumption | apply Cg.bind_ | apply Cg.cond_ | apply Cg.up_ | apply h_rec | exact Cg.refl | intro _)
theorem m_der_contents.l1 {rec:Aa->Option ((List UInt8))} {v:Aa} {x14_1:Int} {out_1:List UInt8} {rec_p:Aa->Option ((List UInt8))} (h_rec:∀ (x0:Aa),Cg (rec x0) (rec_p x0)):Cg (Bw.l1 rec v x14_1 out_1) (Bw.l1 rec_p v x14_1 out_1):=by
 unfold Bw.l1
 repeat' (with_reducible first | assumption | apply Cg.bind_ | apply Cg.cond_ | apply Cg.up_ | apply h_rec | apply U6 | exact Cg.refl | intro _)
theorem m_der_contents.F {rec:Aa->Option ((List UInt8))} {v:Aa} {rec_p:Aa->Option ((List UInt8))} (h_rec:∀ (x0:Aa),Cg (rec x0) (rec_p x0)):Cg (Bw.F rec v) (Bw.F rec_p v):=by
 unfold Bw.F
 repeat' (with_reducible first | assumption | apply Cg.bind_ | apply Cg.cond_ | apply Cg.up_ | apply h_rec | apply m_der_contents.l1 | (refine Cg.lp (fun _=>?_) _) | exact Cg.refl | intro _)
theorem Qe:Ll (fun rec (x:Aa)=>Bw.F (fun v=>rec v) x):=fun p q h a=>by
 apply m_der_contents.F
 intros
 apply h
theorem Fv.l1 {s1:(List Ab)} {s2:(List Ab)} {eq:Ab->Ab->Option (Bool)} {x17_1:Int} {eq_p:Ab->Ab->Option (Bool)} (h_eq:∀ (x0:Ab) (x1:Ab),Cg (eq x0 x1) (eq_p x0 x1)):Cg (Aw.l1 s1 s2 eq x17_1) (Aw.l1 s1 s2 eq_p x17_1):=by
 unfold Aw.l1
 repeat' (with_reducible first | assumption | apply Cg.bind_ | apply Cg.cond_ | apply Cg.up_ | apply h_eq | exact Cg.refl | intro _)
theorem Fv {s1:(List Ab)} {s2:(List Ab)} {eq:Ab->Ab->Option (Bool)} {eq_p:Ab->Ab->Option (Bool)} (h_eq:∀ (x0:Ab) (x1:Ab),Cg (eq x0 x1) (eq_p x0 x1)):Cg (Aw s1 s2 eq) (Aw s1 s2 eq_p):=by
 unfold Aw
 repeat' (with_reducible first | assumption | apply Cg.bind_ | apply Cg.cond_ | apply Cg.up_ | apply h_eq | apply Fv.l1 | (refine Cg.lp (fun _=>?_) _) | exact Cg.refl | intro _)
theorem G7.l1 {s1:(List Ac)} {s2:(List Ac)} {eq:Ac->Ac->Option (Bool)} {x17_1:Int} {eq_p:Ac->Ac->Option (Bool)} (h_eq:∀ (x0:Ac) (x1:Ac),Cg (eq x0 x1) (eq_p x0 x1)):Cg (A8.l1 s1 s2 eq x17_1) (A8.l1 s1 s2 eq_p x17_1):=by
 unfold A8.l1
 repeat' (with_reducible first | assumption | apply Cg.bind_ | apply Cg.cond_ | apply Cg.up_ | apply h_eq | exact Cg.refl | intro _)
theorem G7 {s1:(List Ac)} {s2:(List Ac)} {eq:Ac->Ac->Option (Bool)} {eq_p:Ac->Ac->Option (Bool)} (h_eq:∀ (x0:Ac) (x1:Ac),Cg (eq x0 x1) (eq_p x0 x1)):Cg (A8 s1 s2 eq) (A8 s1 s2 eq_p):=by
 unfold A8
 repeat' (with_reducible first | assumption | apply Cg.bind_ | apply Cg.cond_ | apply Cg.up_ | apply h_eq | apply G7.l1 | (refine Cg.lp (fun _=>?_) _) | exact Cg.refl | intro _)
end
end Go.Proofs.YtfanepojdefdpaaGreat
