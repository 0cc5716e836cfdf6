/- Plain texts, joined. No program is in sight here. -/
import Derived.Test.YtfanepojdefdpaaGreatPU
import Derived.Test.YtfanepojdefdpaaGreatP1
set_option linter.unusedVariables false
set_option linter.unusedSimpArgs false
namespace Go.Proofs.YtfanepojdefdpaaGreat
section
open Go
theorem Le {A R:Type} {F:(A->Option R)->A->Option R} (hm:Nn F) (spec:A->R) (μ:A->Nat) (Pre:A->Prop) (h:∀ rec a,Pre a->(∀ b,Pre b->μ b < μ a->rec b=some (spec b))->F rec a=some (spec a)) (a:A) (ha:Pre a):P0 F a=some (spec a):=by
 have key:∀ n a,Pre a->μ a < n->Wc F n a=some (spec a):=by
  intro n
  induction n with
  | zero=>intro a _ h0; exact absurd h0 (Nat.not_lt_zero _)
  | succ n ih=>intro a ha hn; exact h _ a ha fun b hb hl=>ih b hb (by omega)
 exact kY hm (key (μ a + 1) a ha (aDn _))
def aDm {α β:Type} [DecidableEq β] (l:List α) (a b:Option β):Option β:=match l with
 | []=>(match a,b with
  | some x,some y=>if x=y then some x else none
  | _,_=>none)
 | _ :: _=>b
theorem Cp.nil {α β:Type} [DecidableEq β] {l:List α} {a a' b b':Option β} (h:Cp a a') (k:Cp b b'):Cp (aDm l a b) (Ze l a' b'):=fun r hr=>by
 unfold aDm at hr
 unfold Ze
 cases l with
 | nil=>
  rw [if_pos rfl]
  cases a with
  | none=>cases hr
  | some x=>
   cases b with
   | none=>cases hr
   | some y=>
    simp only at hr
    split at hr
    ·rename_i e
     injection hr with hr
     subst hr
     have h1:=h x rfl
     have h2:=k y rfl
     rw [h1,h2,e,if_pos rfl]
    ·cases hr
 | cons x l=>rw [if_neg (by simp)]; exact k r hr
end
section
open Go
theorem Hy {S R:Type} {body:S->Option (Lp S R)} {s s':S} (h:body s=some (.next s')):Dp body s=Dp body s':=by rw [Gi,h]; rfl
theorem U4 {S R:Type} {body:S->Option (Lp S R)} {s:S} {r:R} (h:body s=some (.done r)):Dp body s=some r:=by rw [Gi,h]; rfl
theorem Ln {S R:Type} {body:S->Option (Lp S R)} {s:S} {x:Option R} (h:body s=up x):Dp body s=x:=by rw [Gi,h]; cases x <;> rfl
theorem Hi {S R:Type} {body:S->Option (Lp S R)} (n:Nat) (G:Nat->S) (r:R) (h1:∀ i,i < n->body (G i)=some (.next (G (i + 1)))) (h2:body (G n)=some (.done r)):Dp body (G 0)=some r:=by
 have key:∀ k i,i + k=n->Dp body (G i)=some r:=by
  intro k
  induction k with
  | zero=>intro i hi; rw [Gi,show i=n by omega,h2]; rfl
  | succ k ih=>intro i hi; rw [Gi,h1 i (by omega)]; exact ih (i + 1) (by omega)
 exact key n 0 (by omega)
theorem Od {S R:Type} {body:S->Option (Lp S R)} (n:Nat) (G:Nat->S) (p:Nat->Bool) (r1 r2:R) (h1:∀ i,i < n->body (G i)=some (bif p i then .done r1 else .next (G (i + 1)))) (h2:body (G n)=some (.done r2)):Dp body (G 0)=some (bif (List.range n).any p then r1 else r2):=by
 have key:∀ k i,i + k=n->Dp body (G i)=some (bif (List.range' i k).any p then r1 else r2):=by
  intro k
  induction k with
  | zero=>intro i hi; rw [Gi,show i=n by omega,h2]; rfl
  | succ k ih=>
   intro i hi
   rw [Gi,h1 i (by omega),List.range'_succ,aGo]
   cases hp:p i
   ·exact ih (i + 1) (by omega)
   ·rfl
 have:=key n 0 (by omega)
 rw [this,List.range_eq_range']
theorem nX {α:Type} (l:List α) (p:α->Bool) (q:Nat->Bool) (h:∀ i x,l[i]?=some x->q i=p x):(List.range l.length).any q=l.any p:=by
 induction l generalizing q with
 | nil=>rfl
 | cons x l ih=>
  rw [aEw,List.range_succ_eq_map,aGo,aGo,h 0 x rfl,List.any_map]
  congr 1
  exact ih _ fun i y hy=>h (i + 1) y hy
theorem Sp {α S R:Type} {body:S->Option (Lp S R)} (l:List α) (G:Nat->S) (p:α->Bool) (r1 r2:R) (h1:∀ i x,l[i]?=some x->body (G i)=some (bif p x then .done r1 else .next (G (i + 1)))) (h2:body (G l.length)=some (.done r2)):Dp body (G 0)=some (bif l.any p then r1 else r2):=by
 cases l with
 | nil=>rw [Gi,show body (G 0)=some (.done r2) from h2]; rfl
 | cons y l=>
  rw [Od (y :: l).length G (fun i=>p ((y :: l).getD i y)) r1 r2 (fun i hi=>?_) h2,nX (y :: l) p _ fun i x hx=>by simp [hx]]
  obtain⟨x,hx⟩:∃ x,(y :: l)[i]?=some x:=⟨_,aA1 hi⟩
  rw [h1 i x hx]
  simp [hx]
theorem Q0 {α S R:Type} {body:S->Option (Lp S R)} (l:List α) (G:Nat->S) (p:α->Bool) (f:Nat->R) (r2:R) (h1:∀ i x,l[i]?=some x->body (G i)=some (bif p x then .done (f i) else .next (G (i + 1)))) (h2:body (G l.length)=some (.done r2)):Dp body (G 0)=some (match l.findIdx? p with | some i=>f i | none=>r2):=by
 have key:∀ (m:List α) i,l.drop i=m->i<=l.length->Dp body (G i)=some (match m.findIdx? p with | some j=>f (i + j) | none=>r2):=by
  intro m
  induction m with
  | nil=>
   intro i hi hl
   have:l.length<=i:=aF9.1 hi
   rw [Gi,show i=l.length by omega,h2]; rfl
  | cons x m ih=>
   intro i hi hl
   have hx:l[i]?=some x:=by
    have:=congrArg (fun q=>q[0]?) hi
    simpa using this
   have hl':=(aBw.1 hx).1
   rw [Gi,h1 i x hx,List.findIdx?_cons]
   cases hp:p x
   ·have:=ih (i + 1) (by rw [<- aHe,hi]; rfl) hl'
    show Dp body (G (i + 1))=_
    rw [this]
    cases hq:m.findIdx? p with
    | none=>simp
    | some j=>simp only [aHx,if_false,aHy]; congr 2; omega
   ·simp; rfl
 have:=key l 0 (by simp) (aFb _)
 rw [this]
 cases l.findIdx? p <;> simp
theorem Fm {α T:Type} {l:List α} {i:Nat} {x:α} {k:α->Option T} {e:Option T} (h:l[i]?=some x):cond (decide ((i:Int) < (l.length:Int))) ((C4 l (i:Int)).bind k) e=k x:=by
 have hl:=(aBw.1 h).1
 rw [aBu (by omega),Fs,h]; rfl
theorem D7 {T:Type} {n:Nat} {a e:Option T}:cond (decide ((n:Int) < (n:Int))) a e=e:=by
 rw [aBo (by omega)]; rfl
theorem F3 {i:Nat} (h:i < 4611686018427387904):W ((i:Int) + 1)=((i + 1:Nat):Int):=by
 rw [Fx (by omega)]; omega
theorem aDo {i:Nat} (h:i < 4611686018427387904):W (i:Int)=(i:Int):=Fx (by omega)
theorem E2 {α:Type} {k:Nat} {l m:List α} (h:(l.length + m.length) * k<=140737488355328):Gl k l m=some (l ++ m):=by unfold Gl; rw [if_pos h]
theorem Oe {α:Type} {l:List α} {i:Nat} {x:α} (h:l[i]?=some x):i < l.length:=(aBw.1 h).1
theorem F5 {α:Type} {l:List α} {i:Nat} {x:α} (h:l[i]?=some x):x∈l:=aEy h
theorem Dw {α:Type} {l:List α} {i:Nat} {x:α} (h:l[i]?=some x):l.take (i + 1)=l.take i ++ [x]:=by
 obtain⟨hk,e⟩:=aBw.1 h
 rw [aG6 hk,e]
end
section
open Go
def Lo {α:Type} (l:List α):Prop:=l.length < 4611686018427387904
def Sc {α:Type} (l:List α) (p:α->Bool):Int:=match l.findIdx? p with | some i=>(i:Int) | none=>-1
theorem iO {α:Type} (l:List α) (p:α->Bool):decide (0<=Sc l p)=l.any p:=by
 unfold Sc
 have:=aIj (xs:=l) (p:=p)
 cases h:l.findIdx? p with
 | none=>rw [h] at this; rw [<- this]; rfl
 | some i=>rw [h] at this; rw [<- this]; simp
theorem Yl {α:Type} {body:Int->Option (Lp Int Int)} (l:List α) (p:α->Bool) (hl:Lo l) (h1:∀ (i:Nat) x,l[i]?=some x->body (i:Int)=some (bif p x then .done (i:Int) else .next (W ((i:Int) + 1)))) (h2:body (l.length:Int)=some (.done (-1))):Dp body 0=some (Sc l p):=by
 unfold Lo at hl
 refine (Q0 l (fun i=>(i:Int)) p (fun i=>(i:Int)) (-1) (fun i x hx=>?_) h2).trans ?_
 ·have:=Oe hx
  rw [h1 i x hx,F3 (by omega)]
 ·rfl
theorem Yu {α R:Type} {body:Int->Option (Lp Int R)} (l:List α) (p:α->Bool) (r1 r2:R) (hl:Lo l) (h1:∀ (i:Nat) x,l[i]?=some x->body (i:Int)=some (bif p x then .done r1 else .next (W ((i:Int) + 1)))) (h2:body (l.length:Int)=some (.done r2)):Dp body 0=some (bif l.any p then r1 else r2):=by
 unfold Lo at hl
 refine Sp l (fun i=>(i:Int)) p r1 r2 (fun i x hx=>?_) h2
 have:=Oe hx
 rw [h1 i x hx,F3 (by omega)]
theorem aK {R:Type} {body:Int->Option (Lp Int R)} (n:Nat) (p:Nat->Bool) (r1 r2:R) (hl:n < 4611686018427387904) (h1:∀ (i:Nat),i < n->body (i:Int)=some (bif p i then .done r1 else .next (W ((i:Int) + 1)))) (h2:body (n:Int)=some (.done r2)):Dp body 0=some (bif (List.range n).any p then r1 else r2):=by
 refine Od n (fun i=>(i:Int)) p r1 r2 (fun i hi=>?_) h2
 rw [h1 i hi,F3 (by omega)]
theorem Q4 {α S R:Type} {body:S×Int->Option (Lp (S×Int) R)} (l:List α) (f:S->α->S) (s:S) (r:S->R) (hl:Lo l) (h1:∀ (i:Nat) x s,l[i]?=some x->body (s,(i:Int))=some (.next (f s x,W ((i:Int) + 1)))) (h2:∀ s,body (s,(l.length:Int))=some (.done (r s))):Dp body (s,0)=some (r (l.foldl f s)):=by
 unfold Lo at hl
 refine Hi l.length (fun i=>((l.take i).foldl f s,(i:Int))) _ (fun i hi=>?_) ?_
 ·obtain⟨x,hx⟩:∃ x,l[i]?=some x:=⟨_,aA1 hi⟩
  show body ((l.take i).foldl f s,(i:Int))=_
  rw [h1 i x _ hx,F3 (by omega),Dw hx,List.foldl_append]
  rfl
 ·show body ((l.take l.length).foldl f s,(l.length:Int))=_
  rw [h2,aFg]
theorem jU {α S R:Type} {body:S×Int->Option (Lp (S×Int) R)} (l:List α) (f:S->α->S) (s:S) (r:S->Option R) (hl:Lo l) (h1:∀ (i:Nat) x s,l[i]?=some x->body (s,(i:Int))=some (.next (f s x,W ((i:Int) + 1)))) (h2:∀ s,body (s,(l.length:Int))=up (r s)):Dp body (s,0)=r (l.foldl f s):=by
 unfold Lo at hl
 have key:∀ k i,i + k=l.length->Dp body ((l.take i).foldl f s,(i:Int))=r (l.foldl f s):=by
  intro k
  induction k with
  | zero=>
   intro i hi
   have:i=l.length:=by omega
   subst this
   rw [aFg,Ln (h2 _)]
  | succ k ih=>
   intro i hi
   obtain⟨x,hx⟩:∃ x,l[i]?=some x:=⟨_,aA1 (by omega)⟩
   rw [Hy (h1 i x _ hx),F3 (by omega)]
   have:=ih (i + 1) (by omega)
   rw [Dw hx,List.foldl_append] at this
   exact this
 exact key l.length 0 (by omega)
theorem Pm {α:Type} {l:List α}:C4 l 0=l[0]?:=Fs (j:=0)
end
section
open Go
def Ok {α:Type} (x:Option α) (Q:α->Prop):Prop:=∃ a,x=some a/\Q a
section
variable {α β S R:Type} {x y:Option α} {f:α->Option β} {Q:α->Prop} {T:β->Prop}
theorem Ok.bind (h:Ok x Q) (k:∀ a,Q a->Ok (f a) T):Ok (x.bind f) T:=by
 obtain⟨a,rfl,h⟩:=h
 exact k a h
theorem Ok.bindE {a:α} (h:x=some a) (k:Ok (f a) T):Ok (x.bind f) T:=by subst h; exact k
theorem Ok.cond {b:Bool} (h:b=true->Ok x Q) (k:b=false->Ok y Q):Ok (cond b x y) Q:=by
 cases b with
 | true=>exact h rfl
 | false=>exact k rfl
theorem Ok.ret {a:α} (h:Q a):Ok (some a) Q:=⟨a,rfl,h⟩
theorem Ok.of {a:α} (h:x=some a) (k:Q a):Ok x Q:=⟨a,h,k⟩
theorem Ok.mono {Q':α->Prop} (h:Ok x Q) (k:∀ a,Q a->Q' a):Ok x Q':=by
 obtain⟨a,h,q⟩:=h
 exact⟨a,h,k a q⟩
def Rd' (Inv:S->Prop) (Q:R->Prop):Lp S R->Prop
 | .next s=>Inv s
 | .done r=>Q r
theorem Ok.up {Q:R->Prop} {x:Option R} {I:S->Prop} (h:Ok x Q):Ok (up x:Option (Lp S R)) (Rd' I Q):=by
 obtain⟨r,rfl,h⟩:=h
 exact⟨_,rfl,h⟩
theorem Ok.loop {body:S->Option (Lp S R)} (Inv:S->Prop) (μ:S->Nat) {Q:R->Prop} {s:S} (h:∀ s,Inv s->Ok (body s) (Rd' (fun s'=>Inv s'/\μ s' < μ s) Q)) (hs:Inv s):Ok (Dp body s) Q:=
 pE Inv μ Q (fun s hs=>by
  obtain⟨o,h1,h2⟩:=h s hs
  refine⟨o,h1,?_⟩
  cases o <;> exact h2) s hs
theorem Ok.and {T':α->Prop} (h:Ok x Q) (k:Ok x T'):Ok x (fun a=>Q a/\T' a):=by
 obtain⟨a,h1,h2⟩:=h
 obtain⟨b,h3,h4⟩:=k
 rw [h1] at h3
 injection h3 with h3
 subst h3
 exact⟨a,h1,h2,h4⟩
theorem kM {A B:Type} {F:(A->Option B)->A->Option B} (hm:Nn F) (μ:A->Nat) (Pre:A->Prop) (Post:A->B->Prop) (h:∀ rec a,Pre a->(∀ b,Pre b->μ b < μ a->Ok (rec b) (Post b))->Ok (F rec a) (Post a)) (a:A) (ha:Pre a):Ok (P0 F a) (Post a):=by
 have key:∀ n a,Pre a->μ a < n->Ok (Wc F n a) (Post a):=by
  intro n
  induction n with
  | zero=>intro a _ h0; exact absurd h0 (Nat.not_lt_zero _)
  | succ n ih=>intro a ha hn; exact h _ a ha fun b hb hl=>ih b hb (by omega)
 obtain⟨r,h1,h2⟩:=key (μ a + 1) a ha (aDn _)
 exact⟨r,kY hm h1,h2⟩
theorem Ok.true_ {x:Option Bool} (h:Ok x (fun r=>r=true)):x=some true:=by
 obtain⟨a,h1,rfl⟩:=h
 exact h1
end
theorem Oy {α:Type} {l:List α} {i:Int} (h0:0<=i) (h1:i < l.length):Ok (C4 l i) (fun x=>l[i.toNat]?=some x):=by
 have h2:i.toNat < l.length:=by omega
 refine⟨l[i.toNat],?_,aA1 h2⟩
 rw [uW h0]
 exact aA1 h2
theorem fJ {α:Type} {l:List α} {i:Int} (h0:0<=i) (h1:i < l.length):Ok (C4 l i) (fun x=>x∈l):=(Oy h0 h1).mono fun _ h=>aEy h
theorem Jr {α:Type} {k:Nat} {l m:List α} (h:(l.length + m.length) * k<=140737488355328):Ok (Gl k l m) (fun x=>x=l ++ m):=⟨_,E2 h,rfl⟩
theorem bL {α:Type} {l:List α} {a b:Int} (h:0<=a/\a<=b/\b<=l.length):Ok (Q8 l a b) (fun x=>x=(l.drop a.toNat).take (b.toNat - a.toNat)):=⟨_,if_pos h,rfl⟩
theorem tV {a b:ByteArray} (h:a.size + b.size<=9223372036854775807):Ok (oX a b) (fun x=>x=a ++ b):=⟨_,if_pos h,rfl⟩
theorem Lt {α:Type} {l:List α} (h:l.length<=1000000):Lo l:=by unfold Lo; omega
end
section
theorem Iz.l1 {s:(List Ac)} {f:Ac->Option (Bool)} {x8_1:Int} {f_p:Ac->Option (Bool)} (h_f:∀ (x0:Ac),Cp (f x0) (f_p x0)):Cp (Ba.l1 s f x8_1) (Ba.l1 s f_p x8_1):=by
 unfold Ba.l1
 repeat' (with_reducible first | assumption | apply Cp.bind_ | apply Cp.cond_ | apply Cp.up_ | apply h_f | exact Cp.refl | intro _)
theorem Iz {s:(List Ac)} {f:Ac->Option (Bool)} {f_p:Ac->Option (Bool)} (h_f:∀ (x0:Ac),Cp (f x0) (f_p x0)):Cp (Ba s f) (Ba s f_p):=by
 unfold Ba
 repeat' (with_reducible first | assumption | apply Cp.bind_ | apply Cp.cond_ | apply Cp.up_ | apply h_f | apply Iz.l1 | (refine Cp.lp (fun _=>?_) _) | exact Cp.refl | intro _)
theorem Dl.l2 {a:Int} {cmp:Ac->Ac->Option (Int)} {i_1:Int} {j_2:Int} {data_2:List Ac} {cmp_p:Ac->Ac->Option (Int)} (h_cmp:∀ (x0:Ac) (x1:Ac),Cp (cmp x0 x1) (cmp_p x0 x1)):Cp (Am.l2 a cmp i_1 j_2 data_2) (Am.l2 a cmp_p i_1 j_2 data_2):=by
 unfold Am.l2
 repeat' (with_reducible first | assumption | apply Cp.bind_ | apply Cp.cond_ | apply Cp.up_ | apply h_cmp | exact Cp.refl | intro _)
theorem Dl.l1 {a:Int} {b:Int} {cmp:Ac->Ac->Option (Int)} {i_1:Int} {data_1:List Ac} {cmp_p:Ac->Ac->Option (Int)} (h_cmp:∀ (x0:Ac) (x1:Ac),Cp (cmp x0 x1) (cmp_p x0 x1)):Cp (Am.l1 a b cmp i_1 data_1) (Am.l1 a b cmp_p i_1 data_1):=by
 unfold Am.l1
 repeat' (with_reducible first | assumption | apply Cp.bind_ | apply Cp.cond_ | apply Cp.up_ | apply h_cmp | apply Dl.l2 | (refine Cp.lp (fun _=>?_) _) | exact Cp.refl | intro _)
theorem Dl {data:List Ac} {a:Int} {b:Int} {cmp:Ac->Ac->Option (Int)} {cmp_p:Ac->Ac->Option (Int)} (h_cmp:∀ (x0:Ac) (x1:Ac),Cp (cmp x0 x1) (cmp_p x0 x1)):Cp (Am data a b cmp) (Am data a b cmp_p):=by
 unfold Am
 repeat' (with_reducible first | assumption | apply Cp.bind_ | apply Cp.cond_ | apply Cp.up_ | apply h_cmp | apply Dl.l1 | (refine Cp.lp (fun _=>?_) _) | exact Cp.refl | intro _)
theorem Ht.l1 {data:List Ac} {a:Int} {b:Int} {limit:Int} {cmp:Ac->Ac->Option (Int)} {cmp_p:Ac->Ac->Option (Int)} (h_cmp:∀ (x0:Ac) (x1:Ac),Cp (cmp x0 x1) (cmp_p x0 x1)):Cp (A8.l1 data a b limit cmp) (A8.l1 data a b limit cmp_p):=by
 unfold A8.l1
 repeat' (with_reducible first | assumption | apply Cp.bind_ | apply Cp.cond_ | apply Cp.up_ | apply h_cmp | apply Dl | exact Cp.refl | intro _)
theorem Ht {data:List Ac} {a:Int} {b:Int} {limit:Int} {cmp:Ac->Ac->Option (Int)} {cmp_p:Ac->Ac->Option (Int)} (h_cmp:∀ (x0:Ac) (x1:Ac),Cp (cmp x0 x1) (cmp_p x0 x1)):Cp (A8 data a b limit cmp) (A8 data a b limit cmp_p):=by
 unfold A8
 repeat' (with_reducible first | assumption | apply Cp.bind_ | apply Cp.cond_ | apply Cp.up_ | apply h_cmp | apply Ht.l1 | (refine Cp.lp (fun _=>?_) _) | exact Cp.refl | intro _)
theorem m_ref01_copies.l1 {rec:(List Aa)->Option ((List Aa))} {l:(List Aa)} {i_1:Int} {out_1:List Aa} {rec_p:(List Aa)->Option ((List Aa))} (h_rec:∀ (x0:(List Aa)),Cp (rec x0) (rec_p x0)):Cp (Cb.l1 rec l i_1 out_1) (Cb.l1 rec_p l i_1 out_1):=by
 unfold Cb.l1
 repeat' (with_reducible first | assumption | apply Cp.bind_ | apply Cp.cond_ | apply Cp.up_ | apply h_rec | exact Cp.refl | intro _)
theorem m_ref01_copies.F {rec:(List Aa)->Option ((List Aa))} {l:(List Aa)} {rec_p:(List Aa)->Option ((List Aa))} (h_rec:∀ (x0:(List Aa)),Cp (rec x0) (rec_p x0)):Cp (Cb.F rec l) (Cb.F rec_p l):=by
 unfold Cb.F
 repeat' (with_reducible first | assumption | apply Cp.bind_ | apply Cp.cond_ | apply Cp.up_ | apply h_rec | apply m_ref01_copies.l1 | (refine Cp.lp (fun _=>?_) _) | exact Cp.refl | intro _)
theorem Sv:Nn (fun rec (x:(List Aa))=>Cb.F (fun l=>rec l) x):=fun p q h a=>by
 apply m_ref01_copies.F
 intros
 apply h
theorem m_ref01_formed.l2 {rec:Aa->Option (Bool)} {v:Aa} {i_2:Int} {rec_p:Aa->Option (Bool)} (h_rec:∀ (x0:Aa),Cp (rec x0) (rec_p x0)):Cp (Bc.l2 rec v i_2) (Bc.l2 rec_p v i_2):=by
 unfold Bc.l2
 repeat' (with_reducible first | assumption | apply Cp.bind_ | apply Cp.cond_ | apply Cp.up_ | apply h_rec | exact Cp.refl | intro _)
theorem m_ref01_formed.j1 {rec:Aa->Option (Bool)} {v:Aa} {x38_1:Bool} {rec_p:Aa->Option (Bool)} (h_rec:∀ (x0:Aa),Cp (rec x0) (rec_p x0)):Cp (Bc.j1 rec v x38_1) (Bc.j1 rec_p v x38_1):=by
 unfold Bc.j1
 repeat' (with_reducible first | assumption | apply Cp.bind_ | apply Cp.cond_ | apply Cp.up_ | apply h_rec | apply m_ref01_formed.l2 | (refine Cp.lp (fun _=>?_) _) | exact Cp.refl | intro _)
theorem m_ref01_formed.F {rec:Aa->Option (Bool)} {v:Aa} {rec_p:Aa->Option (Bool)} (h_rec:∀ (x0:Aa),Cp (rec x0) (rec_p x0)):Cp (Bc.F rec v) (Bc.F rec_p v):=by
 unfold Bc.F
 repeat' (with_reducible first | assumption | apply Cp.bind_ | apply Cp.cond_ | apply Cp.up_ | apply h_rec | apply m_ref01_formed.j1 | exact Cp.refl | intro _)
theorem Tg:Nn (fun rec (x:Aa)=>Bc.F (fun v=>rec v) x):=fun p q h a=>by
 apply m_ref01_formed.F
 intros
 apply h
theorem m_ref01_depth.l1 {rec:Aa->Option (Int)} {v:Aa} {d_1:Int} {i_1:Int} {rec_p:Aa->Option (Int)} (h_rec:∀ (x0:Aa),Cp (rec x0) (rec_p x0)):Cp (Cg.l1 rec v d_1 i_1) (Cg.l1 rec_p v d_1 i_1):=by
 unfold Cg.l1
 repeat' (with_reducible first | assumption | apply Cp.bind_ | apply Cp.cond_ | apply Cp.up_ | apply h_rec | exact Cp.refl | intro _)
theorem m_ref01_depth.F {rec:Aa->Option (Int)} {v:Aa} {rec_p:Aa->Option (Int)} (h_rec:∀ (x0:Aa),Cp (rec x0) (rec_p x0)):Cp (Cg.F rec v) (Cg.F rec_p v):=by
 unfold Cg.F
 repeat' (with_reducible first | assumption | apply Cp.bind_ | apply Cp.cond_ | apply Cp.up_ | apply h_rec | apply m_ref01_depth.l1 | (refine Cp.lp (fun _=>?_) _) | exact Cp.refl | intro _)
theorem Uw:Nn (fun rec (x:Aa)=>Cg.F (fun v=>rec v) x):=fun p q h a=>by
 apply m_ref01_depth.F
 intros
 apply h
theorem m_ref01_put.l1 {rec:Aa->Option ((List UInt8))} {v:Aa} {i_1:Int} {b_1:List UInt8} {rec_p:Aa->Option ((List UInt8))} (h_rec:∀ (x0:Aa),Cp (rec x0) (rec_p x0)):Cp (Dj.l1 rec v i_1 b_1) (Dj.l1 rec_p v i_1 b_1):=by
 unfold Dj.l1
 repeat' (with_reducible first | assumption | apply Cp.bind_ | apply Cp.cond_ | apply Cp.up_ | apply h_rec | exact Cp.refl | intro _)
theorem m_ref01_put.F {rec:Aa->Option ((List UInt8))} {v:Aa} {rec_p:Aa->Option ((List UInt8))} (h_rec:∀ (x0:Aa),Cp (rec x0) (rec_p x0)):Cp (Dj.F rec v) (Dj.F rec_p v):=by
 unfold Dj.F
 repeat' (with_reducible first | assumption | apply Cp.bind_ | apply Cp.cond_ | apply Cp.up_ | apply h_rec | apply m_ref01_put.l1 | (refine Cp.lp (fun _=>?_) _) | exact Cp.refl | intro _)
theorem X5:Nn (fun rec (x:Aa)=>Dj.F (fun v=>rec v) x):=fun p q h a=>by
 apply m_ref01_put.F
 intros
 apply h
theorem m_ref01_all_o.l1 {rec:(List UInt8)->Option ((List Aa)×Bool)} {b:(List UInt8)} {at_1:Int} {out_1:List Aa} {rec_p:(List UInt8)->Option ((List Aa)×Bool)} (h_rec:∀ (x0:(List UInt8)),Cp (rec x0) (rec_p x0)):Cp (Cr.l1 rec b at_1 out_1) (Cr.l1 rec_p b at_1 out_1):=by
 unfold Cr.l1
 repeat' (with_reducible first | assumption | apply Cp.bind_ | apply Cp.cond_ | apply Cp.up_ | apply h_rec | exact Cp.refl | intro _)
theorem m_ref01_all_o.F {rec:(List UInt8)->Option ((List Aa)×Bool)} {b:(List UInt8)} {rec_p:(List UInt8)->Option ((List Aa)×Bool)} (h_rec:∀ (x0:(List UInt8)),Cp (rec x0) (rec_p x0)):Cp (Cr.F rec b) (Cr.F rec_p b):=by
 unfold Cr.F
 repeat' (with_reducible first | assumption | apply Cp.bind_ | apply Cp.cond_ | apply Cp.up_ | apply h_rec | apply m_ref01_all_o.l1 | (refine Cp.lp (fun _=>?_) _) | exact Cp.refl | intro _)
theorem Um.l1 {rec:(List UInt8)->Option (Aa×Int×Bool)} {b:(List UInt8)} {at_1:Int} {out_1:List Aa} {rec_p:(List UInt8)->Option (Aa×Int×Bool)} (h_rec:∀ (x0:(List UInt8)),Cp (rec x0) (rec_p x0)):Cp (F0.l1 rec b at_1 out_1) (F0.l1 rec_p b at_1 out_1):=by
 unfold F0.l1
 repeat' (with_reducible first | assumption | apply Cp.bind_ | apply Cp.cond_ | apply Cp.up_ | apply h_rec | exact Cp.refl | intro _)
theorem Um {rec:(List UInt8)->Option (Aa×Int×Bool)} {b:(List UInt8)} {rec_p:(List UInt8)->Option (Aa×Int×Bool)} (h_rec:∀ (x0:(List UInt8)),Cp (rec x0) (rec_p x0)):Cp (F0 rec b) (F0 rec_p b):=by
 unfold F0
 repeat' (with_reducible first | assumption | apply Cp.bind_ | apply Cp.cond_ | apply Cp.up_ | apply h_rec | apply Um.l1 | (refine Cp.lp (fun _=>?_) _) | exact Cp.refl | intro _)
theorem m_der_next.j2 {rec:(List UInt8)->Option (Aa×Int×Bool)} {b:(List UInt8)} {y_2:Int×Int×Bool} {x40_2:Bool} {rec_p:(List UInt8)->Option (Aa×Int×Bool)} (h_rec:∀ (x0:(List UInt8)),Cp (rec x0) (rec_p x0)):Cp (Ci.j2 rec b y_2 x40_2) (Ci.j2 rec_p b y_2 x40_2):=by
 unfold Ci.j2
 repeat' (with_reducible first | assumption | apply Cp.bind_ | apply Cp.cond_ | apply Cp.up_ | apply h_rec | apply Um | exact Cp.refl | intro _)
theorem m_der_next.j1 {rec:(List UInt8)->Option (Aa×Int×Bool)} {b:(List UInt8)} {x20_1:Bool} {rec_p:(List UInt8)->Option (Aa×Int×Bool)} (h_rec:∀ (x0:(List UInt8)),Cp (rec x0) (rec_p x0)):Cp (Ci.j1 rec b x20_1) (Ci.j1 rec_p b x20_1):=by
 unfold Ci.j1
 repeat' (with_reducible first | assumption | apply Cp.bind_ | apply Cp.cond_ | apply Cp.up_ | apply h_rec | apply m_der_next.j2 | exact Cp.refl | intro _)
theorem m_der_next.F {rec:(List UInt8)->Option (Aa×Int×Bool)} {b:(List UInt8)} {rec_p:(List UInt8)->Option (Aa×Int×Bool)} (h_rec:∀ (x0:(List UInt8)),Cp (rec x0) (rec_p x0)):Cp (Ci.F rec b) (Ci.F rec_p b):=by
 unfold Ci.F
 repeat' (with_reducible first | assumption | apply Cp.bind_ | apply Cp.cond_ | apply Cp.up_ | apply h_rec | apply m_der_next.j1 | exact Cp.refl | intro _)
theorem Zl:Nn (fun rec (x:(List UInt8))=>Ci.F (fun b=>rec b) x):=fun p q h a=>by
 apply m_der_next.F
 intros
 apply h
theorem m_der_depth.l1 {rec:Aa->Option (Int)} {v:Aa} {most_1:Int} {x9_1:Int} {rec_p:Aa->Option (Int)} (h_rec:∀ (x0:Aa),Cp (rec x0) (rec_p x0)):Cp (Di.l1 rec v most_1 x9_1) (Di.l1 rec_p v most_1 x9_1):=by
 unfold Di.l1
 repeat' (with_reducible first | assumption | apply Cp.bind_ | apply Cp.cond_ | apply Cp.up_ | apply h_rec | exact Cp.refl | intro _)
theorem m_der_depth.F {rec:Aa->Option (Int)} {v:Aa} {rec_p:Aa->Option (Int)} (h_rec:∀ (x0:Aa),Cp (rec x0) (rec_p x0)):Cp (Di.F rec v) (Di.F rec_p v):=by
 unfold Di.F
 repeat' (with_reducible first | assumption | apply Cp.bind_ | apply Cp.cond_ | apply Cp.up_ | apply h_rec | apply m_der_depth.l1 | (refine Cp.lp (fun _=>?_) _) | exact Cp.refl | intro _)
theorem Xf:Nn (fun rec (x:Aa)=>Di.F (fun v=>rec v) x):=fun p q h a=>by
 apply m_der_depth.F
 intros
 apply h
theorem V8 {rec:Aa->Option (Bool)} {x':Aa} {rec_p:Aa->Option (Bool)} (h_rec:∀ (x0:Aa),Cp (rec x0) (rec_p x0)):Cp (Fw rec x') (Fw rec_p x'):=by
 unfold Fw
 repeat' (with_reducible first | assumption | apply Cp.bind_ | apply Cp.cond_ | apply Cp.up_ | apply h_rec | exact Cp.refl | intro _)
theorem Gy.l1 {s:(List Aa)} {f:Aa->Option (Bool)} {x8_1:Int} {f_p:Aa->Option (Bool)} (h_f:∀ (x0:Aa),Cp (f x0) (f_p x0)):Cp (Bg.l1 s f x8_1) (Bg.l1 s f_p x8_1):=by
 unfold Bg.l1
 repeat' (with_reducible first | assumption | apply Cp.bind_ | apply Cp.cond_ | apply Cp.up_ | apply h_f | exact Cp.refl | intro _)
theorem Gy {rec:Aa->Option (Bool)} {s:(List Aa)} {f:Aa->Option (Bool)} {rec_p:Aa->Option (Bool)} {f_p:Aa->Option (Bool)} (h_rec:∀ (x0:Aa),Cp (rec x0) (rec_p x0)) (h_f:∀ (x0:Aa),Cp (f x0) (f_p x0)):Cp (Bg rec s f) (Bg rec_p s f_p):=by
 unfold Bg
 repeat' (with_reducible first | assumption | apply Cp.bind_ | apply Cp.cond_ | apply Cp.up_ | apply h_rec | apply h_f | apply Gy.l1 | (refine Cp.lp (fun _=>?_) _) | exact Cp.refl | intro _)
theorem K5 {rec:Aa->Option (Bool)} {s:(List Aa)} {f:Aa->Option (Bool)} {rec_p:Aa->Option (Bool)} {f_p:Aa->Option (Bool)} (h_rec:∀ (x0:Aa),Cp (rec x0) (rec_p x0)) (h_f:∀ (x0:Aa),Cp (f x0) (f_p x0)):Cp (De rec s f) (De rec_p s f_p):=by
 unfold De
 repeat' (with_reducible first | assumption | apply Cp.bind_ | apply Cp.cond_ | apply Cp.up_ | apply h_rec | apply h_f | apply Gy | exact Cp.refl | intro _)
theorem m_der_formed.j1 {rec:Aa->Option (Bool)} {v:Aa} {x36_1:Bool} {rec_p:Aa->Option (Bool)} (h_rec:∀ (x0:Aa),Cp (rec x0) (rec_p x0)):Cp (Ch.j1 rec v x36_1) (Ch.j1 rec_p v x36_1):=by
 unfold Ch.j1
 repeat' (with_reducible first | assumption | apply Cp.bind_ | apply Cp.cond_ | apply Cp.up_ | apply h_rec | apply K5 | apply V8 | exact Cp.refl | intro _)
theorem m_der_formed.F {rec:Aa->Option (Bool)} {v:Aa} {rec_p:Aa->Option (Bool)} (h_rec:∀ (x0:Aa),Cp (rec x0) (rec_p x0)):Cp (Ch.F rec v) (Ch.F rec_p v):=by
 unfold Ch.F
 repeat' (with_reducible first | assumption | apply Cp.bind_ | apply Cp.cond_ | apply Cp.up_ | apply h_rec | apply m_der_formed.j1 | exact Cp.refl | intro _)
theorem V6:Nn (fun rec (x:Aa)=>Ch.F (fun v=>rec v) x):=fun p q h a=>by
 apply m_der_formed.F
 intros
 apply h
theorem m_der_copied.l1 {rec:(List Aa)->Option ((List Aa))} {l:(List Aa)} {x8_1:Int} {out_1:List Aa} {rec_p:(List Aa)->Option ((List Aa))} (h_rec:∀ (x0:(List Aa)),Cp (rec x0) (rec_p x0)):Cp (Cz.l1 rec l x8_1 out_1) (Cz.l1 rec_p l x8_1 out_1):=by
 unfold Cz.l1
 repeat' (with_reducible first | assumption | apply Cp.bind_ | apply Cp.cond_ | apply Cp.up_ | apply h_rec | exact Cp.refl | intro _)
theorem m_der_copied.F {rec:(List Aa)->Option ((List Aa))} {l:(List Aa)} {rec_p:(List Aa)->Option ((List Aa))} (h_rec:∀ (x0:(List Aa)),Cp (rec x0) (rec_p x0)):Cp (Cz.F rec l) (Cz.F rec_p l):=by
 unfold Cz.F
 repeat' (with_reducible first | assumption | apply Cp.bind_ | apply Cp.cond_ | apply Cp.up_ | apply h_rec | apply m_der_copied.l1 | (refine Cp.lp (fun _=>?_) _) | exact Cp.refl | intro _)
theorem V4:Nn (fun rec (x:(List Aa))=>Cz.F (fun l=>rec l) x):=fun p q h a=>by
 apply m_der_copied.F
 intros
 apply h
theorem Kr.l1 {s:(List UInt8)} {f:UInt8->Option (Bool)} {x8_1:Int} {f_p:UInt8->Option (Bool)} (h_f:∀ (x0:UInt8),Cp (f x0) (f_p x0)):Cp (Bu.l1 s f x8_1) (Bu.l1 s f_p x8_1):=by
 unfold Bu.l1
 repeat' (with_reducible first | assumption | apply Cp.bind_ | apply Cp.cond_ | apply Cp.up_ | apply h_f | exact Cp.refl | intro _)
theorem Kr {s:(List UInt8)} {f:UInt8->Option (Bool)} {f_p:UInt8->Option (Bool)} (h_f:∀ (x0:UInt8),Cp (f x0) (f_p x0)):Cp (Bu s f) (Bu s f_p):=by
 unfold Bu
 repeat' (with_reducible first | assumption | apply Cp.bind_ | apply Cp.cond_ | apply Cp.up_ | apply h_f | apply Kr.l1 | (refine Cp.lp (fun _=>?_) _) | exact Cp.refl | intro _)
theorem m_ref01_all.l1 {rec:(List UInt8)->Option ((List Aa)×Bool)} {b:(List UInt8)} {at_1:Int} {out_1:List Aa} {rec_p:(List UInt8)->Option ((List Aa)×Bool)} (h_rec:∀ (x0:(List UInt8)),Cp (rec x0) (rec_p x0)):Cp (Ck.l1 rec b at_1 out_1) (Ck.l1 rec_p b at_1 out_1):=by
 unfold Ck.l1
 repeat' (with_reducible first | assumption | apply Cp.bind_ | apply Cp.cond_ | apply Cp.up_ | apply h_rec | exact Cp.refl | intro _)
theorem m_ref01_all.F {rec:(List UInt8)->Option ((List Aa)×Bool)} {b:(List UInt8)} {rec_p:(List UInt8)->Option ((List Aa)×Bool)} (h_rec:∀ (x0:(List UInt8)),Cp (rec x0) (rec_p x0)):Cp (Ck.F rec b) (Ck.F rec_p b):=by
 unfold Ck.F
 repeat' (with_reducible first | assumption | apply Cp.bind_ | apply Cp.cond_ | apply Cp.up_ | apply h_rec | apply m_ref01_all.l1 | (refine Cp.lp (fun _=>?_) _) | exact Cp.refl | intro _)
theorem Y0:Nn (fun rec (x:(List UInt8))=>Ck.F (fun b=>rec b) x):=fun p q h a=>by
 apply m_ref01_all.F
 intros
 apply h
end
end Go.Proofs.YtfanepojdefdpaaGreat
