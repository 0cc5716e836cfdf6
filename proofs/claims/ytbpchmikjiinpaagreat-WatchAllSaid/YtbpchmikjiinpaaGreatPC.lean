import Derived.Test.YtbpchmikjiinpaaGreatPU
set_option linter.unusedVariables false
namespace Go.Proofs.YtbpchmikjiinpaaGreat
open Go
theorem Ut {A R:Type} {F:(A->Option R)->A->Option R} (hm:Vp F) (spec:A->R) (μ:A->Nat) (Pre:A->Prop) (h:∀ rec a,Pre a->(∀ b,Pre b->μ b < μ a->rec b=some (spec b))->F rec a=some (spec a)) (a:A) (ha:Pre a):Z2 F a=some (spec a):=by
 have key:∀ n a,Pre a->μ a < n->Zr F n a=some (spec a):=by
  intro n
  induction n with
  | zero=>intro a _ h0; exact absurd h0 (Nat.not_lt_zero _)
  | succ n ih=>intro a ha hn; exact h _ a ha fun b hb hl=>ih b hb (by omega)
 exact qN hm (key (μ a + 1) a ha (aOx _))
def aKc {α β:Type} [DecidableEq β] (l:List α) (a b:Option β):Option β:=match l with
 | []=>(match a,b with
  | some x,some y=>if x=y then some x else none
  | _,_=>none)
 | _ :: _=>b
theorem Ez.nil {α β:Type} [DecidableEq β] {l:List α} {a a' b b':Option β} (h:Ez a a') (k:Ez b b'):Ez (aKc l a b) (lE l a' b'):=fun r hr=>by
 unfold aKc at hr
 unfold lE
 cases l with
 | nil=>
  rw [if_pos rfl]
  cases a with
  | none=>cases hr
  | some x=>
   cases b with
   | none=>cases hr
   | some y=>
    simp only at hr
    split at hr
    ·rename_i e
     injection hr with hr
     subst hr
     have h1:=h x rfl
     have h2:=k y rfl
     rw [h1,h2,e,if_pos rfl]
    ·cases hr
 | cons x l=>rw [if_neg (by simp)]; exact k r hr
end Go.Proofs.YtbpchmikjiinpaaGreat
