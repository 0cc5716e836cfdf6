import Derived.Test.YtkioneinddihlaaGreatPU
set_option linter.unusedVariables false
namespace Go.Proofs.YtkioneinddihlaaGreat
open Go
theorem Sh {A R:Type} {F:(A->Option R)->A->Option R} (hm:S4 F) (spec:A->R) (μ:A->Nat) (Pre:A->Prop) (h:∀ rec a,Pre a->(∀ b,Pre b->μ b < μ a->rec b=some (spec b))->F rec a=some (spec a)) (a:A) (ha:Pre a):Xm F a=some (spec a):=by
 have key:∀ n a,Pre a->μ a < n->Xq F n a=some (spec a):=by
  intro n
  induction n with
  | zero=>intro a _ h0; exact absurd h0 (Nat.not_lt_zero _)
  | succ n ih=>intro a ha hn; exact h _ a ha fun b hb hl=>ih b hb (by omega)
 exact mR hm (key (μ a + 1) a ha (aM2 _))
def aG4 {α β:Type} [DecidableEq β] (l:List α) (a b:Option β):Option β:=match l with
 | []=>(match a,b with
  | some x,some y=>if x=y then some x else none
  | _,_=>none)
 | _ :: _=>b
theorem Fh.nil {α β:Type} [DecidableEq β] {l:List α} {a a' b b':Option β} (h:Fh a a') (k:Fh b b'):Fh (aG4 l a b) (gN l a' b'):=fun r hr=>by
 unfold aG4 at hr
 unfold gN
 cases l with
 | nil=>
  rw [if_pos rfl]
  cases a with
  | none=>cases hr
  | some x=>
   cases b with
   | none=>cases hr
   | some y=>
    simp only at hr
    split at hr
    ·rename_i e
     injection hr with hr
     subst hr
     have h1:=h x rfl
     have h2:=k y rfl
     rw [h1,h2,e,if_pos rfl]
    ·cases hr
 | cons x l=>rw [if_neg (by simp)]; exact k r hr
end Go.Proofs.YtkioneinddihlaaGreat
