import Derived.Test.YtchpcpaacenodaaGreatPU
set_option linter.unusedVariables false
namespace Go.Proofs.YtchpcpaacenodaaGreat
open Go
theorem Ur {A R:Type} {F:(A->Option R)->A->Option R} (hm:Vf F) (spec:A->R) (μ:A->Nat) (Pre:A->Prop) (h:∀ rec a,Pre a->(∀ b,Pre b->μ b < μ a->rec b=some (spec b))->F rec a=some (spec a)) (a:A) (ha:Pre a):Yz F a=some (spec a):=by
 have key:∀ n a,Pre a->μ a < n->Y9 F n a=some (spec a):=by
  intro n
  induction n with
  | zero=>intro a _ h0; exact absurd h0 (Nat.not_lt_zero _)
  | succ n ih=>intro a ha hn; exact h _ a ha fun b hb hl=>ih b hb (by omega)
 exact mO hm (key (μ a + 1) a ha (aCz _))
def aE3 {α β:Type} [DecidableEq β] (l:List α) (a b:Option β):Option β:=match l with
 | []=>(match a,b with
  | some x,some y=>if x=y then some x else none
  | _,_=>none)
 | _ :: _=>b
theorem Hb.nil {α β:Type} [DecidableEq β] {l:List α} {a a' b b':Option β} (h:Hb a a') (k:Hb b b'):Hb (aE3 l a b) (kF l a' b'):=fun r hr=>by
 unfold aE3 at hr
 unfold kF
 cases l with
 | nil=>
  rw [if_pos rfl]
  cases a with
  | none=>cases hr
  | some x=>
   cases b with
   | none=>cases hr
   | some y=>
    simp only at hr
    split at hr
    ·rename_i e
     injection hr with hr
     subst hr
     have h1:=h x rfl
     have h2:=k y rfl
     rw [h1,h2,e,if_pos rfl]
    ·cases hr
 | cons x l=>rw [if_neg (by simp)]; exact k r hr
end Go.Proofs.YtchpcpaacenodaaGreat
