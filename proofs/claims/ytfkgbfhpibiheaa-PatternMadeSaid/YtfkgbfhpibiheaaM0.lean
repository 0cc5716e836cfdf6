import Derived.Test.YtfkgbfhpibiheaaL3
import Derived.Test.YtfkgbfhpibiheaaC1
set_option linter.unusedVariables false
set_option linter.unusedSimpArgs false
namespace Go.Proofs.Ytfkgbfhpibiheaa
open Go
structure S6 (d : Am) : Prop where
 lo : Lo d.L
 at0 : 0 <= d.At
 at1 : d.At <= d.L.length
theorem sI (e n : Int) (hn : 1 <= n) (hn2 : n <= 4611686018427387904) : Ok (Kf e n) (fun y => 0 <= y /\ y < n) := by
 unfold Kf
 rw [xL (by omega), xP]
 have h1 := Int.tmod_lt_of_pos e (show 0 < n by omega)
 have h2 : -n < e.tmod n := Int.lt_tmod_of_pos e (by omega)
 have h3 := Int.tmod_lt_of_pos (e.tmod n + n) (show 0 < n by omega)
 have h4 := Int.tmod_nonneg n (show 0 <= e.tmod n + n by omega)
 unfold Xb
 rw [if_neg (by omega), xJ, Do (by omega), if_neg (by omega)]
 exact ⟨_, rfl, h4, h3⟩
theorem I5 {d : Am} (h : S6 d) (n : Int) (hn : 1 <= n) (hn2 : n <= 4611686018427387904) : Ok (Df d n) (fun y => (0 <= y.1 /\ y.1 < n) /\ S6 y.2) := by
 have hl := h.lo
 unfold Lo at hl
 have h0 := h.at0
 have h1 := h.at1
 unfold Df
 refine Ok.cond (fun hb => ?_) fun hb => ?_
 ·exact Ok.ret ⟨⟨Int.le_refl _, by show (0 : Int) < n; omega⟩, h⟩
 ·have hb := yB hb
  rw [Do (x := d.At + 1) (by omega), Do (by omega)]
  refine Ok.bind (S5 (by omega) (by omega)) fun e he => ?_
  refine Ok.bind (sI e n hn hn2) fun y hy => ?_
  exact Ok.ret ⟨hy, ⟨h.lo, by show 0 <= d.At + 1; omega, by show d.At + 1 <= (d.L.length : Int); omega⟩⟩
def Sm (n : Int) : Prop := 0 <= n /\ n <= 100000
def wW (n : Int) : Prop := -9223372036854775808 <= n /\ n <= 9223372036854775807
theorem Sm.i64 {n : Int} (h : Sm n) : wW n := by unfold Sm at h; unfold wW; omega
end Go.Proofs.Ytfkgbfhpibiheaa
