import Derived.Test.YtfkgbfhpibiheaaU1
set_option linter.unusedVariables false
set_option linter.unusedSimpArgs false
set_option maxRecDepth 100000
namespace Go.Proofs.Ytfkgbfhpibiheaa
open Go
theorem Vr (a : List Ab) (h : a.length <= 100000) : Di a a = some true := by
 unfold Di
 rw [xN rfl]
 show B6 _ _ = _
 have := Rm (body := fun q' => Di.l1 a a q') a.length (fun _ => false) false true (by omega) (fun i hi => by
  show Di.l1 a a _ = _
  unfold Di.l1
  rw [xN (by omega), xT, Bw, xK hi]
  simp) (by
  show Di.l1 a a _ = _
  unfold Di.l1
  rw [I0]
  rfl)
 rw [this]
 simp
theorem fX (p : List Ai) (b : Fm) : (Nl p b).1.length <= 1000 := by
 unfold Nl
 cases h : decide (1000 < (V3 p b b.length).length) with
 | true => simp
 | false => have := yB h; simp; omega
theorem jO {p : List Ai} {b : Fm} (hl : Lo p) (hb : b.length <= 4096) : ∃ r, Ev p b = some r /\ Cs p b = some r /\ r.1.length <= 1000 := by
 by_cases hc : chk p = 0
 ·exact ⟨_, bW hl hc hb, Z6 hl hc hb, fX p b⟩
 ·refine ⟨([], chk p), ?_, ?_, by simp⟩
  ·unfold Ev
   rw [Ju hl, xJ]
   rw [show (!decide (chk p = 0)) = true by simp [hc]]
   simp [hc]
  ·unfold Cs
   rw [Gk p hl, xJ, show (!decide (chk p = 0)) = true by simp [hc], xT]
theorem eW {p : List Ai} {b : Fm} (hl : Lo p) (hb : b.length <= 4096) : ∃ r, Eg p b = some r /\ Cd p b = some r /\ r.1.length <= p.length := by
 by_cases hc : chk p = 0
 ·obtain ⟨r, h1, h2, h3⟩ := Ur (b := b) hl hc hb
  exact ⟨_, h1, h2, aAq h3.1⟩
 ·refine ⟨([], chk p), ?_, ?_, by simp⟩
  ·unfold Eg
   rw [Ju hl, xJ]
   rw [show (!decide (chk p = 0)) = true by simp [hc]]
   simp [hc]
  ·unfold Cd
   rw [Gk p hl, xJ, show (!decide (chk p = 0)) = true by simp [hc], xT]
end Go.Proofs.Ytfkgbfhpibiheaa
