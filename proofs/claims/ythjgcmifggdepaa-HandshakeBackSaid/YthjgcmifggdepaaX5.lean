/- The contracts of the functions that were walked before, as the engine wants them. -/
import Derived.Test.YthjgcmifggdepaaX4
import Derived.Test.YthjgcmifggdepaaH21
import Derived.Test.YthjgcmifggdepaaH20
set_option linter.unusedVariables false
set_option linter.unusedSimpArgs false
namespace Go.Proofs.Ythjgcmifggdepaa
open Go.RowKit

abbrev hD (h : Hl) : DV := .agg [.val (.int .i64 h.most), .sl 1 (intsC h.su), .sl 1 (intsC h.ha)]
abbrev cD (c : Ch) : DV := .agg [.val (.int .i64 c.ver), .val (.int .i64 c.suite), .val (.int .i64 c.key)]
abbrev bR (l : List UInt8) (k : Int) (r : DV) (b : List LB) : Prop := r = .tup [.row 0, .val (.int .i64 k)] ∧ b = [.row 5 1 (bytesC l)]
abbrev okM (h : Hl) : Prop := -9223372036854775808 ≤ h.most ∧ h.most ≤ 9223372036854775807
section
variable {ρ : Nat → Value} {I : Nat → Prop} {w w' : World}
theorem repl1 {d : DV} {vs : List Value} (h : RepL ρ I w [d] vs) : ∃ v, vs = [v] ∧ Rep ρ I w d v := by
  unfold RepL at h
  obtain ⟨u, us, rfl, h1, h2⟩ := h
  unfold RepL at h2
  exact ⟨u, by rw [h2], h1⟩
theorem repl2 {d d' : DV} {vs : List Value} (h : RepL ρ I w [d, d'] vs) : ∃ v v', vs = [v, v'] ∧ Rep ρ I w d v ∧ Rep ρ I w d' v' := by
  unfold RepL at h
  obtain ⟨u, us, rfl, h1, h2⟩ := h
  obtain ⟨v, rfl, h3⟩ := repl1 h2
  exact ⟨u, v, rfl, h1, h3⟩
theorem repl3 {d d' d3 : DV} {vs : List Value} (h : RepL ρ I w [d, d', d3] vs) : ∃ v v' v3, vs = [v, v', v3] ∧ Rep ρ I w d v ∧ Rep ρ I w d' v' ∧ Rep ρ I w d3 v3 := by
  unfold RepL at h
  obtain ⟨u, us, rfl, h1, h2⟩ := h
  obtain ⟨v, v', rfl, h3⟩ := repl2 h2
  exact ⟨u, v, v', rfl, h1, h3⟩
theorem rep_valE {v u : Value} (h : Rep ρ I w (.val v) u) : u = v := by unfold Rep at h; exact h
theorem rep_hD {h : Hl} {v : Value} (hI : ∀ b, I b → b < w.heap.size) (hm : okM h) (hr : Rep ρ I w (hD h) v) : RdHv w h v := by
  unfold hD Rep at hr
  obtain ⟨vs, rfl, -, hq⟩ := hr
  obtain ⟨a, b, c, rfl, h1, h2, h3⟩ := repl3 hq
  rw [rep_valE h1]
  unfold Rep at h2 h3
  exact ⟨b, c, rfl, hm, RdC.mono h2 hI, RdC.mono h3 hI⟩
theorem rep_cD {c : Ch} {v : Value} (hr : Rep ρ I w (cD c) v) : v = chV c := by
  unfold cD Rep at hr
  obtain ⟨vs, rfl, -, hq⟩ := hr
  obtain ⟨a, b, c, rfl, h1, h2, h3⟩ := repl3 hq
  rw [rep_valE h1, rep_valE h2, rep_valE h3]
  rfl
theorem rep_sl {sz : Nat} {cs : List C} {v : Value} (hI : ∀ b, I b → b < w.heap.size) (hr : Rep ρ I w (.sl sz cs) v) : ∃ A n c, v = .slice A n c ∧ Rd w (.sl sz cs) (.slice A n c) := by
  unfold Rep at hr
  obtain ⟨A, n, c, rfl, -⟩ := RdC.slice hr
  exact ⟨A, n, c, rfl, RdC.mono hr hI⟩
theorem bres {l : List UInt8} {k : Int} {e : Ending} (h : BRes w l k e w') : ∃ v u, e = .returned v ∧ (∀ ρ' : Nat → Value, ρ' 0 = u → Rep ρ' (fun _ => False) w' (.tup [.row 0, .val (.int .i64 k)]) v) ∧ OwnT (fun _ => False) w' w.heap.size 5 1 u (bytesC l) ∧ Ext w w' := by
  obtain ⟨A, n, c, rfl, h1, h2⟩ := h
  refine ⟨_, _, rfl, fun ρ' hρ => ?_, h1, h2⟩
  unfold Rep
  refine ⟨[_, _], rfl, ?_⟩
  unfold RepL
  refine ⟨_, _, rfl, ?_, ?_⟩
  · unfold Rep; rw [hρ]; exact ⟨rfl, rfl⟩
  · unfold RepL
    refine ⟨_, _, rfl, by unfold Rep; rfl, by unfold RepL; rfl⟩
theorem men_bR {k : Int} : ∀ j, men (.tup [.row 0, .val (.int .i64 k)]) j → j = 0 := fun j h => by
  unfold men menL at h
  rcases h with h | h
  · unfold men at h; exact h
  · unfold menL men at h
    rcases h with h | h
    · exact h.elim
    · unfold menL at h; exact h.elim
theorem rdH_rep {h : Hl} {v : Value} {S : Nat → Prop} (hr : RdH w S h v) : Rep ρ S w (hD h) v := by
  obtain ⟨v1, v2, rfl, -, h1, h2⟩ := hr
  unfold hD Rep
  refine ⟨[_, _, _], rfl, ?_, ?_⟩
  · obtain ⟨A, n, c, rfl, -⟩ := RdC.slice h1
    obtain ⟨A', n', c', rfl, -⟩ := RdC.slice h2
    intro u hu
    simp at hu
    rcases hu with rfl | rfl | rfl <;> rfl
  · unfold RepL
    refine ⟨_, _, rfl, by unfold Rep; rfl, ?_⟩
    unfold RepL
    refine ⟨_, _, rfl, by unfold Rep; exact h1, ?_⟩
    unfold RepL
    exact ⟨_, _, rfl, by unfold Rep; exact h2, by unfold RepL; rfl⟩
theorem rep_cD' {c : Ch} {S : Nat → Prop} : Rep ρ S w (cD c) (chV c) := by
  unfold cD Rep
  refine ⟨[_, _, _], rfl, fun u hu => ?_, ?_⟩
  · simp at hu
    rcases hu with rfl | rfl | rfl <;> rfl
  · unfold RepL
    refine ⟨_, _, rfl, by unfold Rep; rfl, ?_⟩
    unfold RepL
    refine ⟨_, _, rfl, by unfold Rep; rfl, ?_⟩
    unfold RepL
    exact ⟨_, _, rfl, by unfold Rep; rfl, by unfold RepL; rfl⟩
theorem repL_cons {S : Nat → Prop} {d : DV} {ds : List DV} {v : Value} {vs : List Value} (h : Rep ρ S w d v) (hs : RepL ρ S w ds vs) : RepL ρ S w (d :: ds) (v :: vs) := by
  unfold RepL
  exact ⟨v, vs, rfl, h, hs⟩
theorem repL_nil {S : Nat → Prop} : RepL ρ S w [] [] := by unfold RepL; rfl
theorem rep_tup {S : Nat → Prop} {ds : List DV} {vs : List Value} (h : RepL ρ S w ds vs) : Rep ρ S w (.tup ds) (.tuple vs.toArray) := by unfold Rep; exact ⟨vs, rfl, h⟩
theorem rep_v {S : Nat → Prop} {v : Value} : Rep ρ S w (.val v) v := by unfold Rep; rfl
theorem men_hc {h : Hl} {c : Ch} {vs : List DV} (hv : ∀ d ∈ vs, ∃ v, d = .val v) : ∀ k, ¬ men (.tup (hD h :: cD c :: vs)) k := fun k hk => by
  unfold men menL at hk
  rcases hk with hk | hk
  · unfold hD men menL at hk
    simp [men, menL] at hk
  · unfold menL at hk
    rcases hk with hk | hk
    · unfold cD men menL at hk
      simp [men, menL] at hk
    · induction vs with
      | nil => unfold menL at hk; exact hk
      | cons d vs ih =>
        unfold menL at hk
        rcases hk with hk | hk
        · obtain ⟨v, rfl⟩ := hv d (by simp)
          unfold men at hk; exact hk
        · exact ih (fun d hd => hv d (by simp [hd])) hk
end
theorem encH_fn (h : Hl) (hm : okM h) : Fn Try.prog 13 [hD h] [] (bR (encHL h) (encHE h)) :=
  Fn.row1 (.of Try.func13 rfl rfl) men_bR fun ρ I w vs hI hr => by
    obtain ⟨v, rfl, hq⟩ := repl1 hr
    exact (encodeHello_any h v w (rep_hD hI hm hq)).mono fun _ _ h => bres h
theorem encH2_fn (h : Hl) (hm : okM h) : Fn Try.prog 14 [hD h] [] (bR (encHL h) (encHE h)) :=
  Fn.row1 (.of Try.func14 rfl rfl) men_bR fun ρ I w vs hI hr => by
    obtain ⟨v, rfl, hq⟩ := repl1 hr
    exact (refEncodeHello_any h v w (rep_hD hI hm hq)).mono fun _ _ h => bres h
theorem encC_fn (c : Ch) : Fn Try.prog 15 [cD c] [] (bR (encCL c) (encCE c)) :=
  Fn.row1 (.of Try.func15 rfl rfl) men_bR fun ρ I w vs hI hr => by
    obtain ⟨v, rfl, hq⟩ := repl1 hr
    rw [rep_cD hq]
    exact (encodeChoice_any c w).mono fun _ _ h => bres h
theorem encC2_fn (c : Ch) : Fn Try.prog 16 [cD c] [] (bR (encCL c) (encCE c)) :=
  Fn.row1 (.of Try.func16 rfl rfl) men_bR fun ρ I w vs hI hr => by
    obtain ⟨v, rfl, hq⟩ := repl1 hr
    rw [rep_cD hq]
    exact (refEncodeChoice_any c w).mono fun _ _ h => bres h
theorem records_fn (l : List UInt8) (s : Int) : Fn Try.prog 28 [.sl 1 (bytesC l), .val (.int .i64 s)] [] (bR (recL s l) (recE s l)) :=
  Fn.row1 (.of Try.func28 rfl rfl) men_bR fun ρ I w vs hI hr => by
    obtain ⟨v, v', rfl, h1, h2⟩ := repl2 hr
    obtain ⟨A, n, c, rfl, h3⟩ := rep_sl hI h1
    rw [rep_valE h2]
    exact (records_any l s A n c w h3).mono fun _ _ h => bres h
theorem records2_fn (l : List UInt8) (s : Int) : Fn Try.prog 18 [.sl 1 (bytesC l), .val (.int .i64 s)] [] (bR (recL s l) (recE s l)) :=
  Fn.row1 (.of Try.func18 rfl rfl) men_bR fun ρ I w vs hI hr => by
    obtain ⟨v, v', rfl, h1, h2⟩ := repl2 hr
    obtain ⟨A, n, c, rfl, h3⟩ := rep_sl hI h1
    rw [rep_valE h2]
    exact (refRecords_any l s A n c w h3).mono fun _ _ h => bres h
theorem messages_fn (l : List UInt8) : Fn Try.prog 24 [.sl 1 (bytesC l)] [] (bR (msgL l) (msgE l)) :=
  Fn.row1 (.of Try.func24 rfl rfl) men_bR fun ρ I w vs hI hr => by
    obtain ⟨v, rfl, h1⟩ := repl1 hr
    obtain ⟨A, n, c, rfl, h3⟩ := rep_sl hI h1
    exact (messages_any l A n c w h3).mono fun _ _ h => bres h
theorem messages2_fn (l : List UInt8) : Fn Try.prog 25 [.sl 1 (bytesC l)] [] (bR (msgL l) (msgE l)) :=
  Fn.row1 (.of Try.func25 rfl rfl) men_bR fun ρ I w vs hI hr => by
    obtain ⟨v, rfl, h1⟩ := repl1 hr
    obtain ⟨A, n, c, rfl, h3⟩ := rep_sl hI h1
    exact (refMessages_any l A n c w h3).mono fun _ _ h => bres h
abbrev decR (d : Dc) (r : DV) (b : List LB) : Prop := r = .tup [hD d.h, cD d.c, .val (.int .i64 d.n), .val (.int .i64 d.e)] ∧ b = []
abbrev capR (d : Cp) (r : DV) (b : List LB) : Prop := r = .tup [hD d.h, cD d.c, .val (.int .i64 d.e)] ∧ b = []
theorem dres {ρ : Nat → Value} {w w' : World} {d : Dc} {e : Ending} (h : DecRes w d e w') : ∃ v, e = .returned v ∧ Rep ρ (New w w') w' (.tup [hD d.h, cD d.c, .val (.int .i64 d.n), .val (.int .i64 d.e)]) v ∧ Ext w w' := by
  obtain ⟨hv, rfl, h1, h2⟩ := h
  exact ⟨_, rfl, rep_tup (repL_cons (rdH_rep h1) (repL_cons rep_cD' (repL_cons rep_v (repL_cons rep_v repL_nil)))), h2⟩
theorem cres {ρ : Nat → Value} {w w' : World} {d : Cp} {e : Ending} (h : CapRes w d e w') : ∃ v, e = .returned v ∧ Rep ρ (New w w') w' (.tup [hD d.h, cD d.c, .val (.int .i64 d.e)]) v ∧ Ext w w' := by
  obtain ⟨hv, rfl, h1, h2⟩ := h
  exact ⟨_, rfl, rep_tup (repL_cons (rdH_rep h1) (repL_cons rep_cD' (repL_cons rep_v repL_nil))), h2⟩
theorem decode_fn (l : List UInt8) (hl : l.length ≤ 1000000000) : Fn Try.prog 31 [.sl 1 (bytesC l)] [] (decR (decD l)) :=
  Fn.data (.of Try.func31 rfl rfl) (men_hc (by simp)) fun ρ I w vs hI hr => by
    obtain ⟨v, rfl, h1⟩ := repl1 hr
    obtain ⟨A, n, c, rfl, h3⟩ := rep_sl hI h1
    have hn := (RdC.blen h3).1
    exact (decode_any l A n c w h3 (by omega)).mono fun _ _ h => dres h
theorem decode2_fn (l : List UInt8) (hl : l.length ≤ 1000000000) : Fn Try.prog 36 [.sl 1 (bytesC l)] [] (decR (decD l)) :=
  Fn.data (.of Try.func36 rfl rfl) (men_hc (by simp)) fun ρ I w vs hI hr => by
    obtain ⟨v, rfl, h1⟩ := repl1 hr
    obtain ⟨A, n, c, rfl, h3⟩ := rep_sl hI h1
    have hn := (RdC.blen h3).1
    exact (refDecode_any l A n c w h3 (by omega)).mono fun _ _ h => dres h
theorem capture_fn (l : List UInt8) : Fn Try.prog 22 [.sl 1 (bytesC l)] [] (capR (capD l)) :=
  Fn.data (.of Try.func22 rfl rfl) (men_hc (by simp)) fun ρ I w vs hI hr => by
    obtain ⟨v, rfl, h1⟩ := repl1 hr
    obtain ⟨A, n, c, rfl, h3⟩ := rep_sl hI h1
    exact (capture_any l A n c w h3).mono fun _ _ h => cres h
theorem capture2_fn (l : List UInt8) : Fn Try.prog 23 [.sl 1 (bytesC l)] [] (capR (capD l)) :=
  Fn.data (.of Try.func23 rfl rfl) (men_hc (by simp)) fun ρ I w vs hI hr => by
    obtain ⟨v, rfl, h1⟩ := repl1 hr
    obtain ⟨A, n, c, rfl, h3⟩ := rep_sl hI h1
    exact (refCapture_any l A n c w h3).mono fun _ _ h => cres h
theorem sameHello_fn (a b : Hl) (ha : okM a) (hb : okM b) : Fn Try.prog 27 [hD a, hD b] [] (fun r x => r = .val (.bool (sameHB a b)) ∧ x = []) :=
  Fn.data (.of Try.func27 rfl rfl) (fun k hk => by unfold men at hk; exact hk) fun ρ I w vs hI hr => by
    obtain ⟨v, v', rfl, h1, h2⟩ := repl2 hr
    refine (sameHello_any a b v v' w (rep_hD hI ha h1) (rep_hD hI hb h2)).mono ?_
    rintro e w' ⟨rfl, hx⟩
    exact ⟨_, rfl, rep_v, hx⟩
theorem awake_fn : Fn Try.prog 9 [] [] (fun r x => r = .val (.bool true) ∧ x = []) :=
  Fn.data (.of Try.func9 rfl rfl) (fun k hk => by unfold men at hk; exact hk) fun ρ I w vs hI hr => by
    unfold RepL at hr
    subst hr
    refine (awake_any w).mono ?_
    rintro e w' ⟨rfl, hx⟩
    exact ⟨_, rfl, rep_v, hx⟩
end Go.Proofs.Ythjgcmifggdepaa
