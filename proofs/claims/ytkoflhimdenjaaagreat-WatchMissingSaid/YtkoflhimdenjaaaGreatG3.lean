import Derived.Test.YtkoflhimdenjaaaGreatG2
set_option autoImplicit false
set_option linter.unusedVariables false
set_option linter.unusedSimpArgs false
namespace Go.Proofs.YtkoflhimdenjaaaGreat
open Go
theorem zO {at' : Aa} (h : R7 at' = 0) {f : Aa} (h1 : f.Source = at'.Source) (h2 : f.Host = at'.Host) (h3 : f.Machine = at'.Machine) (h4 : f.Day = at'.Day) (h5 : f.Confidence = at'.Confidence) (h6 : f.Subject = at'.Subject) (hc : S3 f = true) : R7 f = 0 := by
 unfold R7 at h ⊢
 rw [h1, h2, h3, h4, h5, h6, hc]
 generalize (F0 at'.Host && (F0 at'.Subject && (decide (0 <= at'.Machine) && decide (at'.Machine <= 1099511627776)))) = a at *
 generalize (decide (0 <= at'.Day) && (decide (at'.Day <= 40000) && (decide (1 <= at'.Confidence) && decide (at'.Confidence <= 100)))) = b at *
 generalize decide (1 <= at'.Source) = c at *
 generalize decide (at'.Source <= 7) = d at *
 generalize S3 at' = x at *
 cases a <;> cases b <;> cases c <;> cases d <;> cases x <;> first | rfl | cases h
theorem Rz {at' : Aa} (hf : Tk at') (h : R7 at' = 0) {k n : Int} {u : Aw} (hc : S3 (Sd at' k u n) = true) : Tk (Sd at' k u n) /\ R7 (Sd at' k u n) = 0 := ⟨bA hf k u n, zO h rfl rfl rfl rfl rfl rfl hc⟩
theorem Wq (at' : Aa) (k n : Int) : Tf (Sd at' k ⟨0, 0⟩ n) = true := rfl
theorem aEn (at' : Aa) {n : Int} (h : 0 <= n /\ n <= 65535) : S3 (Sd at' 2 ⟨0, 0⟩ n) = true := by
 show (Tf (Sd at' 2 ⟨0, 0⟩ n) && (decide (0 <= n) && decide (n <= 65535))) = true
 rw [Wq, decide_eq_true h.1, decide_eq_true h.2]; rfl
theorem vF (at' : Aa) {k n : Int} (hk : k = 4 \/ k = 5) (h : 1 <= n /\ n <= 4) : S3 (Sd at' k ⟨0, 0⟩ n) = true := by
 rcases hk with rfl | rfl
 ·show (Tf (Sd at' 4 ⟨0, 0⟩ n) && (decide (1 <= n) && decide (n <= 4))) = true
  rw [Wq, decide_eq_true h.1, decide_eq_true h.2]; rfl
 ·show (Tf (Sd at' 5 ⟨0, 0⟩ n) && (decide (1 <= n) && decide (n <= 4))) = true
  rw [Wq, decide_eq_true h.1, decide_eq_true h.2]; rfl
theorem aE6 (at' : Aa) {n : Int} (h : 0 <= n /\ n <= 2147483648) : S3 (Sd at' 6 ⟨0, 0⟩ n) = true := by
 show (Tf (Sd at' 6 ⟨0, 0⟩ n) && (decide (0 <= n) && decide (n <= 2147483648))) = true
 rw [Wq, decide_eq_true h.1, decide_eq_true h.2]; rfl
theorem aD5 (at' : Aa) {u : Aw} (h : 0 < N5 u) : S3 (Sd at' 1 u 0) = true := by
 unfold S3
 show (bif decide ((1 : Int) = 1) || decide ((1 : Int) = 8) then decide (0 < N5 u) && _ else _) = true
 rw [decide_eq_true h]; rfl
theorem aFd (at' : Aa) {u : Aw} {n : Int} (h : Pe u 2 = true) (hn : 0 <= n /\ n <= 2147483648) : S3 (Sd at' 3 u n) = true := by
 unfold Pe at h
 rw [Bool.and_eq_true] at h
 have h1 : decide (0 < N5 (Sd at' 3 u n).Use) = true := h.1
 have h2 : decide (P9 (Sd at' 3 u n).Use.Alg = 2) = true := h.2
 have h3 : decide (0 <= (Sd at' 3 u n).Number) = true := decide_eq_true hn.1
 have h4 : decide ((Sd at' 3 u n).Number <= 2147483648) = true := decide_eq_true hn.2
 unfold S3
 rw [h1, h2, h3, h4]
 rfl
theorem EpM.few {name : ByteArray} {e : Ao} (h : EpM name e) : gS e := by
 have h1 := h.sn
 have h2 := h.idn
 have ha := h.anchors
 have hh := h.hashes
 unfold zI at ha
 unfold yS at hh
 simp only [List.mem_cons, List.not_mem_nil, or_false] at ha hh
 refine ⟨by omega, by omega, ?_, ?_⟩
 ·rcases ha with e | e | e | e | e <;> rw [e] <;> decide
 ·rcases hh with e | e | e <;> rw [e] <;> decide
end Go.Proofs.YtkoflhimdenjaaaGreat
