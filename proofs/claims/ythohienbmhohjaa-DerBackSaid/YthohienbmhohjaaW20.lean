/- The walks: the law's sanity check. -/
import Derived.Test.YthohienbmhohjaaW19
import Derived.Test.YthohienbmhohjaaW14
import Derived.Deep.RegionWith
namespace Go.Proofs.Ythohienbmhohjaa
open Go.RowKit

/-- The chapter's example. -/
def awakeV : V := .mk 48 [] true [intV 5, intV (-129)]
theorem intV5 : intV 5 = .mk 2 [5] false [] := by
  unfold intV; congr 1
theorem intVm : intV (-129) = .mk 2 [255, 127] false [] := by
  unfold intV; congr 1
theorem awakeV_eq : awakeV = .mk 48 [] true [.mk 2 [5] false [], .mk 2 [255, 127] false []] := by unfold awakeV; rw [intV5, intVm]
theorem awake_put : awakeV.put = [48, 7, 2, 1, 5, 2, 2, 255, 127] := by
  rw [awakeV_eq]; simp [V.put, putAll, lenB]
theorem awake_formed : awakeV.formed = true := by
  rw [awakeV_eq]; simp [V.formed, formedAll, tagB, nestB]
theorem awake_depth : awakeV.depth = 2 := by
  rw [awakeV_eq]; simp [V.depth, depthAll]
theorem awake_E : encE awakeV = 0 := by unfold encE; rw [awake_formed, awake_depth, awake_put]; decide
theorem awake_L : encL awakeV = [48, 7, 2, 1, 5, 2, 2, 255, 127] := by unfold encL; rw [if_pos awake_E, awake_put]

/-- A row of the given elements, laid by a literal. -/
theorem row_two {w : World} {d d' : V} {us us' : List Value} {B : Nat} (hB : B = w.heap.size) (h : RdUs w (lt w.heap.size) d.enc us) (h' : RdUs w (lt w.heap.size) d'.enc us') :
    Rd (w.alloc (.cells (us ++ us').toArray 29)) (.sl 4 (encs [d, d'])) (.slice (some ⟨B, 0, none⟩) 2 2) := by
  have e : encs [d, d'] = d.enc ++ d'.enc := by simp [encs]
  have hl : (encs [d, d']).length = 2 * 4 := by rw [encs_length]; rfl
  rw [e] at hl ⊢
  exact (OwnT.madeAt (T := fun _ => True) (base := 0) (e := 29) (sz := 4) (n := 2) B hB hl (by simp [maxLen]) (h.append h') (fun b hb => ⟨trivial, hb⟩) (Nat.zero_le _)).rd

/-- Bytes, laid by a literal. -/
theorem bytes_lit (w : World) (l : List UInt8) (n : Nat) (hn : l.length = n) (hm : n ≤ maxLen) : Rd (w.alloc (.cells (l.map fun x => Value.int .u8 x.toNat).toArray 5)) (.sl 1 (bytesC l)) (.slice (some ⟨w.heap.size, 0, none⟩) n n) := by
  refine (OwnT.madeAt (T := fun _ => True) (base := 0) (e := 5) (sz := 1) (n := n) (S := fun _ => False) w.heap.size rfl (by simp [bytesC, hn]) hm ⟨by simp [bytesC], fun j c u h1 h2 => ?_⟩ (fun b hb => hb.elim) (Nat.zero_le _)).rd
  simp only [bytesC, List.getElem?_map, Option.map_eq_some_iff] at h1 h2
  obtain ⟨x, h1, rfl⟩ := h1
  obtain ⟨y, h2, rfl⟩ := h2
  rw [h1] at h2
  injection h2 with h2
  subst h2
  unfold RdC
  exact ⟨rfl, u8_range ⟨by omega, by have := x.toNat_lt; omega⟩⟩

set_option maxRecDepth 100000 in
set_option maxHeartbeats 800000 in
theorem awake_any (w : World) : Calls Try.prog 8 #[] w fun e w' => e = .returned (.bool true) ∧ Ext w w' := by
  have tok1 : True := trivial
  go_enter Try.func8, Try.ntmps8
  go_wp2_with (first
    | (go_at_call 10; have _t := tok1; refine (int_any _ _).mono ?_; rintro e w1 ⟨v1, rfl, hr1, hx1⟩; have HV1 := Lib.hid hr1.new_rd; obtain ⟨vb1, ve1, rfl, i1, hrb1, hre1⟩ := hr1; obtain ⟨A1, n1, c1, rfl, -⟩ := RdC.slice hrb1; obtain ⟨A2, n2, c2, rfl, -⟩ := RdC.slice hre1; clear hrb1 hre1 tok1)
    | (go_at_call 10; refine (int_any _ _).mono ?_; rintro e w2 ⟨v2, rfl, hr2, hx2⟩; have HV2 := Lib.hid hr2.new_rd; obtain ⟨vb2, ve2, rfl, i2, hrb2, hre2⟩ := hr2; obtain ⟨A3, n3, c3, rfl, -⟩ := RdC.slice hrb2; obtain ⟨A4, n4, c4, rfl, -⟩ := RdC.slice hre2; clear hrb2 hre2; have HR := Lib.hid (row_two (B := w2.heap.size) (w := w2) rfl (RdV.us (t := 2) (b := intB 5) (n := false) (es := []) (HV1.out.ext hx2)) (RdV.us (t := 2) (b := intB (-129)) (n := false) (es := []) HV2.out)))
    | (go_at_call 32; refine (list_any [intV 5, intV (-129)] (by rw [intV5, intVm]; simp [wtAll, V.wt]) _ _ _ _ (by exact HR.out)).mono ?_; rintro e w3 ⟨v3, rfl, hr3, hx3⟩; have HV3 := Lib.hid hr3.new_rd; clear hr3)
    | (go_at_call 21; refine (encode_any awakeV (by rw [awake_depth]; decide) (by rw [awake_put]; decide) _ _ HV3.out).mono ?_; rintro e w4 ⟨A5, n5, c5, rfl, hr5, hx5⟩; rw [awake_L] at hr5; rw [awake_E]; have kc := conv_bytes (P := Try.prog) 22 5 9 Try.underlying22 Try.underlying5 Try.underlying9 hr5.new_rd; have kc2 : (convert 22 9 (.slice (some ⟨w4.heap.size, 0, none⟩) 9 9)).run Try.prog (w4.alloc (.cells #[.int .u8 48, .int .u8 7, .int .u8 2, .int .u8 1, .int .u8 5, .int .u8 2, .int .u8 2, .int .u8 255, .int .u8 127] 5)) = .ok (.string ⟨#[48, 7, 2, 1, 5, 2, 2, 255, 127]⟩) (w4.alloc (.cells #[.int .u8 48, .int .u8 7, .int .u8 2, .int .u8 1, .int .u8 5, .int .u8 2, .int .u8 2, .int .u8 255, .int .u8 127] 5)) := conv_bytes (P := Try.prog) 22 5 9 Try.underlying22 Try.underlying5 Try.underlying9 (bytes_lit w4 [48, 7, 2, 1, 5, 2, 2, 255, 127] 9 rfl (by simp [maxLen]))))
  go_ret
  exact ⟨ret_val (by rfl), (((hx1.trans hx2).alloc _).trans (hx3.trans hx5)).alloc _⟩
end Go.Proofs.Ythohienbmhohjaa
