/- The walks: lists of elements, made and read; how large an element is. -/
import Derived.Test.YthohienbmhohjaaW12
import Derived.Test.YthohienbmhohjaaW4
namespace Go.Proofs.Ythohienbmhohjaa
open Go.RowKit

mutual
def V.wt : V → Nat
  | .mk _ b _ es => 1 + b.length + wtAll es
def wtAll : List V → Nat
  | [] => 0
  | v :: vs => v.wt + wtAll vs
end
theorem wt_pos (d : V) : 1 ≤ d.wt := by cases d; simp [V.wt]; omega
theorem wtAll_len : ∀ es : List V, es.length ≤ wtAll es
  | [] => by simp
  | v :: vs => by rw [wtAll, List.length_cons]; have := wtAll_len vs; have := wt_pos v; omega
theorem wtAll_mem : ∀ {es : List V} {d : V}, d ∈ es → d.wt ≤ wtAll es
  | v :: vs, d, h => by
    rw [wtAll]
    rcases List.mem_cons.1 h with rfl | h
    · omega
    · have := wtAll_mem h; omega

def listOk : V → Bool | .mk t b n es => (t == 48) && (V.mk t b n es).formed
theorem listOk_eq (t : Int) (b : List UInt8) (n : Bool) (es : List V) : listOk (.mk t b n es) = ((t == 48) && (V.mk t b n es).formed) := rfl
theorem copied_all : ∀ (k : Nat) (es : List V), depthAll es ≤ k → wtAll es ≤ 100000000 → CopyOf 63 es := by
  intro k
  induction k with
  | zero =>
    intro es hd hw
    refine copied_step es fun t b n es' hm => ?_
    have := depthAll_mem hm; have := depth_pos (V.mk t b n es'); omega
  | succ k ih =>
    intro es hd hw
    refine copied_step es fun t b n es' hm => ?_
    have h1 := depthAll_mem hm
    have h2 := wtAll_mem hm
    rw [V.depth] at h1
    rw [V.wt] at h2
    exact ⟨by omega, ih es' (by omega) (by omega), by rw [encs_length]; have := wtAll_len es'; omega⟩
theorem copies_all : ∀ (k : Nat) (es : List V), depthAll es ≤ k → wtAll es ≤ 100000000 → CopyOf 64 es := by
  intro k
  induction k with
  | zero =>
    intro es hd hw
    refine copies_step es fun t b n es' hm => ?_
    have := depthAll_mem hm; have := depth_pos (V.mk t b n es'); omega
  | succ k ih =>
    intro es hd hw
    refine copies_step es fun t b n es' hm => ?_
    have h1 := depthAll_mem hm
    have h2 := wtAll_mem hm
    rw [V.depth] at h1
    rw [V.wt] at h2
    exact ⟨by omega, ih es' (by omega) (by omega), by rw [encs_length]; have := wtAll_len es'; omega⟩
theorem copied_any (es : List V) (hw : wtAll es ≤ 100000000) (A : Option Addr) (n c : Nat) (w : World) (h : Rd w (.sl 4 (encs es)) (.slice A n c)) :
    Calls Try.prog 63 #[.slice A n c] w fun e w' => ∃ A' n' c', e = .returned (.slice A' n' c') ∧ RdC w' (New w w') (.sl 4 (encs es)) (.slice A' n' c') ∧ Ext w w' :=
  copied_all _ es (Nat.le_refl _) hw A n c w h (by rw [encs_length]; have := wtAll_len es; omega)
theorem copies_any (es : List V) (hw : wtAll es ≤ 100000000) (A : Option Addr) (n c : Nat) (w : World) (h : Rd w (.sl 4 (encs es)) (.slice A n c)) :
    Calls Try.prog 64 #[.slice A n c] w fun e w' => ∃ A' n' c', e = .returned (.slice A' n' c') ∧ RdC w' (New w w') (.sl 4 (encs es)) (.slice A' n' c') ∧ Ext w w' :=
  copies_all _ es (Nat.le_refl _) hw A n c w h (by rw [encs_length]; have := wtAll_len es; omega)

set_option maxRecDepth 100000 in
set_option maxHeartbeats 800000 in
theorem of_any (es : List V) (hw : wtAll es ≤ 100000000) (A : Option Addr) (n c : Nat) (w : World) (h : Rd w (.sl 4 (encs es)) (.slice A n c)) :
    Calls Try.prog 61 #[.slice A n c] w fun e w' => ∃ v, e = .returned v ∧ RdV w' (New w w') (.mk 48 [] true es) v ∧ Ext w w' := by
  go_enter Try.func61, Try.ntmps61
  go_wp2_with (go_at_call 63; refine (copied_any es hw _ _ _ _ (h.ext ((Ext.refl _).alloc _))).mono ?_; rintro e w1 ⟨A1, n1, c1, rfl, hr, hx⟩; obtain ⟨⟨q0, q1, q2, q3⟩, ⟨f0, f1, f2, f3⟩⟩ := four hx.blk; have hbk := hx.blk)
  obtain ⟨h1, h2⟩ := fin4 hx (t := 48) (nst := true) (b := []) (es := es) (by omega) (RdC.nil_ 1) hr rfl
  exact bodyPost_ret (v := .agg #[.int .i64 48, .slice none 0 0, .bool true, .slice A1 n1 c1]) (by simp [results, Try.results61, go_sem, q0, q1, q2, q3]) rfl ⟨_, rfl, h1, h2⟩

set_option maxRecDepth 100000 in
set_option maxHeartbeats 800000 in
theorem rlist_any (es : List V) (hw : wtAll es ≤ 100000000) (A : Option Addr) (n c : Nat) (w : World) (h : Rd w (.sl 4 (encs es)) (.slice A n c)) :
    Calls Try.prog 54 #[.slice A n c] w fun e w' => ∃ v, e = .returned v ∧ RdV w' (New w w') (.mk 48 [] true es) v ∧ Ext w w' := by
  go_enter Try.func54, Try.ntmps54
  go_wp2_with (go_at_call 64; refine (copies_any es hw _ _ _ _ (h.ext ((Ext.refl _).alloc _))).mono ?_; rintro e w1 ⟨A1, n1, c1, rfl, hr, hx⟩; obtain ⟨⟨q0, q1, q2, q3⟩, ⟨f0, f1, f2, f3⟩⟩ := four hx.blk; have hbk := hx.blk)
  obtain ⟨h1, h2⟩ := fin4 hx (t := 48) (nst := true) (b := []) (es := es) (by omega) (RdC.nil_ 1) hr rfl
  exact bodyPost_ret (v := .agg #[.int .i64 48, .slice none 0 0, .bool true, .slice A1 n1 c1]) (by simp [results, Try.results54, go_sem, q0, q1, q2, q3]) rfl ⟨_, rfl, h1, h2⟩

set_option maxRecDepth 100000 in
set_option maxHeartbeats 800000 in
theorem list_any (es : List V) (hw : wtAll es ≤ 100000000) (A : Option Addr) (n c : Nat) (w : World) (h : Rd w (.sl 4 (encs es)) (.slice A n c)) :
    Calls Try.prog 32 #[.slice A n c] w fun e w' => ∃ v, e = .returned v ∧ RdV w' (New w w') (.mk 48 [] true es) v ∧ Ext w w' := by
  go_enter Try.func32, Try.ntmps32
  go_wp2_with (go_at_call 61; refine (of_any es hw _ _ _ _ (h.ext ((Ext.refl _).alloc _))).mono ?_; rintro e w1 ⟨v1, rfl, hr, hx⟩; obtain ⟨vb, ve, rfl, -, hrb, hre⟩ := hr; obtain ⟨A1, n1, c1, rfl, -⟩ := RdC.slice hrb; obtain ⟨A2, n2, c2, rfl, -⟩ := RdC.slice hre; obtain ⟨⟨q0, q1, q2, q3⟩, ⟨f0, f1, f2, f3⟩⟩ := four hx.blk; have hbk := hx.blk)
  obtain ⟨h1, h2⟩ := fin4 hx (t := 48) (nst := true) (b := []) (es := es) (by omega) hrb hre rfl
  exact bodyPost_ret (v := .agg #[.int .i64 48, .slice A1 n1 c1, .bool true, .slice A2 n2 c2]) (by simp [results, Try.results32, go_sem, q0, q1, q2, q3]) rfl ⟨_, rfl, h1, h2⟩

end Go.Proofs.Ythohienbmhohjaa
