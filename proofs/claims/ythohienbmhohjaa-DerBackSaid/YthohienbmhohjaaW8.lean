/- The walks: numbers, as the reference makes and reads them. -/
import Derived.Test.YthohienbmhohjaaW7
import Derived.Test.YthohienbmhohjaaSpec3
namespace Go.Proofs.Ythohienbmhohjaa
open Go.RowKit

theorem byteN_div (n : Int) (k : Nat) : n / 256 ^ (k + 1) % 256 = ((byteN n (k + 1)).toNat : Int) := (byteN_int n (k + 1)).symm
theorem be_last (n : Int) : (beK n 8).drop 7 = [byteN n 0] := by rw [be8]; rfl

/-- A reading in new memory, away from a block that has just been laid. -/
theorem away {w0 w : World} {o : Obj} {c : C} {v : Value} {n m : Nat} (h : RdC w (New w0 w) c v) :
    RdC (w.alloc o) (fun b => b < (w.alloc o).heap.size ∧ (Value.slice (some ⟨w.heap.size, 0, none⟩) n m).ownBlock ≠ some b) c v :=
  RdC.keep_ (fun b hb => Below.heap_alloc w o b hb.2) (fun b hb => ⟨by have := hb.2; simp; omega, by have := hb.2; simp [Value.ownBlock]; omega⟩) _ _ h

set_option maxRecDepth 100000 in
set_option maxHeartbeats 3200000 in
theorem rint_any (n : Int) (w : World) (h1 : -9223372036854775808 ≤ n) (h2 : n ≤ 9223372036854775807) :
    Calls Try.prog 19 #[.int .i64 n] w fun e w' => ∃ v, e = .returned v ∧ RdV w' (New w w') (intV n) v ∧ Ext w w' := by
  have FI := Lib.hid (fits_iff n h1 h2)
  have hb0 : RdUs (w.alloc (.cells #[.int .i64 0, .slice none 0 0, .bool false, .slice none 0 0] 29)) (fun _ => False) (bytesC [byteN n 0]) [.int .u8 (n % 256)] := by
    have e := byteN_int n 0
    simp at e
    show RdUs _ _ [.int .u8 ((byteN n 0).toNat : Int)] _
    rw [e]
    exact RdUs.int_ (u8_range (by omega))
  have hf0 := RdC.fresh (n := 1) (e := 5) (sz := 1) rfl (by simp [maxLen]) hb0 (fun _ h => h.elim) (New (w.alloc (.cells #[.int .i64 0, .slice none 0 0, .bool false, .slice none 0 0] 29)) ((w.alloc (.cells #[.int .i64 0, .slice none 0 0, .bool false, .slice none 0 0] 29)).alloc (.cells [.int .u8 (n % 256)].toArray 5))) (fun _ h => h.elim) ⟨Nat.le_refl _, by simp⟩
  have HF0 := Lib.hid hf0
  clear hf0 hb0
  go_enter Try.func19, Try.ntmps19
  go_wp2
  go_loopw [3, 4] (fun b x wr => ∃ k A m c, k ≤ 7 ∧ x = .int .i64 (n / 256 ^ (k + 1)) ∧ b = .slice A m c ∧ RdC wr (New (w.alloc (.cells #[.int .i64 0, .slice none 0 0, .bool false, .slice none 0 0] 29)) wr) (.sl 1 (bytesC ((beK n 8).drop (7 - k)))) (.slice A m c) ∧
      Ext (w.alloc (.cells #[.int .i64 0, .slice none 0 0, .bool false, .slice none 0 0] 29)) wr ∧ Hid (∀ j, 1 ≤ j → j ≤ k → fits n j = false)) (fun b _ _ => 8 - sliceLen b)
  case atStart => exact ⟨0, _, _, _, by omega, by simp, rfl, by rw [be_last]; simpa using HF0.out, (Ext.refl _).alloc _, fun j h1 h2 => absurd h1 (by omega)⟩
  case round =>
    obtain ⟨k, A, m, c, hk, rfl, rfl, hl, hx, HN⟩ := hrel
    obtain ⟨⟨q0, q1, q2, q3⟩, ⟨f0, f1, f2, f3⟩⟩ := four hx.blk
    have hl2 := hl
    rw [drop_be n k hk] at hl2
    have hm1 := (RdC.blen hl).1
    have hm : m = k + 1 := by rw [be8] at hm1; simp at hm1; omega
    clear hm1
    subst hm
    obtain ⟨ad, x, r, rfl, -, e, c0⟩ := RdC.byte0 hl2 (by omega)
    injection e with e1 e2
    subst e1
    clear hl2 e2
    have HL := Lib.hid hl
    clear hl
    have fin : ∀ (hf : fits n (k + 1) = true) w', w' = (((wr.setCell { block := w.heap.size, off := 0 } (.int .i64 2)).setCell { block := w.heap.size, off := 1 } (.slice (some ad) (k + 1) c)).setCell { block := w.heap.size, off := 2 } (.bool false)).setCell { block := w.heap.size, off := 3 } (.slice none 0 0) →
        RdV w' (New w w') (intV n) (.agg #[.int .i64 2, .slice (some ad) (k + 1) c, .bool false, .slice none 0 0]) ∧ Ext w w' := by
      intro hf w' hw
      have hs := sizeI_at n k hk HN.out hf
      have e : intB n = (beK n 8).drop (7 - k) := by rw [intB_eq n h1 h2, hs]; congr 1; omega
      have := HL.out
      rw [← e] at this
      exact fin4 hx (by omega) this (RdC.nil_ 4) hw
    have FIN := Lib.hid fin
    clear fin
    have nxt : ∀ (hf : ¬ fits n (k + 1) = true) (E : Int) (hE : E = n / 256 ^ (k + 1) % 256) A' n' c' w', Own w' (w.alloc (.cells #[.int .i64 0, .slice none 0 0, .bool false, .slice none 0 0] 29)).heap.size 5 1 (.slice A' n' c') ([.int .u8 E] ++ bytesC ((beK n 8).drop (7 - k))) →
        k + 1 ≤ 7 ∧ RdC w' (New (w.alloc (.cells #[.int .i64 0, .slice none 0 0, .bool false, .slice none 0 0] 29)) w') (.sl 1 (bytesC ((beK n 8).drop (7 - (k + 1))))) (.slice A' n' c') ∧ Hid (∀ j, 1 ≤ j → j ≤ k + 1 → fits n j = false) ∧ n' = k + 2 := by
      intro hf E hE A' n' c' w' ho
      have hk7 : k ≠ 7 := fun e => hf (by rw [e]; rfl)
      have e : [C.int .u8 E] ++ bytesC ((beK n 8).drop (7 - k)) = bytesC ((beK n 8).drop (7 - (k + 1))) := by
        rw [drop_be n (k + 1) (by omega), show 8 - (k + 1) = 7 - k by omega, hE, byteN_div]
        rfl
      rw [e] at ho
      refine ⟨by omega, ho.flat, fun j g1 g2 => ?_, ?_⟩
      · rcases Nat.lt_or_ge j (k + 1) with g | g
        · exact HN.out j g1 (by omega)
        · obtain rfl : j = k + 1 := by omega
          exact eq_false_of_ne_true hf
      · have := (RdC.blen ho.rd).1
        rw [be8] at this
        simp at this
        omega
    have NXT := Lib.hid nxt
    clear nxt
    go_wp2_with (at_builtin; refine wpList_app (a0 := (w.alloc (.cells #[.int .i64 0, .slice none 0 0, .bool false, .slice none 0 0] 29))) sl22 (by rfl) _ _ (by rfl) (by exact hx.alloc _) (by exact Own.made (n := 1) (us := [.int .u8 _]) (cs := [.int .u8 _]) rfl (by simp [maxLen]) (RdUs.int_ (S := fun _ => False) (u8_range (by omega))) (fun _ h => h.elim) hx.size) (by rfl) (by rfl) (by exact away HL.out) (by rw [be8]; simp [bytesC]; omega) ?_; intro A1 n1 c1 w1 hown1 hx1 _ _)
    · have g0 : ¬ n / 256 ^ (k + 1) = 0 := ‹_›
      have g1 : ¬ n / 256 ^ (k + 1) = -1 := ‹_›
      obtain ⟨r1, r2, r3, r4⟩ := NXT.out (fun h => by rcases (FI.out k hk).1 h with ⟨e, _⟩ | ⟨e, _⟩; exact g0 e; exact g1 e) _ rfl _ _ _ _ hown1
      clear g0 g1
      go_roundw
      case rel => exact ⟨k + 1, _, _, _, r1, by rw [div_succ], rfl, r2, hx1, r3⟩
      case measure => simp [sliceLen]; omega
    · have g1 : n / 256 ^ (k + 1) = -1 := ‹_›
      have g2 : ((byteN n k).toNat : Int) < 128 := ‹_›
      obtain ⟨r1, r2, r3, r4⟩ := NXT.out (fun h => by rcases (FI.out k hk).1 h with ⟨e, _⟩ | ⟨_, e⟩ <;> omega) _ (by rw [g1]; rfl) _ _ _ _ hown1
      have G1 : Hid (n / 256 ^ (k + 1) = -1) := g1
      clear g1
      go_roundw
      case rel => exact ⟨k + 1, _, _, _, r1, by rw [← div_succ, G1.out]; rfl, rfl, r2, hx1, r3⟩
      case measure => simp [sliceLen]; omega
    · exact bodyPost_ret (v := .agg #[.int .i64 2, .slice (some ad) (k + 1) c, .bool false, .slice none 0 0]) (by simp [results, Try.results19, go_sem, q0, q1, q2, q3]) rfl ⟨_, rfl, FIN.out ((FI.out k hk).2 (.inr ⟨‹_›, ‹_›⟩)) _ rfl⟩
    · have g1 : n / 256 ^ (k + 1) = 0 := ‹_›
      have g2 : (128 : Int) ≤ ((byteN n k).toNat : Int) := ‹_›
      obtain ⟨r1, r2, r3, r4⟩ := NXT.out (fun h => by rcases (FI.out k hk).1 h with ⟨_, e⟩ | ⟨e, _⟩ <;> omega) _ (by rw [g1]; rfl) _ _ _ _ hown1
      have G1 : Hid (n / 256 ^ (k + 1) = 0) := g1
      clear g1
      go_roundw
      case rel => exact ⟨k + 1, _, _, _, r1, by rw [← div_succ, G1.out]; rfl, rfl, r2, hx1, r3⟩
      case measure => simp [sliceLen]; omega
    · exact bodyPost_ret (v := .agg #[.int .i64 2, .slice (some ad) (k + 1) c, .bool false, .slice none 0 0]) (by simp [results, Try.results19, go_sem, q0, q1, q2, q3]) rfl ⟨_, rfl, FIN.out ((FI.out k hk).2 (.inl ⟨‹_›, ‹_›⟩)) _ rfl⟩
end Go.Proofs.Ythohienbmhohjaa
