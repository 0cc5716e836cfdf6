/- What an element that came in reads as, in this seat's words. -/
import Derived.Test.YthohienbmhohjaaArgs
import Derived.Test.YthohienbmhohjaaW1
import Derived.Test.YthohienbmhohjaaBase2
import Derived.ChangeArms
import Derived.ChangeSlices
import Derived.DataReads
namespace Go.Proofs.Ythohienbmhohjaa
open Go.RowKit Go.ChangeShapes Go.WideShapes

theorem list4 {α : Type} {l : List α} (h : l.length = 4) : ∃ a b c d, l = [a, b, c, d] := by
  match l, h with
  | [a, b, c, d], _ => exact ⟨a, b, c, d, rfl⟩
theorem some_of_lt {α : Type} {l : List α} {i n : Nat} (h : l.length = n) (hi : i < n) : ∃ x, l[i]? = some x := ⟨l[i]'(by omega), List.getElem?_eq_getElem (by omega)⟩
/-- A list out of single elements. -/
theorem list_of (n : Nat) (P : Nat → V → Prop) (h : ∀ i, i < n → ∃ d, P i d) : ∃ es : List V, es.length = n ∧ ∀ i d, es[i]? = some d → P i d := by
  induction n with
  | zero => exact ⟨[], rfl, fun i d h => by simp at h⟩
  | succ n ih =>
    obtain ⟨es, h1, h2⟩ := ih fun i hi => h i (by omega)
    obtain ⟨d, hd⟩ := h n (by omega)
    refine ⟨es ++ [d], by simp [h1], fun i d' hi => ?_⟩
    rw [List.getElem?_append] at hi
    split at hi
    · exact h2 i d' hi
    · rename_i hn
      have : i - es.length = 0 := by
        rcases Nat.eq_zero_or_pos (i - es.length) with h0 | h0
        · exact h0
        · rw [List.getElem?_eq_none (by simp; omega)] at hi; cases hi
      rw [this] at hi
      simp at hi
      subst hi
      have e : i = n := by omega
      rw [e]; exact hd

theorem bytes_rd {H : Type} {enc : TypeId × Value → H} {w : World} {fuel : Nat} {c : Value} {x : DataW H × List MemPlace} (h : DataW.trod enc Try.prog w 0 (fun _ => true) true fuel 22 [c] = some x) : ∃ l : List UInt8, Rd w (.sl 1 (bytesC l)) c := by
  rcases open_ints Try.underlying22 Try.underlying5 (by kernel_rfl) h with ⟨hcs, _⟩ | ⟨a, l, cp, zs, hcs, _, hl, hm, hz, _, hcell, hwz⟩
  · injection hcs with h1 _
    subst h1
    exact ⟨[], RdC.nil_ 1⟩
  · injection hcs with h1 _
    subst h1
    exact row_bytes (zs := zs) (.inr ⟨a, rfl, hl, hm, by simpa using hz, hcell, hwz⟩)

/-- An element that came in. -/
theorem trod_v {H : Type} {enc : TypeId × Value → H} {w : World} : ∀ (k fuel : Nat), fuel ≤ k → ∀ (cs : List Value) (x : DataW H × List MemPlace), DataW.trod enc Try.prog w 0 (fun _ => true) true fuel 29 cs = some x →
    ∃ (d : V) (t : Int) (v1 : Value) (nst : Bool) (v3 : Value), cs = [.int .i64 t, v1, .bool nst, v3] ∧ RdVal w d (.agg #[.int .i64 t, v1, .bool nst, v3]) := by
  intro k
  induction k with
  | zero =>
    intro fuel hf cs x h
    obtain rfl : fuel = 0 := by omega
    simp [DataW.trod] at h
  | succ k ih =>
    intro fuel hf cs x h
    obtain ⟨xs, n, rfl, -, hl, hxl, hfield⟩ := DataW.trod_struct Try.underlying29 h
    have hc4 : Try.prog.cellsOf 29 = 4 := by kernel_rfl
    have hk3 : Try.prog.cellsOf 3 = 1 := by kernel_rfl
    have hk4 : Try.prog.cellsOf 4 = 1 := by kernel_rfl
    have hk22 : Try.prog.cellsOf 22 = 1 := by kernel_rfl
    have hk27 : Try.prog.cellsOf 27 = 1 := by kernel_rfl
    rw [hc4] at hl
    obtain ⟨c0, c1, c2, c3, rfl⟩ := list4 hl
    obtain ⟨y0, e0⟩ := some_of_lt (i := 0) hxl (by simp)
    obtain ⟨y1, e1⟩ := some_of_lt (i := 1) hxl (by simp)
    obtain ⟨y2, e2⟩ := some_of_lt (i := 2) hxl (by simp)
    obtain ⟨y3, e3⟩ := some_of_lt (i := 3) hxl (by simp)
    have f0 := (hfield 0 _ rfl).trans e0
    have f1 := (hfield 1 _ rfl).trans e1
    have f2 := (hfield 2 _ rfl).trans e2
    have f3 := (hfield 3 _ rfl).trans e3
    simp [hk3, hk4, hk22, hk27] at f0 f1 f2 f3
    obtain ⟨t, ht, -, htw⟩ := DataW.trod_int Try.underlying3 f0
    obtain ⟨nst, hnst, -⟩ := DataW.trod_bool Try.underlying4 f2
    injection ht with ht _
    injection hnst with hnst _
    subst ht hnst
    obtain ⟨b, hb⟩ := bytes_rd f1
    have he : ∃ es, Rd w (.sl 4 (encs es)) c3 := by
      rcases DataW.trod_slice Try.underlying27 f3 with ⟨h0, -⟩ | ⟨a, len, cap, elems, rest, n', rfl, hcs, -, -, hlc, hcm, hel, hat, -⟩
      · injection h0 with h0 _
        subst h0
        exact ⟨[], RdC.nil_ 4⟩
      · injection hcs with hcs _
        subst hcs
        rw [hc4] at hat
        obtain ⟨es, hes, hP⟩ := list_of len (fun i d => ∃ (t : Int) (v1 : Value) (nst : Bool) (v3 : Value), RdVal w d (.agg #[.int .i64 t, v1, .bool nst, v3]) ∧ ∀ r, r < 4 → w.cell? ((a.add (i * 4)).add r) = [Value.int .i64 t, v1, .bool nst, v3][r]?) (fun i hi => by
          obtain ⟨y, hy⟩ := some_of_lt (i := i) hel hi
          have h1 := (hat i hi).trans hy
          obtain ⟨cs', h2, h3⟩ := Option.bind_eq_some_iff.1 h1
          obtain ⟨d, t, v1, nst, v3, rfl, h4⟩ := ih n' (by omega) cs' y h3
          obtain ⟨-, -, h5⟩ := World.cells?_some h2
          exact ⟨d, t, v1, nst, v3, h4, fun r hr => h5 r hr⟩)
        refine ⟨es, RdC.mk_slice (by rw [encs_length, hes]) hlc hcm fun hn => ⟨a, rfl, ?_, fun j c hj => ?_⟩⟩
        · obtain ⟨d, hd⟩ := some_of_lt (i := 0) hes hn
          obtain ⟨t, v1, nst, v3, -, h5⟩ := hP 0 d hd
          have := lt_of_cell (h5 0 (by omega))
          rwa [block_add, block_add] at this
        · have hjl := (List.getElem?_eq_some_iff.1 hj).1
          rw [encs_length] at hjl
          obtain ⟨d, hd⟩ := some_of_lt (i := j / 4) hes (by omega)
          obtain ⟨t, v1, nst, v3, h4, h5⟩ := hP (j / 4) d hd
          have h6 := encs_at es (j / 4) d hd (j % 4) (by omega)
          rw [show j / 4 * 4 + j % 4 = j by omega, hj] at h6
          have h7 := h5 (j % 4) (by omega)
          rw [add_add', show j / 4 * 4 + j % 4 = j by omega] at h7
          obtain ⟨t0, b0, n0, es0⟩ := d
          obtain ⟨vb, ve, e, ht0, hb0, he0⟩ := h4
          have hus := RdV.us (RdV.mk_ (nst := n0) ht0 hb0 he0)
          simp only [Value.agg.injEq, Array.mk.injEq] at e
          rw [e] at h7
          have hr : j % 4 < 4 := by omega
          obtain ⟨u, hu⟩ : ∃ u, [Value.int .i64 t0, vb, .bool n0, ve][j % 4]? = some u := ⟨_, List.getElem?_eq_getElem (by simp; omega)⟩
          exact ⟨u, h7.trans hu, hus.2 (j % 4) c u h6.symm hu⟩
    obtain ⟨es, he⟩ := he
    exact ⟨.mk t b nst es, t, c1, nst, c3, rfl, RdV.mk_ (i64_wf htw) hb he⟩
end Go.Proofs.Ythohienbmhohjaa
