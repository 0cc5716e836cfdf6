/- The elements of DER as plain data, and what a value in memory reads as. -/
import Derived.Test.YthohienbmhohjaaBase
namespace Go.Proofs.Ythohienbmhohjaa
open Go.RowKit

inductive V where
  | mk (t : Int) (b : List UInt8) (n : Bool) (es : List V)

def bytesC (l : List UInt8) : List C := l.map fun x => .int .u8 x.toNat
mutual
def V.enc : V → List C
  | .mk t b n es => [.int .i64 t, .sl 1 (bytesC b), .bool n, .sl 4 (encs es)]
def encs : List V → List C
  | [] => []
  | v :: vs => v.enc ++ encs vs
end
theorem V.enc_length (d : V) : d.enc.length = 4 := by cases d; simp [V.enc]
theorem encs_length : ∀ es : List V, (encs es).length = es.length * 4
  | [] => rfl
  | v :: vs => by rw [encs, List.length_append, V.enc_length, encs_length vs, List.length_cons]; omega
theorem encs_append : ∀ a b : List V, encs (a ++ b) = encs a ++ encs b
  | [], b => rfl
  | v :: vs, b => by rw [List.cons_append, encs, encs, encs_append vs b, List.append_assoc]
theorem encs_at : ∀ (es : List V) (k : Nat) (d : V), es[k]? = some d → ∀ j, j < 4 → (encs es)[k * 4 + j]? = d.enc[j]?
  | [], _, _, h, _, _ => by simp at h
  | v :: vs, 0, d, h, j, hj => by
    simp at h
    subst h
    rw [encs, List.getElem?_append_left (by rw [V.enc_length]; omega)]
    simp
  | v :: vs, k + 1, d, h, j, hj => by
    rw [encs, List.getElem?_append_right (by rw [V.enc_length]; omega), V.enc_length, show (k + 1) * 4 + j - 4 = k * 4 + j by omega]
    exact encs_at vs k d (by simpa using h) j hj

/-- A struct's value. -/
def RdV (w : World) (S : Nat → Prop) : V → Value → Prop
  | .mk t b n es, v => ∃ vb ve, v = .agg #[.int .i64 t, vb, .bool n, ve] ∧ (-9223372036854775808 ≤ t ∧ t ≤ 9223372036854775807) ∧ RdC w S (.sl 1 (bytesC b)) vb ∧ RdC w S (.sl 4 (encs es)) ve

section
variable {w w' : World} {S S' : Nat → Prop}
theorem RdV.keep_ {d : V} {v : Value} (h : RdV w S d v) (hk : ∀ b, S b → w'.heap[b]? = w.heap[b]?) (hm : ∀ b, S b → S' b) : RdV w' S' d v := by
  cases d
  obtain ⟨vb, ve, h1, h2, h3, h4⟩ := h
  exact ⟨vb, ve, h1, h2, RdC.keep_ hk hm _ _ h3, RdC.keep_ hk hm _ _ h4⟩
theorem RdV.up {B : Nat} {c : V} {v : Value} (h : RdV w (lt B) c v) (hb : Below B w w') (hB : B ≤ w'.heap.size) : RdV w' (lt w'.heap.size) c v :=
  h.keep_ (fun b h => hb.block b h) (fun _ h => Nat.lt_of_lt_of_le h hB)

def RdVal (w : World) (d : V) (v : Value) : Prop := RdV w (lt w.heap.size) d v
theorem RdVal.ext {d : V} {v : Value} (h : RdVal w d v) (e : Ext w w') : RdVal w' d v := RdV.up h e e.size

theorem RdV.new_rd {d : V} {v : Value} (h : RdV w' (New w w') d v) : RdVal w' d v := h.keep_ (fun _ _ => rfl) fun _ hb => hb.2
theorem RdV.new_ext {d : V} {v : Value} {w w1 w2 : World} (h : RdV w1 (New w w1) d v) (hx : Ext w1 w2) : RdV w2 (New w w2) d v := h.keep_ (fun b hb => hx.block b hb.2) (fun b hb => ⟨hb.1, Nat.lt_of_lt_of_le hb.2 hx.size⟩)
theorem RdV.new_back {d : V} {v : Value} {w0 w w1 : World} (h : RdV w1 (New w w1) d v) (hx : Ext w0 w) : RdV w1 (New w0 w1) d v := h.keep_ (fun _ _ => rfl) fun _ hb => ⟨Nat.le_trans hx.size hb.1, hb.2⟩
theorem RdV.mk_ {t : Int} {b : List UInt8} {nst : Bool} {es : List V} {vb ve : Value} (ht : -9223372036854775808 ≤ t ∧ t ≤ 9223372036854775807)
    (hb : RdC w S (.sl 1 (bytesC b)) vb) (he : RdC w S (.sl 4 (encs es)) ve) : RdV w S (.mk t b nst es) (.agg #[.int .i64 t, vb, .bool nst, ve]) := ⟨vb, ve, rfl, ht, hb, he⟩
theorem RdVal.opened {t : Int} {b : List UInt8} {nst : Bool} {es : List V} {v : Value} (h : RdVal w (.mk t b nst es) v) :
    ∃ Ab nb cb Ae ne ce, v = .agg #[.int .i64 t, .slice Ab nb cb, .bool nst, .slice Ae ne ce] ∧ (-9223372036854775808 ≤ t ∧ t ≤ 9223372036854775807) ∧
      Rd w (.sl 1 (bytesC b)) (.slice Ab nb cb) ∧ Rd w (.sl 4 (encs es)) (.slice Ae ne ce) ∧ Hid (b.length = nb) ∧ Hid (es.length = ne) ∧
      (nb ≤ cb ∧ cb ≤ 9223372036854775807) ∧ (ne ≤ ce ∧ ce ≤ 9223372036854775807) := by
  obtain ⟨vb, ve, rfl, ht, hb, he⟩ := h
  obtain ⟨Ab, nb, cb, rfl, -⟩ := RdC.slice hb
  obtain ⟨Ae, ne, ce, rfl, -⟩ := RdC.slice he
  have h1 := RdC.len hb
  have h2 := RdC.len he
  rw [encs_length] at h2
  have h3 : (bytesC b).length = b.length := by simp [bytesC]
  unfold maxLen at h1 h2
  exact ⟨Ab, nb, cb, Ae, ne, ce, rfl, ht, hb, he, (by show b.length = nb; omega), (by show es.length = ne; omega), by omega, by omega⟩
theorem RdVal.mk {t : Int} {b : List UInt8} {nst : Bool} {es : List V} {vb ve : Value} (ht : -9223372036854775808 ≤ t ∧ t ≤ 9223372036854775807)
    (hb : Rd w (.sl 1 (bytesC b)) vb) (he : Rd w (.sl 4 (encs es)) ve) : RdVal w (.mk t b nst es) (.agg #[.int .i64 t, vb, .bool nst, ve]) := ⟨vb, ve, rfl, ht, hb, he⟩
/-- The four cells of an element of a list. -/
theorem Rd.elem {es : List V} {n cap : Nat} {A : Option Addr} (h : Rd w (.sl 4 (encs es)) (.slice A n cap)) {k : Nat} (hk : k < n) :
    ∃ ad t b nst es' Ab nb cb Ae ne ce, A = some ad ∧ ad.block < w.heap.size ∧ es[k]? = some (.mk t b nst es') ∧ RdVal w (.mk t b nst es') (.agg #[.int .i64 t, .slice Ab nb cb, .bool nst, .slice Ae ne ce]) ∧
      w.cell? (ad.add (k * 4)) = some (.int .i64 t) ∧ w.cell? { block := (ad.add (k * 4)).block, off := (ad.add (k * 4)).off + 1 } = some (.slice Ab nb cb) ∧ w.cell? { block := (ad.add (k * 4)).block, off := (ad.add (k * 4)).off + 2 } = some (.bool nst) ∧ w.cell? { block := (ad.add (k * 4)).block, off := (ad.add (k * 4)).off + 3 } = some (.slice Ae ne ce) := by
  have hl := (RdC.len h).1
  rw [encs_length] at hl
  obtain ⟨ad, hA, hS, hc⟩ := RdC.cells h (by omega)
  have hk' : k < es.length := by omega
  obtain ⟨⟨t, b, nst, es'⟩, hd⟩ : ∃ d, es[k]? = some d := ⟨_, List.getElem?_eq_getElem hk'⟩
  have e := encs_at es k _ hd
  obtain ⟨u0, c0, r0⟩ := hc (k * 4 + 0) (.int .i64 t) ((e 0 (by omega)).trans rfl)
  obtain ⟨u1, c1, r1⟩ := hc (k * 4 + 1) (.sl 1 (bytesC b)) ((e 1 (by omega)).trans rfl)
  obtain ⟨u2, c2, r2⟩ := hc (k * 4 + 2) (.bool nst) ((e 2 (by omega)).trans rfl)
  obtain ⟨u3, c3, r3⟩ := hc (k * 4 + 3) (.sl 4 (encs es')) ((e 3 (by omega)).trans rfl)
  obtain ⟨rfl, hb⟩ := r0.int_
  have := r2.bool_
  subst this
  have hv : RdVal w (.mk t b nst es') (.agg #[.int .i64 t, u1, .bool nst, u3]) := RdVal.mk hb r1 r3
  obtain ⟨Ab, nb, cb, Ae, ne, ce, ev, -⟩ := hv.opened
  simp only [Value.agg.injEq, Array.mk.injEq, List.cons.injEq] at ev
  obtain ⟨-, rfl, -, rfl, -⟩ := ev
  refine ⟨ad, t, b, nst, es', Ab, nb, cb, Ae, ne, ce, hA, hS, hd, hv, c0, ?_, ?_, ?_⟩
  · rw [← add_add'] at c1; exact c1
  · rw [← add_add'] at c2; exact c2
  · rw [← add_add'] at c3; exact c3
end
/-- A list whose first k are all. -/
theorem take_all {α : Type} {l : List α} {n k : Nat} (h : Hid (l.length = n)) (hk : ¬ k < n) : l.take k = l := List.take_of_length_le (by have := h.out; omega)
end Go.Proofs.Ythohienbmhohjaa
