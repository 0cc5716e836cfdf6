/- The walks: some numbers, drawn. -/
import Derived.Test.YthjgcmifggdepaaH21
set_option linter.unusedSimpArgs false
set_option linter.unusedVariables false
namespace Go.Proofs.Ythjgcmifggdepaa
open Go.RowKit

/-- append of flat elements to a row of one's own, in whatever world. -/
theorem wpList_appG {P : Program} {T S : Nat → Prop} {w : World} {t e : TypeId} {sz bytes base : Nat} (H : SlT P t e sz bytes) {ops : Array Oper} {rest : List Oper} {o : Oper} {a : Act} {Q : Exit → Act → World → Prop} (hgd : o.guard = none) (s x : Operand)
    (ho : o.op = .call { callee := .builtin .append, args := #[s, x], argTypes := #[t, t] }) {v : Value} {cs : List C} (hb : base ≤ w.heap.size) (hown : OwnT T w base e sz v cs) (hs : a.eval s = v)
    {A : Option Addr} {m c : Nat} {cs' : List C} (hx : a.eval x = .slice A m c) (hr : RdC w S (.sl sz cs') (.slice A m c)) (hf : ∀ c ∈ cs', flatC c = true) (hlen : (cs.length + cs'.length) * bytes ≤ 140737488355328)
    (h : ∀ A' n' c' w', OwnT T w' base e sz (.slice A' n' c') (cs ++ cs') → w.grownBy w' v.ownBlock → wpList P ops Q rest (a.put o.dst (.slice A' n' c')) w') :
    wpList P ops Q (o :: rest) a w := by
  obtain ⟨us', hl', hu', hc'⟩ := RdC.vals hr
  obtain ⟨i, z, h1, h2, h3, h4, h5⟩ := H.hi
  obtain ⟨v', w', hrun, g1, g2, g3⟩ := run_append_T (P := P) w base t o.type e i z sz bytes H.ht h1 h2 h3 h4 h5 H.hsz v cs hown A m c cs' us' hl' (fun hm => by obtain ⟨ad, e1, _, e3⟩ := hc' hm; exact ⟨ad, e1, e3⟩) (hu'.flat_any hf) hlen H.hby hb
  obtain ⟨A', n', c', rfl, _⟩ := g1.shape
  refine wpList_plain hgd fun _ hK => ?_
  unfold Oper.wp execOp
  simp only [ho, resolve, invoke, builtin, Sem.run_bind, Sem.run_pure, Result.andThen_ok, List.map_toArray, List.map_cons, List.map_nil, hs, hx, hrun]
  exact hK _ _ (h A' n' c' w' g1 g2)
theorem ExtD.size' {g : Nat} {a b : World} (h : ExtD g a b) : a.heap.size ≤ b.heap.size := h.size
/-- Ascending numbers of a range. -/
def Asc (lo hi : Int) (l : List Int) : Prop := l.Pairwise (· < ·) ∧ ∀ x ∈ l, lo ≤ x ∧ x ≤ hi
theorem Asc.snoc {lo hi x : Int} {l : List Int} (h : Asc lo hi l) (h1 : hi < x) (h2 : lo ≤ x) : Asc lo x (l ++ [x]) := by
  refine ⟨List.pairwise_append.2 ⟨h.1, by simp, fun a ha b hb => ?_⟩, fun y hy => ?_⟩
  · have := h.2 a ha
    simp at hb
    omega
  · rcases List.mem_append.1 hy with hy | hy
    · have := h.2 y hy; omega
    · simp at hy; omega
theorem Asc.up {lo hi hi' : Int} {l : List Int} (h : Asc lo hi l) (h1 : hi ≤ hi') : Asc lo hi' l := ⟨h.1, fun x hx => by have := h.2 x hx; omega⟩
theorem Asc.dist {lo hi : Int} : ∀ (l seen : List Int), l.Pairwise (· < ·) → (∀ x ∈ l, lo ≤ x ∧ x ≤ hi) → (∀ x ∈ l, x ∉ seen) → distB lo hi seen l = true
  | [], _, _, _, _ => by rw [distB]
  | x :: l, seen, h1, h2, h3 => by
    obtain ⟨g1, g2⟩ := List.pairwise_cons.1 h1
    have := h2 x (by simp)
    rw [distB, decide_eq_true this.1, decide_eq_true this.2, Asc.dist l (seen ++ [x]) g2 (fun y hy => h2 y (by simp [hy])) (fun y hy hm => by
      rcases List.mem_append.1 hm with hm | hm
      · exact h3 y (by simp [hy]) hm
      · have := g1 y hy; simp at hm; omega)]
    have hx : seen.contains x = false := by rw [List.contains_eq_mem, decide_eq_false (h3 x (by simp))]
    rw [hx]
    rfl

set_option maxRecDepth 100000 in
set_option maxHeartbeats 800000 in
theorem dsome_any (g : Nat) (lo hi : Nat) (hlh : lo ≤ hi) (hhi : hi ≤ 1000) (w : World) (h : Dice w g) :
    Calls Try.prog 30 #[.pointer (some { block := g, off := 0 }), .int .i64 (lo : Nat), .int .i64 (hi : Nat)] w fun e w' => ∃ (out : List Int) (A : Option Addr) (n c : Nat), e = .returned (.slice A n c) ∧ Asc lo hi out ∧ n ≤ hi + 1 - lo ∧ OwnT (fun _ => False) w' w.heap.size 3 1 (.slice A n c) (intsC out) ∧ Dice w' g ∧ ExtD g w w' := by
  have hg := h.lt
  go_enter Try.func30, Try.ntmps30
  go_wp2
  go_loopw [7, 8] (fun o i wr => ∃ (k : Nat) (out : List Int) (A : Option Addr) (n c : Nat), o = .slice A n c ∧ i = .int .i64 (k : Nat) ∧ lo ≤ k ∧ k ≤ hi + 1 ∧ n + lo ≤ k ∧ Hid (Asc lo ((k : Int) - 1) out) ∧ OwnT (fun _ => False) wr w.heap.size 3 1 (.slice A n c) (intsC out) ∧ Dice wr g ∧ ExtD g w wr) (fun _ i _ => hi + 1 - (intOf i).toNat)
  case atStart => exact ⟨lo, [], none, 0, 0, rfl, rfl, by omega, by omega, by omega, ⟨by simp, by simp⟩, OwnT.nil_ _ _ _ _ _, h, ExtD.refl _ _⟩
  case round =>
    obtain ⟨k, out, A, n, c, rfl, rfl, hlk, hkh, hnk, HA, hown, hD, hx⟩ := hrel
    have hno := (RdC.len hown.rd).1
    rw [intsC_length] at hno
    have HNO := Lib.hid hno
    clear hno
    by_cases hle : k ≤ hi
    · go_wp2_with (first
        | (go_at_call 21; refine (dnext_any g _ (by omega) (by omega) _ (by exact hD)).mono ?_; rintro e w1 ⟨r, rfl, hr, hD1, hx1⟩; have hown1 := hown.dice hg (fun _ h => h.elim) hx1)
        | (at_builtin; refine wpList_appG (T := fun _ => False) (base := w.heap.size) sl22 (by rfl) _ _ (by rfl) (by have := hx.size; have := hx1.size; simp; omega) (by exact hown1.ext ((Ext.refl _).alloc _)) (by rfl) (by rfl) (by exact int_lit (x := (k : Nat)) (Ext.refl w1) (by omega)) (intsC_flat _) (by simp only [intsC_length, List.length_singleton, HNO.out]; omega) ?_; intro A3 n3 c3 w3 hown3 hgr3))
      · rw [← intsC_append] at hown3
        have hn3 := (RdC.len hown3.rd).1
        rw [intsC_length, List.length_append, HNO.out] at hn3
        have hgs : ∀ q, (Value.slice A n c).ownBlock = some q → w.heap.size ≤ q := fun q hq => (hown1.base_le q hq).1
        go_roundw
        case rel => exact ⟨k + 1, _, A3, n3, c3, rfl, by go_num, by omega, by omega, by simp at hn3; omega, by show Asc _ _ _; have := HA.out.snoc (x := (k : Int)) (by omega) (by omega); simpa using this, hown3, (hD1.alloc _).grown hgr3 (fun q hq => by have := hgs q hq; omega), ((hx.trans hx1).alloc _).grown hgr3 hgs⟩
        case measure => simp [intOf]; omega
      · go_roundw
        case rel => exact ⟨k + 1, out, A, n, c, rfl, by go_num, by omega, by omega, by omega, by show Asc _ _ _; exact HA.out.up (by omega), hown1, hD1, hx.trans hx1⟩
        case measure => simp [intOf]; omega
    · go_wp2
      go_ret
      exact ⟨out, A, n, c, ret_val rfl, HA.out.up (by omega), by omega, hown, hD, hx⟩
end Go.Proofs.Ythjgcmifggdepaa
