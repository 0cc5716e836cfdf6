/- Chapter 11, plain: Prefix of both; the chapter's example. -/
import Derived.Test.YtfkgbfhpibiheaaZ7
import Derived.KernelRfl
set_option linter.unusedVariables false
set_option linter.unusedSimpArgs false
set_option maxRecDepth 100000
namespace Go.Proofs.Ytfkgbfhpibiheaa
open Go
def Bd (b : Bts) (n k : Nat) : Prop := k < n ∧ b.take k <:+ b.take n
def LgB (b : Bts) (n k : Nat) : Prop := Bd b n k ∧ ∀ m, Bd b n m → m ≤ k
theorem LgB.uniq {b : Bts} {n k m : Nat} (h : LgB b n k) (h' : LgB b n m) : k = m := Nat.le_antisymm (h'.2 k h.1) (h.2 m h'.1)
def PrL (b : Bts) (r : List Int) : Prop := r.length = b.length ∧ ∀ n, 1 ≤ n → n ≤ b.length → ∃ k : Nat, r[n - 1]? = some (k : Int) ∧ LgB b n k
theorem PrL.uniq {b : Bts} {r s : List Int} (h : PrL b r) (k : PrL b s) : r = s := by
  refine List.ext_getElem? fun i => ?_
  rcases Nat.lt_or_ge i b.length with hi | hi
  · obtain ⟨x, h1, h2⟩ := h.2 (i + 1) (by omega) hi
    obtain ⟨y, k1, k2⟩ := k.2 (i + 1) (by omega) hi
    rw [Nat.add_sub_cancel] at h1 k1
    rw [h1, k1, h2.uniq k2]
  · rw [List.getElem?_eq_none (by rw [h.1]; exact hi), List.getElem?_eq_none (by rw [k.1]; exact hi)]
section
variable {b : Bts}
theorem Bd.zero {n : Nat} (h : 0 < n) : Bd b n 0 := ⟨h, by rw [List.take_zero]; exact List.nil_suffix⟩
theorem Bd.succ {n k : Nat} {x y : UInt8} (hx : b[n]? = some x) (hy : b[k]? = some y) : Bd b (n + 1) (k + 1) ↔ Bd b n k ∧ y = x := by
  unfold Bd
  rw [take_succ' hx, take_succ' hy]
  constructor
  · rintro ⟨h1, h2⟩
    obtain ⟨v, h3, h4⟩ := suf_snoc h2 (by simp)
    rw [snoc_eq] at h3
    exact ⟨⟨by omega, by rw [h3.1]; exact h4⟩, h3.2⟩
  · rintro ⟨⟨h1, h2⟩, rfl⟩
    exact ⟨by omega, snoc_suf h2⟩
theorem Bd.inner {n k m : Nat} (hn : n ≤ b.length) (h : Bd b n k) (h' : Bd b n m) (hm : m < k) : Bd b k m := by
  refine ⟨hm, List.suffix_of_suffix_length_le h'.2 h.2 ?_⟩
  rw [List.length_take, List.length_take]
  omega
theorem Bd.trans {n k m : Nat} (h : Bd b n k) (h' : Bd b k m) : Bd b n m := ⟨Nat.lt_trans h'.1 h.1, h'.2.trans h.2⟩
theorem Bd.at_ {n k : Nat} (hn : n ≤ b.length) : Bd b n k ↔ k < n ∧ (b.drop (n - k)).take k = b.take k := by
  unfold Bd
  constructor
  · rintro ⟨h1, h2⟩
    have := (suf_at hn).1 h2
    rw [List.length_take, Nat.min_eq_left (by omega)] at this
    exact ⟨h1, this.2⟩
  · rintro ⟨h1, h2⟩
    refine ⟨h1, (suf_at hn).2 ?_⟩
    rw [List.length_take, Nat.min_eq_left (by omega)]
    exact ⟨by omega, h2⟩
theorem prefix_ok (hb : b.length ≤ 4096) : Ok (g_pattern_Prefix b) (PrL b) := by
  unfold g_pattern_Prefix
  refine Ok.bindE (a := List.replicate b.length (0 : Int)) (by
    unfold makI
    rw [if_pos (by omega), Int.toNat_natCast]) ?_
  refine Ok.loop (fun t => ∃ i : Nat, t.1 = (i : Int) ∧ 1 ≤ i ∧ (i ≤ b.length ∨ i = 1) ∧ t.2.length = b.length ∧ ∀ n, 1 ≤ n → n ≤ i → n ≤ b.length → ∃ k : Nat, t.2[n - 1]? = some (k : Int) ∧ LgB b n k) (fun t => b.length - t.1.toNat) ?_ ⟨1, rfl, Nat.le_refl _, .inr rfl, by simp, fun n h1 h2 h3 => ?_⟩
  · rintro ⟨x, out⟩ ⟨i, h1, h2, h3, h4, h5⟩
    simp only at h1 h4 h5 ⊢
    subst h1
    unfold g_pattern_Prefix.l1
    refine Ok.cond (fun hlt => ?_) fun hge => ?_
    · have hi : i < b.length := by simp at hlt; exact hlt
      obtain ⟨k0, a1, a2⟩ := h5 i h2 (Nat.le_refl _) (by omega)
      have hbi : b[i]? = some b[i] := List.getElem?_eq_getElem hi
      generalize b[i] = c at hbi
      refine Ok.bindE (a := (k0 : Int)) (by
        rw [W_id (by omega), show (i : Int) - 1 = ((i - 1 : Nat) : Int) by omega, getI_nat]
        exact a1) ?_
      refine Ok.loop (fun z => ∃ k : Nat, z = (k : Int) ∧ Bd b i k ∧ ∀ m, Bd b (i + 1) (m + 1) → m ≤ k) (fun z => z.toNat) ?_ ⟨k0, rfl, a2.1, fun m hm => ?_⟩
      · rintro z ⟨k, rfl, c1, c2⟩
        show Ok (g_pattern_Prefix.l2 b (i : Int) out (k : Int)) _
        have hki := c1.1
        have hbk : b[k]? = some (b[k]'(by omega)) := List.getElem?_eq_getElem _
        generalize (b[k]'(by omega)) = d at hbk
        have fin : (d = c ∨ k = 0) → Ok (g_pattern_Prefix.j3 b (i : Int) out (k : Int) false) (Rd' (fun s' => (∃ k : Nat, s' = (k : Int) ∧ Bd b i k ∧ ∀ m, Bd b (i + 1) (m + 1) → m ≤ k) ∧ s'.toNat < (k : Int).toNat) (Rd' (fun s' => (∃ i : Nat, s'.1 = (i : Int) ∧ 1 ≤ i ∧ (i ≤ b.length ∨ i = 1) ∧ s'.2.length = b.length ∧ ∀ n, 1 ≤ n → n ≤ i → n ≤ b.length → ∃ k : Nat, s'.2[n - 1]? = some (k : Int) ∧ LgB b n k) ∧ b.length - s'.1.toNat < b.length - (i : Int).toNat) (PrL b))) := fun hdc => by
          unfold g_pattern_Prefix.j3
          rw [cond_false]
          refine Ok.up ?_
          refine Ok.bindE (by rw [getI_nat]; exact hbk) ?_
          refine Ok.bindE (by rw [getI_nat]; exact hbi) ?_
          have done : ∀ v : Nat, LgB b (i + 1) v → Ok (g_pattern_Prefix.j4 (i : Int) out (v : Int)) (Rd' (fun s' => (∃ i : Nat, s'.1 = (i : Int) ∧ 1 ≤ i ∧ (i ≤ b.length ∨ i = 1) ∧ s'.2.length = b.length ∧ ∀ n, 1 ≤ n → n ≤ i → n ≤ b.length → ∃ k : Nat, s'.2[n - 1]? = some (k : Int) ∧ LgB b n k) ∧ b.length - s'.1.toNat < b.length - (i : Int).toNat) (PrL b)) := fun v hv => by
            unfold g_pattern_Prefix.j4
            have ho : out[i]? = some (out[i]'(by omega)) := List.getElem?_eq_getElem _
            refine Ok.bindE (by rw [getI_nat]; exact ho) ?_
            refine Ok.ret ⟨⟨i + 1, W_succ (by omega), by omega, .inl hi, by simp [setI, h4], fun n e1 e2 e3 => ?_⟩, ?_⟩
            · show ∃ k : Nat, (setI out ((i : Int)).toNat (v : Int))[n - 1]? = some (k : Int) ∧ LgB b n k
              unfold setI
              rw [Int.toNat_natCast]
              rcases Nat.lt_or_ge n (i + 1) with h6 | h6
              · rw [List.getElem?_set_ne (by omega)]
                exact h5 n e1 (by omega) e3
              · have : n = i + 1 := by omega
                subst this
                rw [Nat.add_sub_cancel, List.getElem?_set_self (by omega)]
                exact ⟨v, rfl, hv⟩
            · show b.length - (W ((i : Int) + 1)).toNat < _
              rw [W_succ (by omega)]
              omega
          refine Ok.cond (fun he => ?_) fun hne => ?_
          · have he : d = c := by
              have he := of_decide_eq_true he
              exact UInt8.toNat_inj.1 (by omega)
            rw [W_succ (by omega)]
            refine done (k + 1) ⟨(Bd.succ hbi hbk).2 ⟨c1, he⟩, fun m hm => ?_⟩
            cases m with
            | zero => omega
            | succ m => have := c2 m hm; omega
          · have hne : d ≠ c := fun e => by
              have hne := of_decide_eq_false hne
              rw [e] at hne
              exact hne rfl
            have hk : k = 0 := hdc.resolve_left hne
            subst hk
            refine done 0 ⟨Bd.zero (by omega), fun m hm => ?_⟩
            cases m with
            | zero => omega
            | succ m =>
              have h7 := c2 m hm
              have : m = 0 := by omega
              subst this
              exact (hne ((Bd.succ hbi hbk).1 hm).2).elim
        unfold g_pattern_Prefix.l2
        refine Ok.cond (fun hpos => ?_) fun hz => fin (.inr (by have := of_decide_eq_false hz; omega))
        have hk : 0 < k := by have := of_decide_eq_true hpos; omega
        refine Ok.bindE (by rw [getI_nat]; exact hbk) ?_
        refine Ok.bindE (by rw [getI_nat]; exact hbi) ?_
        by_cases he : d = c
        · rw [show (!decide ((d.toNat : Int) = (c.toNat : Int))) = false by rw [he]; simp]
          exact fin (.inl he)
        · rw [show (!decide ((d.toNat : Int) = (c.toNat : Int))) = true by
            simp
            intro e
            exact he (UInt8.toNat_inj.1 (by omega))]
          unfold g_pattern_Prefix.j3
          rw [cond_true]
          obtain ⟨k', e1, e2⟩ := h5 k hk (by omega) (by omega)
          refine Ok.bindE (a := (k' : Int)) (by
            rw [W_id (by omega), show (k : Int) - 1 = ((k - 1 : Nat) : Int) by omega, getI_nat]
            exact e1) ?_
          refine Ok.ret ⟨⟨k', rfl, c1.trans e2.1, fun m hm => ?_⟩, ?_⟩
          · have h7 := c2 m hm
            have hml : m < b.length := by omega
            have hbm : b[m]? = some b[m] := List.getElem?_eq_getElem hml
            have h8 := (Bd.succ hbi hbm).1 hm
            have hmk : m ≠ k := by
              rintro rfl
              rw [hbk] at hbm
              injection hbm with hbm
              exact he (by rw [hbm]; exact h8.2)
            exact e2.2 m (c1.inner (by omega) h8.1 (by omega))
          · have := e2.1.1
            show (k' : Int).toNat < (k : Int).toNat
            omega
      · have hml : m < b.length := by have := hm.1; omega
        have hbm : b[m]? = some b[m] := List.getElem?_eq_getElem hml
        exact a2.2 m ((Bd.succ hbi hbm).1 hm).1
    · have hge := of_decide_eq_false hge
      exact Ok.up (Ok.ret ⟨h4, fun n e1 e2 => h5 n e1 (by omega) e2⟩)
  · have : n = 1 := by omega
    subst this
    refine ⟨0, ?_, Bd.zero (by omega), fun m hm => by have := hm.1; omega⟩
    show (List.replicate b.length (0 : Int))[0]? = _
    rw [List.getElem?_replicate, if_pos (by omega)]
    rfl
theorem ref_prefix_ok (hb : b.length ≤ 4096) : Ok (g_ref11_Prefix b) (PrL b) := by
  unfold g_ref11_Prefix
  refine Ok.loop (fun t => ∃ i : Nat, t.1 = (i : Int) ∧ 1 ≤ i ∧ i ≤ b.length + 1 ∧ t.2.length + 1 = i ∧ ∀ n, 1 ≤ n → n < i → ∃ k : Nat, t.2[n - 1]? = some (k : Int) ∧ LgB b n k) (fun t => b.length + 1 - t.1.toNat) ?_ ⟨1, rfl, Nat.le_refl _, by omega, rfl, fun n h1 h2 => absurd h2 (by omega)⟩
  rintro ⟨x, out⟩ ⟨i, h1, h2, h3, h4, h5⟩
  simp only at h1 h4 h5 ⊢
  subst h1
  unfold g_ref11_Prefix.l1
  refine Ok.cond (fun hlt => ?_) fun hge => ?_
  · have hi : i ≤ b.length := by simp at hlt; exact hlt
    have inner : ∀ k0 : Nat, k0 ≤ i → (∀ m, Bd b i m → m ≤ k0) → Ok (g_ref11_Prefix.j2 b (i : Int) out (k0 : Int)) (Rd' (fun s' => (∃ i : Nat, s'.1 = (i : Int) ∧ 1 ≤ i ∧ i ≤ b.length + 1 ∧ s'.2.length + 1 = i ∧ ∀ n, 1 ≤ n → n < i → ∃ k : Nat, s'.2[n - 1]? = some (k : Int) ∧ LgB b n k) ∧ b.length + 1 - s'.1.toNat < b.length + 1 - (i : Int).toNat) (PrL b)) := fun k0 hk0 hm0 => by
      unfold g_ref11_Prefix.j2
      refine Ok.loop (fun z => ∃ k : Nat, z = (k : Int) ∧ k ≤ i ∧ ∀ m, Bd b i m → m ≤ k) (fun z => z.toNat) ?_ ⟨k0, rfl, hk0, hm0⟩
      rintro z ⟨k, rfl, c1, c2⟩
      show Ok (g_ref11_Prefix.l3 b (i : Int) out (k : Int)) _
      have stop : LgB b i k → Ok (g_ref11_Prefix.j4 (i : Int) out (k : Int) false) (Rd' (fun s' => (∃ k : Nat, s' = (k : Int) ∧ k ≤ i ∧ ∀ m, Bd b i m → m ≤ k) ∧ s'.toNat < (k : Int).toNat) (Rd' (fun s' => (∃ i : Nat, s'.1 = (i : Int) ∧ 1 ≤ i ∧ i ≤ b.length + 1 ∧ s'.2.length + 1 = i ∧ ∀ n, 1 ≤ n → n < i → ∃ k : Nat, s'.2[n - 1]? = some (k : Int) ∧ LgB b n k) ∧ b.length + 1 - s'.1.toNat < b.length + 1 - (i : Int).toNat) (PrL b))) := fun hL => by
        unfold g_ref11_Prefix.j4
        rw [cond_false]
        refine Ok.up ?_
        refine Ok.bindE (appI_ok (by rw [List.length_singleton]; omega)) ?_
        refine Ok.ret ⟨⟨i + 1, W_succ (by omega), by omega, by omega, by simp; omega, fun n e1 e2 => ?_⟩, ?_⟩
        · show ∃ k' : Nat, (out ++ [(k : Int)])[n - 1]? = some (k' : Int) ∧ LgB b n k'
          rcases Nat.lt_or_ge n i with h6 | h6
          · rw [List.getElem?_append_left (by omega)]
            exact h5 n e1 h6
          · have : n = i := by omega
            subst this
            rw [List.getElem?_append_right (by omega), show n - 1 - out.length = 0 by omega]
            exact ⟨k, rfl, hL⟩
        · show b.length + 1 - (W ((i : Int) + 1)).toNat < _
          rw [W_succ (by omega)]
          omega
      have more : 0 < k → ¬ Bd b i k → Ok (g_ref11_Prefix.j4 (i : Int) out (k : Int) true) (Rd' (fun s' => (∃ k : Nat, s' = (k : Int) ∧ k ≤ i ∧ ∀ m, Bd b i m → m ≤ k) ∧ s'.toNat < (k : Int).toNat) (Rd' (fun s' => (∃ i : Nat, s'.1 = (i : Int) ∧ 1 ≤ i ∧ i ≤ b.length + 1 ∧ s'.2.length + 1 = i ∧ ∀ n, 1 ≤ n → n < i → ∃ k : Nat, s'.2[n - 1]? = some (k : Int) ∧ LgB b n k) ∧ b.length + 1 - s'.1.toNat < b.length + 1 - (i : Int).toNat) (PrL b))) := fun hk hno => by
        unfold g_ref11_Prefix.j4
        rw [cond_true]
        refine Ok.ret ⟨⟨k - 1, ?_, by omega, fun m hm => ?_⟩, ?_⟩
        · rw [W_id (by omega)]; omega
        · have := c2 m hm
          have : m ≠ k := by rintro rfl; exact hno hm
          omega
        · show (W ((k : Int) - 1)).toNat < (k : Int).toNat
          rw [W_id (by omega)]
          omega
      unfold g_ref11_Prefix.l3
      refine Ok.cond (fun hpos => ?_) fun hz => stop ⟨?_, c2⟩
      · have hk : 0 < k := by have := of_decide_eq_true hpos; omega
        refine Ok.cond (fun hki => ?_) fun hki => more hk fun h => by have := of_decide_eq_false hki; have := h.1; omega
        have hki : k < i := by have := of_decide_eq_true hki; omega
        refine Ok.bindE (a := b.take k) (by
          unfold slI
          rw [if_pos (by omega)]
          simp) ?_
        refine Ok.bindE (a := (b.drop (i - k)).take k) (by
          rw [W_id (by omega), show (i : Int) - (k : Int) = ((i - k : Nat) : Int) by omega]
          unfold slI
          rw [if_pos (by omega)]
          rw [Int.toNat_natCast, Int.toNat_natCast, show i - (i - k) = k by omega]) ?_
        simp only [ofB_inj]
        by_cases he : b.take k = (b.drop (i - k)).take k
        · rw [decide_eq_true he]
          exact stop ⟨(Bd.at_ hi).2 ⟨hki, he.symm⟩, c2⟩
        · rw [decide_eq_false he]
          exact more hk fun h => he ((Bd.at_ hi).1 h).2.symm
      · have hk : k = 0 := by have := of_decide_eq_false hz; omega
        subst hk
        exact Bd.zero (by omega)
    refine Ok.cond (fun h1 => ?_) fun h1 => ?_
    · have h1 := of_decide_eq_true h1
      obtain ⟨e, a1, a2⟩ := h5 (i - 1) (by omega) (by omega)
      refine Ok.bindE (a := (e : Int)) (by
        rw [W_id (by omega), show (i : Int) - 2 = ((i - 1 - 1 : Nat) : Int) by omega, getI_nat]
        exact a1) ?_
      rw [W_succ (by have := a2.1.1; omega)]
      refine inner (e + 1) (by have := a2.1.1; omega) fun m hm => ?_
      cases m with
      | zero => omega
      | succ m =>
        have hml : m < b.length := by have := hm.1; omega
        have hx : b[i - 1]? = some (b[i - 1]'(by omega)) := List.getElem?_eq_getElem _
        have hy : b[m]? = some b[m] := List.getElem?_eq_getElem hml
        have hm' : Bd b (i - 1 + 1) (m + 1) := by rw [Nat.sub_add_cancel h2]; exact hm
        have := a2.2 m ((Bd.succ hx hy).1 hm').1
        omega
    · have h1 := of_decide_eq_false h1
      exact inner 0 (by omega) fun m hm => by have := hm.1; omega
  · have hge := of_decide_eq_false hge
    exact Ok.up (Ok.ret ⟨by omega, fun n e1 e2 => h5 n e1 (by omega)⟩)
theorem Prefix_both (hb : b.length ≤ 4096) : ∃ r, g_pattern_Prefix b = some r ∧ g_ref11_Prefix b = some r ∧ PrL b r := by
  obtain ⟨r, h1, h2⟩ := prefix_ok hb
  obtain ⟨s, h3, h4⟩ := ref_prefix_ok hb
  exact ⟨r, h1, by rw [h3, h2.uniq h4], h2⟩
end
theorem SameInts_self (a : List Int) (h : a.length ≤ 100000) : g_ref02_SameInts a a = some true := by
  unfold g_ref02_SameInts
  rw [decide_eq_true rfl]
  show loop _ _ = _
  have := loop_hasN (body := fun q' => g_ref02_SameInts.l1 a a q') a.length (fun _ => false) false true (by omega) (fun i hi => by
    show g_ref02_SameInts.l1 a a _ = _
    unfold g_ref02_SameInts.l1
    rw [decide_eq_true (by omega), cond_true, getI_nat, List.getElem?_eq_getElem hi]
    simp) (by
    show g_ref02_SameInts.l1 a a _ = _
    unfold g_ref02_SameInts.l1
    rw [for_out]
    rfl)
  rw [this]
  simp
theorem awake11 : g_law11_awake = some true := by
  unfold g_law11_awake
  rw [Find_ok (by unfold Lo; decide) (by kernel_rfl) (by decide)]
  rw [show findS [(api_Pattern.mk (api_Use.mk 1 0) [(97 : UInt8), (98 : UInt8), (97 : UInt8)]), (api_Pattern.mk (api_Use.mk 1 0) [(98 : UInt8)])] [(97 : UInt8), (98 : UInt8), (97 : UInt8), (98 : UInt8), (97 : UInt8)] = ([⟨0, 0⟩, ⟨1, 1⟩, ⟨0, 2⟩, ⟨1, 3⟩], 0) by kernel_rfl]
  rw [Option.bind_some]
  obtain ⟨r, h1, -, h2⟩ := Prefix_both (b := [(97 : UInt8), (98 : UInt8), (97 : UInt8), (98 : UInt8)]) (by decide)
  have hr : r = [0, 0, 1, 2] := by
    have hc : ∀ n k m, Bd [(97 : UInt8), (98 : UInt8), (97 : UInt8), (98 : UInt8)] n k → m ≤ n → n ≤ 4 → k < n ∧ ([(97 : UInt8), (98 : UInt8), (97 : UInt8), (98 : UInt8)].drop (n - k)).take k = [(97 : UInt8), (98 : UInt8), (97 : UInt8), (98 : UInt8)].take k := fun n k m h _ hn => (Bd.at_ hn).1 h
    refine h2.uniq ⟨rfl, fun n e1 e2 => ?_⟩
    have e2 : n ≤ 4 := e2
    have key : ∀ n k, n ≤ 4 → (k < n ∧ ([(97 : UInt8), (98 : UInt8), (97 : UInt8), (98 : UInt8)].drop (n - k)).take k = [(97 : UInt8), (98 : UInt8), (97 : UInt8), (98 : UInt8)].take k) → (∀ m, m < 4 → m < n → ([(97 : UInt8), (98 : UInt8), (97 : UInt8), (98 : UInt8)].drop (n - m)).take m = [(97 : UInt8), (98 : UInt8), (97 : UInt8), (98 : UInt8)].take m → m ≤ k) → LgB [(97 : UInt8), (98 : UInt8), (97 : UInt8), (98 : UInt8)] n k := fun n k hn h1 h2 =>
      ⟨(Bd.at_ hn).2 h1, fun m hm => h2 m (by have := hm.1; omega) hm.1 ((Bd.at_ hn).1 hm).2⟩
    rcases (show n = 1 ∨ n = 2 ∨ n = 3 ∨ n = 4 by omega) with rfl | rfl | rfl | rfl
    · exact ⟨0, rfl, key 1 0 (by decide) (by decide) (by decide)⟩
    · exact ⟨0, rfl, key 2 0 (by decide) (by decide) (by decide)⟩
    · exact ⟨1, rfl, key 3 1 (by decide) (by decide) (by decide)⟩
    · exact ⟨2, rfl, key 4 2 (by decide) (by decide) (by decide)⟩
  subst hr
  simp only [h1, Option.bind_some, SameInts_self [0, 0, 1, 2] (by decide)]
  rfl
end Go.Proofs.Ytfkgbfhpibiheaa
