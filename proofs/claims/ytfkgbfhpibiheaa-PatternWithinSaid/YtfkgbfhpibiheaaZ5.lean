/- Chapter 11, plain: what the search finds. -/
import Derived.Test.YtfkgbfhpibiheaaZ4
set_option linter.unusedVariables false
set_option linter.unusedSimpArgs false
set_option maxRecDepth 100000
namespace Go.Proofs.Ytfkgbfhpibiheaa
open Go
def At (q b : Bts) (i : Nat) : Bool := decide (q.length + i ≤ b.length ∧ (b.drop i).take q.length = q)
theorem suf_at {q b : Bts} {e : Nat} (he : e ≤ b.length) : q <:+ b.take e ↔ q.length ≤ e ∧ (b.drop (e - q.length)).take q.length = q := by
  have hl : (b.take e).length = e := by rw [List.length_take]; omega
  rw [List.suffix_iff_eq_drop, hl, List.drop_take]
  constructor
  · intro h
    have h1 : q.length ≤ e := by
      have := congrArg List.length h
      simp at this
      omega
    refine ⟨h1, ?_⟩
    rw [show e - (e - q.length) = q.length by omega] at h
    exact h.symm
  · rintro ⟨h1, h2⟩
    rw [show e - (e - q.length) = q.length by omega]
    exact h2.symm
theorem suf_At {q b : Bts} {i : Nat} (hi : q.length + i ≤ b.length) : q <:+ b.take (q.length + i) ↔ At q b i = true := by
  rw [suf_at hi, show q.length + i - q.length = i by omega]
  unfold At
  simp only [decide_eq_true_eq]
  exact ⟨fun h => ⟨hi, h.2⟩, fun h => ⟨by omega, h.2⟩⟩
theorem At_le {q b : Bts} {i : Nat} (h : At q b i = true) : q.length + i ≤ b.length := by
  unfold At at h
  simp only [decide_eq_true_eq] at h
  exact h.1
def IsHit (p : List api_Pattern) (b : Bts) (h : api_Hit) : Prop := ∃ (k : Nat) (q : api_Pattern) (i : Nat), p[k]? = some q ∧ h = ⟨(k : Int), (i : Int)⟩ ∧ At q.Bytes b i = true
def en (ss : List pattern_state) (ws : List Bts) (t : Bts) : List Int := (ss.getD (Lk ws (lg ws t)).toNat default).ends
section
variable {p : List api_Pattern} {ws : List Bts} {ss : List pattern_state} {b : Bts}
theorem Done.at_ (h : Done p ws ss) (t : Bts) : ∃ (i : Nat) (s : pattern_state), Lk ws (lg ws t) = (i : Int) ∧ ss[i]? = some s ∧ ws[i]? = some (lg ws t) ∧ en ss ws t = s.ends := by
  obtain ⟨i, h1, h2⟩ := Lk_mem h.wk.hn (lg_mem h.wk.hc.1 t)
  have hl := (List.getElem?_eq_some_iff.1 h1).1
  have hs : ss[i]? = some (ss[i]'(by rw [h.len]; exact hl)) := List.getElem?_eq_getElem _
  refine ⟨i, _, h2, hs, h1, ?_⟩
  unfold en
  rw [h2, Int.toNat_natCast, List.getD_eq_getElem?_getD, hs]
  rfl
theorem Done.ends (h : Done p ws ss) (t : Bts) : EndsOk p t (en ss ws t) := by
  obtain ⟨i, s, -, h2, h3, h4⟩ := h.at_ t
  obtain ⟨-, -, h5⟩ := h.st i s _ h2 h3
  rw [h4]
  refine ⟨h5.1, fun x => (h5.2 x).trans ?_⟩
  constructor
  · rintro ⟨k, q, a1, a2, a3⟩
    exact ⟨k, q, a1, a2, (suf_lg (h.wk.pats k q a2)).1 a3⟩
  · rintro ⟨k, q, a1, a2, a3⟩
    exact ⟨k, q, a1, a2, (suf_lg (h.wk.pats k q a2)).2 a3⟩
def hitOf (p : List api_Pattern) (i : Nat) (x : Int) : api_Hit := ⟨x, (i : Int) + 1 - ((p.getD x.toNat default).Bytes.length : Int)⟩
def HSi (p : List api_Pattern) (ss : List pattern_state) (ws : List Bts) (b : Bts) (i : Nat) : List api_Hit := (en ss ws (b.take (i + 1))).map (hitOf p i)
def HS (p : List api_Pattern) (ss : List pattern_state) (ws : List Bts) (b : Bts) (n : Nat) : List api_Hit := (List.range n).flatMap (HSi p ss ws b)
theorem HS_succ {n : Nat} : HS p ss ws b (n + 1) = HS p ss ws b n ++ HSi p ss ws b n := by
  unfold HS
  rw [List.range_succ, List.flatMap_append]
  simp
theorem HS_pre : ∀ {m n : Nat}, m ≤ n → HS p ss ws b m <+: HS p ss ws b n
  | m, 0, h => by rw [show m = 0 by omega]; exact List.prefix_refl _
  | m, n + 1, h => by
    rcases Nat.lt_or_ge m (n + 1) with h' | h'
    · rw [HS_succ]
      exact (HS_pre (m := m) (n := n) (by omega)).trans (List.prefix_append _ _)
    · rw [show m = n + 1 by omega]; exact List.prefix_refl _
theorem hitOf_at {i k : Nat} {q : api_Pattern} (hq : p[k]? = some q) : hitOf p i (k : Int) = ⟨(k : Int), (i : Int) + 1 - (q.Bytes.length : Int)⟩ := by
  unfold hitOf
  rw [Int.toNat_natCast, List.getD_eq_getElem?_getD, hq]
  rfl
theorem HSi_mem (hD : Done p ws ss) {i : Nat} (hi : i < b.length) {h : api_Hit} : h ∈ HSi p ss ws b i ↔ ∃ (k : Nat) (q : api_Pattern) (j : Nat), p[k]? = some q ∧ h = ⟨(k : Int), (j : Int)⟩ ∧ At q.Bytes b j = true ∧ q.Bytes.length + j = i + 1 := by
  unfold HSi
  rw [List.mem_map]
  have hE := hD.ends (b.take (i + 1))
  constructor
  · rintro ⟨x, hx, rfl⟩
    obtain ⟨k, q, rfl, h2, h3⟩ := (hE.2 x).1 hx
    have h4 := (suf_at (by omega)).1 h3
    refine ⟨k, q, i + 1 - q.Bytes.length, h2, ?_, ?_, by omega⟩
    · rw [hitOf_at h2]
      congr 1
      omega
    · rw [← suf_At (by omega), show q.Bytes.length + (i + 1 - q.Bytes.length) = i + 1 by omega]
      exact h3
  · rintro ⟨k, q, j, h2, rfl, h4, h5⟩
    refine ⟨(k : Int), (hE.2 _).2 ⟨k, q, rfl, h2, ?_⟩, ?_⟩
    · rw [← h5]
      exact (suf_At (At_le h4)).2 h4
    · rw [hitOf_at h2]
      congr 1
      omega
theorem HS_mem (hD : Done p ws ss) : ∀ {n : Nat}, n ≤ b.length → ∀ {h : api_Hit}, h ∈ HS p ss ws b n ↔ ∃ (k : Nat) (q : api_Pattern) (j : Nat), p[k]? = some q ∧ h = ⟨(k : Int), (j : Int)⟩ ∧ At q.Bytes b j = true ∧ 1 ≤ q.Bytes.length + j ∧ q.Bytes.length + j ≤ n
  | 0, _, h => by
    constructor
    · intro h; simp [HS] at h
    · rintro ⟨k, q, j, -, -, -, h1, h2⟩; omega
  | n + 1, hn, h => by
    rw [HS_succ, List.mem_append, HS_mem hD (n := n) (by omega), HSi_mem hD (by omega)]
    constructor
    · rintro (⟨k, q, j, h1, h2, h3, h4, h5⟩ | ⟨k, q, j, h1, h2, h3, h4⟩)
      · exact ⟨k, q, j, h1, h2, h3, h4, by omega⟩
      · exact ⟨k, q, j, h1, h2, h3, by omega, by omega⟩
    · rintro ⟨k, q, j, h1, h2, h3, h4, h5⟩
      rcases Nat.lt_or_ge (q.Bytes.length + j) (n + 1) with h6 | h6
      · exact .inl ⟨k, q, j, h1, h2, h3, h4, by omega⟩
      · exact .inr ⟨k, q, j, h1, h2, h3, by omega⟩
theorem HS_all (hD : Done p ws ss) (hp : Pok p) {h : api_Hit} : h ∈ HS p ss ws b b.length ↔ IsHit p b h := by
  rw [HS_mem hD (Nat.le_refl _)]
  constructor
  · rintro ⟨k, q, j, h1, h2, h3, -⟩
    exact ⟨k, q, j, h1, h2, h3⟩
  · rintro ⟨k, q, j, h1, h2, h3⟩
    have := (hp.2 q (List.mem_of_getElem? h1)).1
    exact ⟨k, q, j, h1, h2, h3, by omega, At_le h3⟩
theorem HSi_nodup (hD : Done p ws ss) {i : Nat} : (HSi p ss ws b i).Nodup := by
  unfold HSi
  rw [List.Nodup, List.pairwise_map]
  exact (hD.ends _).1.imp fun h e => h (by unfold hitOf at e; injection e)
theorem HS_nodup (hD : Done p ws ss) : ∀ {n : Nat}, n ≤ b.length → (HS p ss ws b n).Nodup
  | 0, _ => by simp [HS]
  | n + 1, hn => by
    rw [HS_succ, List.nodup_append]
    refine ⟨HS_nodup hD (by omega), HSi_nodup hD, fun x hx y hy => ?_⟩
    rintro rfl
    obtain ⟨k, q, j, h1, h2, -, -, h5⟩ := (HS_mem hD (by omega)).1 hx
    obtain ⟨k', q', j', h1', h2', -, h5'⟩ := (HSi_mem hD (by omega)).1 hy
    rw [h2] at h2'
    injection h2' with e1 e2
    have e1 := Int.ofNat.inj e1
    have e2 := Int.ofNat.inj e2
    subst e1 e2
    rw [h1] at h1'
    injection h1' with h1'
    subst h1'
    omega
theorem hits_ok_List_api_Hit {Inv Stop : List api_Hit → List api_Hit → Prop} {yield : api_Hit → List api_Hit → Option (Bool × List api_Hit)} {s0 : List api_Hit} (hp : Pok p) (hb : b.length ≤ 4096) (hy : ∀ l h s, Inv l s → IsHit p b h → Ok (yield h s) (fun y => (y.1 = true → Inv (l ++ [h]) y.2) ∧ (y.1 = false → Stop (l ++ [h]) y.2))) (h0 : Inv [] s0) :
    Ok (g_pattern_hits_List_api_Hit p b yield s0) (fun s => ∃ ws ss, Done p ws ss ∧ (Inv (HS p ss ws b b.length) s ∨ ∃ l, l <+: HS p ss ws b b.length ∧ Stop l s)) := by
  unfold g_pattern_hits_List_api_Hit
  refine Ok.bind (machine_ok hp) ?_
  rintro ss ⟨ws, hD⟩
  refine Ok.loop (fun t => ∃ i : Nat, t.2.1 = (i : Int) ∧ i ≤ b.length ∧ t.1 = Lk ws (lg ws (b.take i)) ∧ Inv (HS p ss ws b i) t.2.2) (fun t => b.length - t.2.1.toNat) ?_ ⟨0, rfl, Nat.zero_le _, by
    show (0 : Int) = Lk ws (lg ws [])
    rw [show lg ws [] = [] from rfl, Lk_at hD.wk.hn hD.wk.h0]
    rfl, by simpa [HS] using h0⟩
  rintro ⟨at', x, s⟩ ⟨i, h1, h2, h3, h4⟩
  simp only at h1 h3 h4 ⊢
  subst h1
  unfold g_pattern_hits_List_api_Hit.l1
  refine Ok.cond (fun hlt => ?_) fun hge => ?_
  · have hi : i < b.length := by simp at hlt; exact hlt
    have hc : b[i]? = some b[i] := List.getElem?_eq_getElem hi
    generalize b[i] = c at hc
    refine Ok.bindE (by rw [getI_nat]; exact hc) ?_
    obtain ⟨j, st, a1, a2, a3, a4⟩ := hD.at_ (b.take i)
    obtain ⟨n1, n2, -⟩ := hD.st j st _ a2 a3
    rw [h3, a1]
    refine Ok.bindE (by rw [getI_nat]; exact a2) ?_
    have hstep : Lk ws (lg ws (lg ws (b.take i) ++ [c])) = Lk ws (lg ws (b.take (i + 1))) := by rw [← lg_step hD.wk.hc, take_succ' hc]
    refine Ok.bindE (by rw [arrL_id n1, getI_nat]; exact (n2 c).trans (by rw [hstep])) ?_
    obtain ⟨j', st', b1, b2, b3, b4⟩ := hD.at_ (b.take (i + 1))
    rw [b1]
    refine Ok.bindE (by rw [getI_nat]; exact b2) ?_
    have hE := hD.ends (b.take (i + 1))
    rw [b4] at hE
    have hel : st'.ends.length ≤ 32 := ends_len hE hp.1
    have hHi : HSi p ss ws b i = st'.ends.map (hitOf p i) := by unfold HSi; rw [b4]
    refine Ok.loop (fun t => ∃ m : Nat, t.1 = (m : Int) ∧ m ≤ st'.ends.length ∧ Inv (HS p ss ws b i ++ (HSi p ss ws b i).take m) t.2) (fun t => st'.ends.length - t.1.toNat) ?_ ⟨0, rfl, Nat.zero_le _, by simpa using h4⟩
    rintro ⟨y, s'⟩ ⟨m, c1, c2, c3⟩
    simp only at c1 c3 ⊢
    subst c1
    unfold g_pattern_hits_List_api_Hit.l2
    refine Ok.cond (fun hlt2 => ?_) fun hge2 => ?_
    · have hm : m < st'.ends.length := by simp at hlt2; exact hlt2
      have he : st'.ends[m]? = some st'.ends[m] := List.getElem?_eq_getElem hm
      generalize st'.ends[m] = x at he
      refine Ok.bindE (by rw [getI_nat]; exact he) ?_
      obtain ⟨k, q, rfl, d2, d3⟩ := (hE.2 x).1 (List.mem_of_getElem? he)
      refine Ok.bindE (by rw [getI_nat]; exact d2) ?_
      have d4 := (suf_at (by omega)).1 d3
      have hql := (hp.2 q (List.mem_of_getElem? d2))
      have hW : W (W ((i : Int) + 1) - (q.Bytes.length : Int)) = (i : Int) + 1 - (q.Bytes.length : Int) := by
        rw [W_succ (by omega), W_id (by omega)]
        omega
      rw [hW, ← hitOf_at (i := i) d2]
      clear hW
      have hH : (HSi p ss ws b i)[m]? = some (hitOf p i (k : Int)) := by rw [hHi, List.getElem?_map, he]; rfl
      have hhit : IsHit p b (hitOf p i (k : Int)) := by
        obtain ⟨k2, q2, j2, e1, e2, e3, -⟩ := (HSi_mem hD hi).1 (List.mem_of_getElem? hH)
        exact ⟨k2, q2, j2, e1, e2, e3⟩
      have happ : HS p ss ws b i ++ (HSi p ss ws b i).take m ++ [hitOf p i (k : Int)] = HS p ss ws b i ++ (HSi p ss ws b i).take (m + 1) := by
        rw [take_succ' hH, List.append_assoc]
      refine Ok.bind (hy _ _ _ c3 hhit) ?_
      rintro ⟨y1, y2⟩ ⟨f1, f2⟩
      rw [happ] at f1 f2
      refine Ok.cond (fun hn => ?_) fun hn => ?_
      · have hn : y1 = false := by simpa using hn
        refine Ok.up (Ok.up (Ok.ret ⟨ws, ss, hD, .inr ⟨_, ?_, f2 hn⟩⟩))
        refine (List.IsPrefix.trans ?_ (HS_pre (m := i + 1) (n := b.length) hi))
        rw [HS_succ]
        exact (List.prefix_append_right_inj _).2 (List.take_prefix _ _)
      · have hn : y1 = true := by simpa using hn
        refine Ok.ret ⟨⟨m + 1, W_succ (by omega), hm, f1 hn⟩, ?_⟩
        show st'.ends.length - (W ((m : Int) + 1)).toNat < _
        rw [W_succ (by omega)]
        omega
    · have hm : m = st'.ends.length := by simp at hge2; omega
      subst hm
      refine Ok.up (Ok.ret ⟨⟨i + 1, W_succ (by omega), hi, b1.symm, ?_⟩, ?_⟩)
      · rw [HS_succ]
        rw [List.take_of_length_le (by rw [hHi, List.length_map]; exact Nat.le_refl _)] at c3
        exact c3
      · show b.length - (W ((i : Int) + 1)).toNat < _
        rw [W_succ (by omega)]
        omega
  · have hi : i = b.length := by simp at hge; omega
    subst hi
    exact Ok.up (Ok.ret ⟨ws, ss, hD, .inl h4⟩)
theorem hits_ok_List_Int {Inv Stop : List api_Hit → List Int → Prop} {yield : api_Hit → List Int → Option (Bool × List Int)} {s0 : List Int} (hp : Pok p) (hb : b.length ≤ 4096) (hy : ∀ l h s, Inv l s → IsHit p b h → Ok (yield h s) (fun y => (y.1 = true → Inv (l ++ [h]) y.2) ∧ (y.1 = false → Stop (l ++ [h]) y.2))) (h0 : Inv [] s0) :
    Ok (g_pattern_hits_List_Int p b yield s0) (fun s => ∃ ws ss, Done p ws ss ∧ (Inv (HS p ss ws b b.length) s ∨ ∃ l, l <+: HS p ss ws b b.length ∧ Stop l s)) := by
  unfold g_pattern_hits_List_Int
  refine Ok.bind (machine_ok hp) ?_
  rintro ss ⟨ws, hD⟩
  refine Ok.loop (fun t => ∃ i : Nat, t.2.1 = (i : Int) ∧ i ≤ b.length ∧ t.1 = Lk ws (lg ws (b.take i)) ∧ Inv (HS p ss ws b i) t.2.2) (fun t => b.length - t.2.1.toNat) ?_ ⟨0, rfl, Nat.zero_le _, by
    show (0 : Int) = Lk ws (lg ws [])
    rw [show lg ws [] = [] from rfl, Lk_at hD.wk.hn hD.wk.h0]
    rfl, by simpa [HS] using h0⟩
  rintro ⟨at', x, s⟩ ⟨i, h1, h2, h3, h4⟩
  simp only at h1 h3 h4 ⊢
  subst h1
  unfold g_pattern_hits_List_Int.l1
  refine Ok.cond (fun hlt => ?_) fun hge => ?_
  · have hi : i < b.length := by simp at hlt; exact hlt
    have hc : b[i]? = some b[i] := List.getElem?_eq_getElem hi
    generalize b[i] = c at hc
    refine Ok.bindE (by rw [getI_nat]; exact hc) ?_
    obtain ⟨j, st, a1, a2, a3, a4⟩ := hD.at_ (b.take i)
    obtain ⟨n1, n2, -⟩ := hD.st j st _ a2 a3
    rw [h3, a1]
    refine Ok.bindE (by rw [getI_nat]; exact a2) ?_
    have hstep : Lk ws (lg ws (lg ws (b.take i) ++ [c])) = Lk ws (lg ws (b.take (i + 1))) := by rw [← lg_step hD.wk.hc, take_succ' hc]
    refine Ok.bindE (by rw [arrL_id n1, getI_nat]; exact (n2 c).trans (by rw [hstep])) ?_
    obtain ⟨j', st', b1, b2, b3, b4⟩ := hD.at_ (b.take (i + 1))
    rw [b1]
    refine Ok.bindE (by rw [getI_nat]; exact b2) ?_
    have hE := hD.ends (b.take (i + 1))
    rw [b4] at hE
    have hel : st'.ends.length ≤ 32 := ends_len hE hp.1
    have hHi : HSi p ss ws b i = st'.ends.map (hitOf p i) := by unfold HSi; rw [b4]
    refine Ok.loop (fun t => ∃ m : Nat, t.1 = (m : Int) ∧ m ≤ st'.ends.length ∧ Inv (HS p ss ws b i ++ (HSi p ss ws b i).take m) t.2) (fun t => st'.ends.length - t.1.toNat) ?_ ⟨0, rfl, Nat.zero_le _, by simpa using h4⟩
    rintro ⟨y, s'⟩ ⟨m, c1, c2, c3⟩
    simp only at c1 c3 ⊢
    subst c1
    unfold g_pattern_hits_List_Int.l2
    refine Ok.cond (fun hlt2 => ?_) fun hge2 => ?_
    · have hm : m < st'.ends.length := by simp at hlt2; exact hlt2
      have he : st'.ends[m]? = some st'.ends[m] := List.getElem?_eq_getElem hm
      generalize st'.ends[m] = x at he
      refine Ok.bindE (by rw [getI_nat]; exact he) ?_
      obtain ⟨k, q, rfl, d2, d3⟩ := (hE.2 x).1 (List.mem_of_getElem? he)
      refine Ok.bindE (by rw [getI_nat]; exact d2) ?_
      have d4 := (suf_at (by omega)).1 d3
      have hql := (hp.2 q (List.mem_of_getElem? d2))
      have hW : W (W ((i : Int) + 1) - (q.Bytes.length : Int)) = (i : Int) + 1 - (q.Bytes.length : Int) := by
        rw [W_succ (by omega), W_id (by omega)]
        omega
      rw [hW, ← hitOf_at (i := i) d2]
      clear hW
      have hH : (HSi p ss ws b i)[m]? = some (hitOf p i (k : Int)) := by rw [hHi, List.getElem?_map, he]; rfl
      have hhit : IsHit p b (hitOf p i (k : Int)) := by
        obtain ⟨k2, q2, j2, e1, e2, e3, -⟩ := (HSi_mem hD hi).1 (List.mem_of_getElem? hH)
        exact ⟨k2, q2, j2, e1, e2, e3⟩
      have happ : HS p ss ws b i ++ (HSi p ss ws b i).take m ++ [hitOf p i (k : Int)] = HS p ss ws b i ++ (HSi p ss ws b i).take (m + 1) := by
        rw [take_succ' hH, List.append_assoc]
      refine Ok.bind (hy _ _ _ c3 hhit) ?_
      rintro ⟨y1, y2⟩ ⟨f1, f2⟩
      rw [happ] at f1 f2
      refine Ok.cond (fun hn => ?_) fun hn => ?_
      · have hn : y1 = false := by simpa using hn
        refine Ok.up (Ok.up (Ok.ret ⟨ws, ss, hD, .inr ⟨_, ?_, f2 hn⟩⟩))
        refine (List.IsPrefix.trans ?_ (HS_pre (m := i + 1) (n := b.length) hi))
        rw [HS_succ]
        exact (List.prefix_append_right_inj _).2 (List.take_prefix _ _)
      · have hn : y1 = true := by simpa using hn
        refine Ok.ret ⟨⟨m + 1, W_succ (by omega), hm, f1 hn⟩, ?_⟩
        show st'.ends.length - (W ((m : Int) + 1)).toNat < _
        rw [W_succ (by omega)]
        omega
    · have hm : m = st'.ends.length := by simp at hge2; omega
      subst hm
      refine Ok.up (Ok.ret ⟨⟨i + 1, W_succ (by omega), hi, b1.symm, ?_⟩, ?_⟩)
      · rw [HS_succ]
        rw [List.take_of_length_le (by rw [hHi, List.length_map]; exact Nat.le_refl _)] at c3
        exact c3
      · show b.length - (W ((i : Int) + 1)).toNat < _
        rw [W_succ (by omega)]
        omega
  · have hi : i = b.length := by simp at hge; omega
    subst hi
    exact Ok.up (Ok.ret ⟨ws, ss, hD, .inl h4⟩)
end
end Go.Proofs.Ytfkgbfhpibiheaa
