/- Slices of the call's own, with the blocks told in which their elements lie. No program is in sight here. -/
import Derived.Test.YthohienbmhohjaaDerV
namespace Go.Proofs.Ythohienbmhohjaa
open Go.RowKit

def flatC : C → Bool
  | .sl _ _ => false
  | _ => true
theorem RdC.flat_any {w w' : World} {S S' : Nat → Prop} {c : C} {v : Value} (hf : flatC c = true) (h : RdC w S c v) : RdC w' S' c v := by
  cases c with
  | int k n => unfold RdC at *; exact h
  | bool b => unfold RdC at *; exact h
  | str s => unfold RdC at *; exact h
  | raw u => unfold RdC at *; exact h
  | sl sz cs => cases hf
theorem RdUs.flat_any {w w' : World} {S S' : Nat → Prop} {cs : List C} {us : List Value} (hf : ∀ c ∈ cs, flatC c = true) (h : RdUs w S cs us) : RdUs w' S' cs us :=
  ⟨h.1, fun j c u h1 h2 => (h.2 j c u h1 h2).flat_any (hf c (List.mem_of_getElem? h1))⟩
theorem bytesC_flat (l : List UInt8) : ∀ c ∈ bytesC l, flatC c = true := by
  intro c hc
  simp [bytesC] at hc
  obtain ⟨x, _, rfl⟩ := hc
  rfl

/-- A slice of the call's own, in whose elements only blocks of T occur. -/
def OwnT (T : Nat → Prop) (w : World) (base : Nat) (e : TypeId) (sz : Nat) (v : Value) (cs : List C) : Prop :=
  ∃ n us, w.ownsRow base e sz v n us ∧ RdUs w (fun b => T b ∧ b < w.heap.size ∧ v.ownBlock ≠ some b) cs us

section
variable {w w' : World} {S S' T : Nat → Prop} {base : Nat} {e : TypeId} {sz : Nat} {v : Value} {cs : List C}
theorem OwnT.own (h : OwnT T w base e sz v cs) : Own w base e sz v cs := by
  obtain ⟨n, us, h1, h2⟩ := h
  exact ⟨n, us, h1, h2.keep_ (fun _ _ => rfl) fun b hb => hb.2⟩
theorem OwnT.nil_ (T : Nat → Prop) (w : World) (base : Nat) (e : TypeId) (sz : Nat) : OwnT T w base e sz (.slice none 0 0) [] := ⟨0, [], World.ownsRow_nil _ _ _ _, rfl, fun _ _ _ h _ => by simp at h⟩
theorem OwnT.rdT (h : OwnT T w base e sz v cs) : RdC w (fun b => (T b ∨ base ≤ b) ∧ b < w.heap.size) (.sl sz cs) v := by
  obtain ⟨n, us, ho, hr⟩ := h
  have hl : cs.length = n * sz := by rw [hr.1, ho.1]
  rcases ho.2 with ⟨rfl, rfl⟩ | ⟨g, cap, cur, rfl, hb, hg, hn, hm, hs, ht⟩
  · have : cs = [] := List.eq_nil_of_length_eq_zero (by simpa using hl)
    subst this
    exact RdC.nil_ sz
  · refine RdC.mk_slice hl hn hm fun _ => ⟨⟨g, 0, none⟩, rfl, ⟨.inr hb, (Array.getElem?_eq_some_iff.1 hg).1⟩, fun j c hj => ?_⟩
    have hjl : j < us.length := by rw [← hr.1]; exact (List.getElem?_eq_some_iff.1 hj).1
    have hu : us[j]? = some us[j] := List.getElem?_eq_getElem hjl
    refine ⟨us[j], ?_, (hr.2 j c _ hj hu).mono fun b hb => ⟨.inl hb.1, hb.2.1⟩⟩
    have key : ∀ u, us[j]? = some u → w.cell? ⟨g, j, none⟩ = some u := by
      intro u hu
      rw [← ht, List.getElem?_take] at hu
      split at hu
      · simpa [World.cell?, hg] using hu
      · cases hu
    have e1 := key _ hu
    unfold Addr.add
    split
    · rename_i h0; subst h0; exact e1
    · simpa using e1
theorem OwnT.new {a0 : World} (h : OwnT (fun b => a0.heap.size ≤ b) w a0.heap.size e sz v cs) : RdC w (New a0 w) (.sl sz cs) v := h.rdT.mono fun b hb => ⟨by rcases hb.1 with h | h <;> exact h, hb.2⟩
theorem OwnT.newF {a0 : World} (h : OwnT (fun _ => False) w a0.heap.size e sz v cs) : RdC w (New a0 w) (.sl sz cs) v := h.rdT.mono fun b hb => ⟨by rcases hb.1 with h | h; exact h.elim; exact h, hb.2⟩
theorem OwnT.rd (h : OwnT T w base e sz v cs) : Rd w (.sl sz cs) v := h.rdT.mono fun _ hb => hb.2
theorem OwnT.shape (h : OwnT T w base e sz v cs) : ∃ A n cap, v = .slice A n cap ∧ cs.length = n * sz ∧ n ≤ cap ∧ cap ≤ maxLen := RdC.slice h.rd
theorem OwnT.base_le (h : OwnT T w base e sz v cs) : ∀ k, v.ownBlock = some k → base ≤ k ∧ k < w.heap.size := h.own.base_le
theorem OwnT.ext (h : OwnT T w base e sz v cs) (hx : Ext w w') : OwnT T w' base e sz v cs := by
  obtain ⟨n, us, ho, hr⟩ := h
  refine ⟨n, us, ⟨ho.1, ?_⟩, hr.keep_ (fun b hb => hx.block b hb.2.1) (fun b hb => ⟨hb.1, Nat.lt_of_lt_of_le hb.2.1 hx.size, hb.2.2⟩)⟩
  rcases ho.2 with h1 | ⟨g, cap, cur, hv, hb, hg, r⟩
  · exact .inl h1
  · exact .inr ⟨g, cap, cur, hv, hb, by rw [hx.block g (Array.getElem?_eq_some_iff.1 hg).1]; exact hg, r⟩
/-- A row that has just been laid. -/
theorem OwnT.made {us : List Value} {n : Nat} (hn : cs.length = n * sz) (hm : n ≤ maxLen) (h : RdUs w S cs us) (hS : ∀ b, S b → T b ∧ b < w.heap.size) (hb : base ≤ w.heap.size) :
    OwnT T (w.alloc (.cells us.toArray e)) base e sz (.slice (some ⟨w.heap.size, 0, none⟩) n n) cs := by
  have hul : us.length = n * sz := by rw [← h.1, hn]
  refine ⟨n, us, ⟨hul, .inr ⟨w.heap.size, n, us.toArray, rfl, hb, heap_alloc_new w _, Nat.le_refl _, hm, by simpa using hul, by simp [← hul]⟩⟩, h.keep_ (fun b hb => Below.heap_alloc w _ b (hS b hb).2) (fun b hb => ⟨(hS b hb).1, by have := (hS b hb).2; simp; omega, fun e => ?_⟩)⟩
  have := (hS b hb).2
  simp [Value.ownBlock] at e
  omega

theorem run_append_T {P : Program} (w : World) (base : Nat) (t ty e : TypeId) (i : TypeInfo) (z : Value) (sz bytes : Nat) (ht : P.underlying t = some (.slice e)) (hi : P.info? e = some i) (hz : i.zero = some z)
    (hsize : i.size = sz) (hby : i.bytes = bytes) (hzs : z.cells.size = sz) (hsz : 0 < sz)
    (v : Value) (cs : List C) (hown : OwnT T w base e sz v cs) (A : Option Addr) (m c : Nat) (cs' : List C) (us' : List Value) (hl' : us'.length = m * sz)
    (hc' : 0 < m → ∃ ad, A = some ad ∧ ∀ j u, us'[j]? = some u → w.cell? (ad.add j) = some u)
    (hu' : RdUs w (fun b => T b ∧ b < w.heap.size ∧ v.ownBlock ≠ some b) cs' us') (hlen : (cs.length + cs'.length) * bytes ≤ 140737488355328) (hbytes : 0 < bytes) (hbase : base ≤ w.heap.size) :
    ∃ v' w', (Builtin.append_ #[t, t] ty #[v, .slice A m c]).run P w = .ok v' w' ∧ OwnT T w' base e sz v' (cs ++ cs') ∧ w.grownBy w' v.ownBlock ∧ (v'.ownBlock = v.ownBlock ∨ v'.ownBlock = some w.heap.size) := by
  obtain ⟨n, us, ho, hu⟩ := hown
  have hcl : cs.length = n * sz := by rw [hu.1, ho.1]
  have hcl' : cs'.length = m * sz := by rw [hu'.1, hl']
  have hnm : n + m ≤ cs.length + cs'.length := by
    rw [hcl, hcl']
    have := Nat.le_mul_of_pos_right n hsz
    have := Nat.le_mul_of_pos_right m hsz
    omega
  have hb : (n + m) * bytes ≤ 140737488355328 := Nat.le_trans (Nat.mul_le_mul_right _ hnm) hlen
  have h63 : n + m ≤ maxLen := by
    have := Nat.le_mul_of_pos_right (n + m) hbytes
    unfold maxLen
    omega
  have fin : ∀ v' w', w'.ownsRow base e sz v' (n + m) (us ++ us') → w.grownBy w' v.ownBlock → (v'.ownBlock = v.ownBlock ∨ v'.ownBlock = some w.heap.size) → OwnT T w' base e sz v' (cs ++ cs') := by
    intro v' w' h1 h2 h3
    refine ⟨n + m, us ++ us', h1, (hu.append hu').keep_ (fun b hb => h2.block b hb.2.1 (fun e => hb.2.2 e.symm)) (fun b hb => ⟨hb.1, Nat.lt_of_lt_of_le hb.2.1 h2.size, ?_⟩)⟩
    rcases h3 with h3 | h3 <;> rw [h3]
    · exact hb.2.2
    · intro e; injection e with e; have := hb.2.1; omega
  have h1 : ∀ u ∈ us', u.oneCell' = true := by
    intro u hu1
    obtain ⟨j, hj, rfl⟩ := List.getElem_of_mem hu1
    have hj' : j < cs'.length := by rw [hu'.1]; exact hj
    exact (hu'.2 j cs'[j] _ (List.getElem?_eq_getElem hj') (List.getElem?_eq_getElem hj)).one
  rcases Nat.eq_zero_or_pos m with hm | hm
  · subst hm
    have e1 : us' = [] := List.eq_nil_of_length_eq_zero (by simpa using hl')
    subst e1
    cases A with
    | none =>
      have hrun : (Builtin.append_ #[t, t] ty #[v, .slice none 0 c]).run P w = .ok v w := by
        rcases ho.2 with ⟨rfl, rfl⟩ | ⟨g, cap, cur, rfl, _, _, hnc, _⟩
        · simp [Builtin.append_, run_underlying ht, sizeOf, typeInfo, hi, Builtin.lenOf, Builtin.firstCells]
        · simp [Builtin.append_, run_underlying ht, sizeOf, typeInfo, hi, Builtin.lenOf, Builtin.firstCells, hnc, storeCells]
      exact ⟨v, w, hrun, fin v w (by simpa using ho) (World.grownBy.refl w _) (.inl rfl), World.grownBy.refl w _, .inl rfl⟩
    | some ad =>
      obtain ⟨v', w', hrun, h2, h3, _, h5⟩ := run_append_own_at (P := P) w base t ty e i z sz bytes ht hi hz hsize hby hzs hsz v n us ho ad 0 c [] hl' (fun j u h => by simp at h) h1 h63 hb hbase
      exact ⟨v', w', hrun, fin v' w' h2 h3 h5, h3, h5⟩
  · obtain ⟨ad, rfl, hc⟩ := hc' hm
    obtain ⟨v', w', hrun, h2, h3, _, h5⟩ := run_append_own_at (P := P) w base t ty e i z sz bytes ht hi hz hsize hby hzs hsz v n us ho ad m c us' hl' hc h1 h63 hb hbase
    exact ⟨v', w', hrun, fin v' w' h2 h3 h5, h3, h5⟩

theorem wp_app_T {P : Program} {t : TypeId} {bytes : Nat} (H : SlT P t e sz bytes) {a0 : World} {o : Oper} {a : Act} {K : Act → World → Prop} {Q : Exit → Act → World → Prop} (s x : Operand)
    (ho : o.op = .call { callee := .builtin .append, args := #[s, x], argTypes := #[t, t] }) (hx0 : Ext a0 w) (hown : OwnT T w a0.heap.size e sz v cs) (hs : a.eval s = v)
    {A : Option Addr} {m c : Nat} {cs' : List C} {us' : List Value} (hx : a.eval x = .slice A m c) (hl' : us'.length = m * sz) (hc' : 0 < m → ∃ ad, A = some ad ∧ ∀ j u, us'[j]? = some u → w.cell? (ad.add j) = some u)
    (hu' : RdUs w (fun b => T b ∧ b < w.heap.size ∧ v.ownBlock ≠ some b) cs' us') (hlen : (cs.length + cs'.length) * bytes ≤ 140737488355328)
    (h : ∀ A' n' c' w', OwnT T w' a0.heap.size e sz (.slice A' n' c') (cs ++ cs') → Ext a0 w' → w.grownBy w' v.ownBlock → ((Value.slice A' n' c').ownBlock = v.ownBlock ∨ (Value.slice A' n' c').ownBlock = some w.heap.size) → K (a.put o.dst (.slice A' n' c')) w') :
    o.wp P a w K Q := by
  obtain ⟨i, z, h1, h2, h3, h4, h5⟩ := H.hi
  obtain ⟨v', w', hrun, g1, g2, g3⟩ := run_append_T (P := P) w a0.heap.size t o.type e i z sz bytes H.ht h1 h2 h3 h4 h5 H.hsz v cs hown A m c cs' us' hl' hc' hu' hlen H.hby hx0.size
  obtain ⟨A', n', c', rfl, _⟩ := g1.shape
  unfold Oper.wp execOp
  simp only [ho, resolve, invoke, builtin, Sem.run_bind, Sem.run_pure, Result.andThen_ok, List.map_toArray, List.map_cons, List.map_nil, hs, hx, hrun]
  exact h A' n' c' w' g1 (hx0.grown g2 fun k hk => (hown.base_le k hk).1) g2 g3

/-- append of a slice whose elements lie where T says. -/
theorem wpList_appT {P : Program} {t : TypeId} {bytes : Nat} (H : SlT P t e sz bytes) {a0 : World} {ops : Array Oper} {rest : List Oper} {o : Oper} {a : Act} {Q : Exit → Act → World → Prop} (hgd : o.guard = none) (s x : Operand)
    (ho : o.op = .call { callee := .builtin .append, args := #[s, x], argTypes := #[t, t] }) (hx0 : Ext a0 w) (hown : OwnT T w a0.heap.size e sz v cs) (hs : a.eval s = v)
    {A : Option Addr} {m c : Nat} {cs' : List C} (hx : a.eval x = .slice A m c) (hr : RdC w (fun b => T b ∧ b < w.heap.size ∧ v.ownBlock ≠ some b) (.sl sz cs') (.slice A m c)) (hlen : (cs.length + cs'.length) * bytes ≤ 140737488355328)
    (h : ∀ A' n' c' w', OwnT T w' a0.heap.size e sz (.slice A' n' c') (cs ++ cs') → Ext a0 w' → w.grownBy w' v.ownBlock → ((Value.slice A' n' c').ownBlock = v.ownBlock ∨ (Value.slice A' n' c').ownBlock = some w.heap.size) → wpList P ops Q rest (a.put o.dst (.slice A' n' c')) w') :
    wpList P ops Q (o :: rest) a w := by
  obtain ⟨us', hl', hu', hc'⟩ := RdC.vals hr
  exact wpList_plain hgd fun _ hK => wp_app_T H s x ho hx0 hown hs hx hl' (fun hm => by obtain ⟨ad, e1, _, e3⟩ := hc' hm; exact ⟨ad, e1, e3⟩) hu' hlen fun A' n' c' w' h1 h2 h3 h4 => hK _ _ (h A' n' c' w' h1 h2 h3 h4)

/-- append of a slice of numbers, texts, truth values: wherever it lies. -/
theorem wpList_appF {P : Program} {t : TypeId} {bytes : Nat} (H : SlT P t e sz bytes) {a0 : World} {ops : Array Oper} {rest : List Oper} {o : Oper} {a : Act} {Q : Exit → Act → World → Prop} (hgd : o.guard = none) (s x : Operand)
    (ho : o.op = .call { callee := .builtin .append, args := #[s, x], argTypes := #[t, t] }) (hx0 : Ext a0 w) (hown : OwnT T w a0.heap.size e sz v cs) (hs : a.eval s = v)
    {A : Option Addr} {m c : Nat} {cs' : List C} (hx : a.eval x = .slice A m c) (hr : RdC w S (.sl sz cs') (.slice A m c)) (hf : ∀ c ∈ cs', flatC c = true) (hlen : (cs.length + cs'.length) * bytes ≤ 140737488355328)
    (h : ∀ A' n' c' w', OwnT T w' a0.heap.size e sz (.slice A' n' c') (cs ++ cs') → Ext a0 w' → w.grownBy w' v.ownBlock → ((Value.slice A' n' c').ownBlock = v.ownBlock ∨ (Value.slice A' n' c').ownBlock = some w.heap.size) → wpList P ops Q rest (a.put o.dst (.slice A' n' c')) w') :
    wpList P ops Q (o :: rest) a w := by
  obtain ⟨us', hl', hu', hc'⟩ := RdC.vals hr
  exact wpList_plain hgd fun _ hK => wp_app_T H s x ho hx0 hown hs hx hl' (fun hm => by obtain ⟨ad, e1, _, e3⟩ := hc' hm; exact ⟨ad, e1, e3⟩) (hu'.flat_any hf) hlen fun A' n' c' w' h1 h2 h3 h4 => hK _ _ (h A' n' c' w' h1 h2 h3 h4)

/-- append of one element, which has just been laid in a new block. -/
theorem wpList_appT1 {P : Program} {t : TypeId} {bytes : Nat} (H : SlT P t e sz bytes) {a0 : World} {ops : Array Oper} {rest : List Oper} {o : Oper} {a : Act} {Q : Exit → Act → World → Prop} (hgd : o.guard = none) (s x : Operand)
    (ho : o.op = .call { callee := .builtin .append, args := #[s, x], argTypes := #[t, t] }) (hx0 : Ext a0 w) (hown : OwnT T w a0.heap.size e sz v cs) (hs : a.eval s = v)
    {us : List Value} {cs1 : List C} (hu : RdUs w (fun b => T b ∧ b < w.heap.size ∧ v.ownBlock ≠ some b) cs1 us) (h1 : cs1.length = sz) {B : Nat} (hx : a.eval x = .slice (some ⟨B, 0, none⟩) 1 1) (hB : B = w.heap.size) (hlen : (cs.length + cs1.length) * bytes ≤ 140737488355328)
    (h : ∀ A' n' c' w', OwnT T w' a0.heap.size e sz (.slice A' n' c') (cs ++ cs1) → Ext a0 w' → w.grownBy w' v.ownBlock → ((Value.slice A' n' c').ownBlock = v.ownBlock ∨ (Value.slice A' n' c').ownBlock = some (w.heap.size + 1)) → wpList P ops Q rest (a.put o.dst (.slice A' n' c')) w') :
    wpList P ops Q (o :: rest) a (w.alloc (.cells us.toArray e)) := by
  subst hB
  have hu2 : RdUs (w.alloc (.cells us.toArray e)) (fun b => T b ∧ b < (w.alloc (.cells us.toArray e)).heap.size ∧ v.ownBlock ≠ some b) cs1 us := hu.keep_ (fun b hb => Below.heap_alloc w _ b hb.2.1) (fun b hb => ⟨hb.1, by have := hb.2.1; simp; omega, hb.2.2⟩)
  refine wpList_plain hgd fun _ hK => wp_app_T H s x ho (hx0.alloc _) (hown.ext ((Ext.refl _).alloc _)) hs hx (by rw [← hu.1, h1, Nat.one_mul]) (fun _ => ⟨_, rfl, fun j u hj => ?_⟩) hu2 hlen fun A' n' c' w' g1 g2 g3 g4 => hK _ _ (h A' n' c' w' g1 g2 (grown_of_alloc g3 fun k hk => (hown.base_le k hk).2) (by simpa using g4))
  have hjl : j < us.length := (List.getElem?_eq_some_iff.1 hj).1
  have e1 : (w.alloc (.cells us.toArray e)).cell? ⟨w.heap.size, j, none⟩ = some u := by
    simp only [World.cell?, heap_alloc_new]
    simpa using hj
  unfold Addr.add
  split
  · rename_i h0; subst h0; exact e1
  · simpa using e1
end

theorem RdV.us {w : World} {S : Nat → Prop} {t : Int} {b : List UInt8} {n : Bool} {es : List V} {vb ve : Value} (h : RdV w S (.mk t b n es) (.agg #[.int .i64 t, vb, .bool n, ve])) :
    RdUs w S (V.mk t b n es).enc [.int .i64 t, vb, .bool n, ve] := by
  obtain ⟨vb', ve', e1, ht, hb, he⟩ := h
  simp only [Value.agg.injEq, Array.mk.injEq, List.cons.injEq] at e1
  obtain ⟨-, rfl, -, rfl, -⟩ := e1
  refine ⟨by simp [V.enc], fun j c u h1 h2 => ?_⟩
  match j with
  | 0 => simp [V.enc] at h1 h2; subst h1 h2; unfold RdC; exact ⟨rfl, i64_range ht⟩
  | 1 => simp [V.enc] at h1 h2; subst h1 h2; exact hb
  | 2 => simp [V.enc] at h1 h2; subst h1 h2; unfold RdC; rfl
  | 3 => simp [V.enc] at h1 h2; subst h1 h2; exact he
  | j + 4 => simp [V.enc] at h1
theorem encs_take_succ {es : List V} {k : Nat} {d : V} (h : es[k]? = some d) : encs (es.take (k + 1)) = encs (es.take k) ++ d.enc := by
  obtain ⟨hk, e⟩ := List.getElem?_eq_some_iff.1 h
  rw [List.take_succ_eq_append_getElem hk, encs_append, e]
  simp [encs]
end Go.Proofs.Ythohienbmhohjaa
