/- Memory, read and kept: what of the walks names no program. -/
import Derived.Test.YthjgcmifggdepaaBase
import Derived.WalkKit
import Derived.WalkSpells
import Derived.WalkLawsBesides
import Derived.Deep.QuietTactic
import Derived.BigQuiet
import Derived.Deep.RegionLaw
import Derived.StillTailTactics
set_option linter.unusedSimpArgs false
set_option linter.unusedVariables false
namespace Go.Proofs.Ythjgcmifggdepaa
open Go.RowKit

def bytesC (l : List UInt8) : List C := l.map fun x => .int .u8 x.toNat
def flatC : C → Bool
  | .sl _ _ => false
  | _ => true
theorem RdC.flat_any {w w' : World} {S S' : Nat → Prop} {c : C} {v : Value} (hf : flatC c = true) (h : RdC w S c v) : RdC w' S' c v := by
  cases c with
  | int k n => unfold RdC at *; exact h
  | bool b => unfold RdC at *; exact h
  | str s => unfold RdC at *; exact h
  | raw u => unfold RdC at *; exact h
  | sl sz cs => cases hf
theorem RdUs.flat_any {w w' : World} {S S' : Nat → Prop} {cs : List C} {us : List Value} (hf : ∀ c ∈ cs, flatC c = true) (h : RdUs w S cs us) : RdUs w' S' cs us :=
  ⟨h.1, fun j c u h1 h2 => (h.2 j c u h1 h2).flat_any (hf c (List.mem_of_getElem? h1))⟩
theorem bytesC_flat (l : List UInt8) : ∀ c ∈ bytesC l, flatC c = true := by
  intro c hc
  simp [bytesC] at hc
  obtain ⟨x, _, rfl⟩ := hc
  rfl

/-- A slice of the call's own, in whose elements only blocks of T occur. -/
def OwnT (T : Nat → Prop) (w : World) (base : Nat) (e : TypeId) (sz : Nat) (v : Value) (cs : List C) : Prop :=
  ∃ n us, w.ownsRow base e sz v n us ∧ RdUs w (fun b => T b ∧ b < w.heap.size ∧ v.ownBlock ≠ some b) cs us

section
variable {w w' : World} {S S' T : Nat → Prop} {base : Nat} {e : TypeId} {sz : Nat} {v : Value} {cs : List C}
theorem OwnT.own (h : OwnT T w base e sz v cs) : Own w base e sz v cs := by
  obtain ⟨n, us, h1, h2⟩ := h
  exact ⟨n, us, h1, h2.keep_ (fun _ _ => rfl) fun b hb => hb.2⟩
theorem OwnT.nil_ (T : Nat → Prop) (w : World) (base : Nat) (e : TypeId) (sz : Nat) : OwnT T w base e sz (.slice none 0 0) [] := ⟨0, [], World.ownsRow_nil _ _ _ _, rfl, fun _ _ _ h _ => by simp at h⟩
theorem OwnT.rdT (h : OwnT T w base e sz v cs) : RdC w (fun b => (T b ∨ base ≤ b) ∧ b < w.heap.size) (.sl sz cs) v := by
  obtain ⟨n, us, ho, hr⟩ := h
  have hl : cs.length = n * sz := by rw [hr.1, ho.1]
  rcases ho.2 with ⟨rfl, rfl⟩ | ⟨g, cap, cur, rfl, hb, hg, hn, hm, hs, ht⟩
  · have : cs = [] := List.eq_nil_of_length_eq_zero (by simpa using hl)
    subst this
    exact RdC.nil_ sz
  · refine RdC.mk_slice hl hn hm fun _ => ⟨⟨g, 0, none⟩, rfl, ⟨.inr hb, (Array.getElem?_eq_some_iff.1 hg).1⟩, fun j c hj => ?_⟩
    have hjl : j < us.length := by rw [← hr.1]; exact (List.getElem?_eq_some_iff.1 hj).1
    have hu : us[j]? = some us[j] := List.getElem?_eq_getElem hjl
    refine ⟨us[j], ?_, (hr.2 j c _ hj hu).mono fun b hb => ⟨.inl hb.1, hb.2.1⟩⟩
    have key : ∀ u, us[j]? = some u → w.cell? ⟨g, j, none⟩ = some u := by
      intro u hu
      rw [← ht, List.getElem?_take] at hu
      split at hu
      · simpa [World.cell?, hg] using hu
      · cases hu
    have e1 := key _ hu
    unfold Addr.add
    split
    · rename_i h0; subst h0; exact e1
    · simpa using e1
theorem OwnT.new {a0 : World} (h : OwnT (fun b => a0.heap.size ≤ b) w a0.heap.size e sz v cs) : RdC w (New a0 w) (.sl sz cs) v := h.rdT.mono fun b hb => ⟨by rcases hb.1 with h | h <;> exact h, hb.2⟩
theorem OwnT.newF {a0 : World} (h : OwnT (fun _ => False) w a0.heap.size e sz v cs) : RdC w (New a0 w) (.sl sz cs) v := h.rdT.mono fun b hb => ⟨by rcases hb.1 with h | h; exact h.elim; exact h, hb.2⟩
theorem OwnT.rd (h : OwnT T w base e sz v cs) : Rd w (.sl sz cs) v := h.rdT.mono fun _ hb => hb.2
theorem OwnT.shape (h : OwnT T w base e sz v cs) : ∃ A n cap, v = .slice A n cap ∧ cs.length = n * sz ∧ n ≤ cap ∧ cap ≤ maxLen := RdC.slice h.rd
theorem OwnT.base_le (h : OwnT T w base e sz v cs) : ∀ k, v.ownBlock = some k → base ≤ k ∧ k < w.heap.size := h.own.base_le
theorem OwnT.ext (h : OwnT T w base e sz v cs) (hx : Ext w w') : OwnT T w' base e sz v cs := by
  obtain ⟨n, us, ho, hr⟩ := h
  refine ⟨n, us, ⟨ho.1, ?_⟩, hr.keep_ (fun b hb => hx.block b hb.2.1) (fun b hb => ⟨hb.1, Nat.lt_of_lt_of_le hb.2.1 hx.size, hb.2.2⟩)⟩
  rcases ho.2 with h1 | ⟨g, cap, cur, hv, hb, hg, r⟩
  · exact .inl h1
  · exact .inr ⟨g, cap, cur, hv, hb, by rw [hx.block g (Array.getElem?_eq_some_iff.1 hg).1]; exact hg, r⟩
/-- A row that has just been laid. -/
theorem OwnT.made {us : List Value} {n : Nat} (hn : cs.length = n * sz) (hm : n ≤ maxLen) (h : RdUs w S cs us) (hS : ∀ b, S b → T b ∧ b < w.heap.size) (hb : base ≤ w.heap.size) :
    OwnT T (w.alloc (.cells us.toArray e)) base e sz (.slice (some ⟨w.heap.size, 0, none⟩) n n) cs := by
  have hul : us.length = n * sz := by rw [← h.1, hn]
  refine ⟨n, us, ⟨hul, .inr ⟨w.heap.size, n, us.toArray, rfl, hb, heap_alloc_new w _, Nat.le_refl _, hm, by simpa using hul, by simp [← hul]⟩⟩, h.keep_ (fun b hb => Below.heap_alloc w _ b (hS b hb).2) (fun b hb => ⟨(hS b hb).1, by have := (hS b hb).2; simp; omega, fun e => ?_⟩)⟩
  have := (hS b hb).2
  simp [Value.ownBlock] at e
  omega

theorem run_append_T {P : Program} (w : World) (base : Nat) (t ty e : TypeId) (i : TypeInfo) (z : Value) (sz bytes : Nat) (ht : P.underlying t = some (.slice e)) (hi : P.info? e = some i) (hz : i.zero = some z)
    (hsize : i.size = sz) (hby : i.bytes = bytes) (hzs : z.cells.size = sz) (hsz : 0 < sz)
    (v : Value) (cs : List C) (hown : OwnT T w base e sz v cs) (A : Option Addr) (m c : Nat) (cs' : List C) (us' : List Value) (hl' : us'.length = m * sz)
    (hc' : 0 < m → ∃ ad, A = some ad ∧ ∀ j u, us'[j]? = some u → w.cell? (ad.add j) = some u)
    (hu' : RdUs w (fun b => T b ∧ b < w.heap.size ∧ v.ownBlock ≠ some b) cs' us') (hlen : (cs.length + cs'.length) * bytes ≤ 140737488355328) (hbytes : 0 < bytes) (hbase : base ≤ w.heap.size) :
    ∃ v' w', (Builtin.append_ #[t, t] ty #[v, .slice A m c]).run P w = .ok v' w' ∧ OwnT T w' base e sz v' (cs ++ cs') ∧ w.grownBy w' v.ownBlock ∧ (v'.ownBlock = v.ownBlock ∨ v'.ownBlock = some w.heap.size) := by
  obtain ⟨n, us, ho, hu⟩ := hown
  have hcl : cs.length = n * sz := by rw [hu.1, ho.1]
  have hcl' : cs'.length = m * sz := by rw [hu'.1, hl']
  have hnm : n + m ≤ cs.length + cs'.length := by
    rw [hcl, hcl']
    have := Nat.le_mul_of_pos_right n hsz
    have := Nat.le_mul_of_pos_right m hsz
    omega
  have hb : (n + m) * bytes ≤ 140737488355328 := Nat.le_trans (Nat.mul_le_mul_right _ hnm) hlen
  have h63 : n + m ≤ maxLen := by
    have := Nat.le_mul_of_pos_right (n + m) hbytes
    unfold maxLen
    omega
  have fin : ∀ v' w', w'.ownsRow base e sz v' (n + m) (us ++ us') → w.grownBy w' v.ownBlock → (v'.ownBlock = v.ownBlock ∨ v'.ownBlock = some w.heap.size) → OwnT T w' base e sz v' (cs ++ cs') := by
    intro v' w' h1 h2 h3
    refine ⟨n + m, us ++ us', h1, (hu.append hu').keep_ (fun b hb => h2.block b hb.2.1 (fun e => hb.2.2 e.symm)) (fun b hb => ⟨hb.1, Nat.lt_of_lt_of_le hb.2.1 h2.size, ?_⟩)⟩
    rcases h3 with h3 | h3 <;> rw [h3]
    · exact hb.2.2
    · intro e; injection e with e; have := hb.2.1; omega
  have h1 : ∀ u ∈ us', u.oneCell' = true := by
    intro u hu1
    obtain ⟨j, hj, rfl⟩ := List.getElem_of_mem hu1
    have hj' : j < cs'.length := by rw [hu'.1]; exact hj
    exact (hu'.2 j cs'[j] _ (List.getElem?_eq_getElem hj') (List.getElem?_eq_getElem hj)).one
  rcases Nat.eq_zero_or_pos m with hm | hm
  · subst hm
    have e1 : us' = [] := List.eq_nil_of_length_eq_zero (by simpa using hl')
    subst e1
    cases A with
    | none =>
      have hrun : (Builtin.append_ #[t, t] ty #[v, .slice none 0 c]).run P w = .ok v w := by
        rcases ho.2 with ⟨rfl, rfl⟩ | ⟨g, cap, cur, rfl, _, _, hnc, _⟩
        · simp [Builtin.append_, run_underlying ht, sizeOf, typeInfo, hi, Builtin.lenOf, Builtin.firstCells]
        · simp [Builtin.append_, run_underlying ht, sizeOf, typeInfo, hi, Builtin.lenOf, Builtin.firstCells, hnc, storeCells]
      exact ⟨v, w, hrun, fin v w (by simpa using ho) (World.grownBy.refl w _) (.inl rfl), World.grownBy.refl w _, .inl rfl⟩
    | some ad =>
      obtain ⟨v', w', hrun, h2, h3, _, h5⟩ := run_append_own_at (P := P) w base t ty e i z sz bytes ht hi hz hsize hby hzs hsz v n us ho ad 0 c [] hl' (fun j u h => by simp at h) h1 h63 hb hbase
      exact ⟨v', w', hrun, fin v' w' h2 h3 h5, h3, h5⟩
  · obtain ⟨ad, rfl, hc⟩ := hc' hm
    obtain ⟨v', w', hrun, h2, h3, _, h5⟩ := run_append_own_at (P := P) w base t ty e i z sz bytes ht hi hz hsize hby hzs hsz v n us ho ad m c us' hl' hc h1 h63 hb hbase
    exact ⟨v', w', hrun, fin v' w' h2 h3 h5, h3, h5⟩

theorem wp_app_T {P : Program} {t : TypeId} {bytes : Nat} (H : SlT P t e sz bytes) {a0 : World} {o : Oper} {a : Act} {K : Act → World → Prop} {Q : Exit → Act → World → Prop} (s x : Operand)
    (ho : o.op = .call { callee := .builtin .append, args := #[s, x], argTypes := #[t, t] }) (hx0 : Ext a0 w) (hown : OwnT T w a0.heap.size e sz v cs) (hs : a.eval s = v)
    {A : Option Addr} {m c : Nat} {cs' : List C} {us' : List Value} (hx : a.eval x = .slice A m c) (hl' : us'.length = m * sz) (hc' : 0 < m → ∃ ad, A = some ad ∧ ∀ j u, us'[j]? = some u → w.cell? (ad.add j) = some u)
    (hu' : RdUs w (fun b => T b ∧ b < w.heap.size ∧ v.ownBlock ≠ some b) cs' us') (hlen : (cs.length + cs'.length) * bytes ≤ 140737488355328)
    (h : ∀ A' n' c' w', OwnT T w' a0.heap.size e sz (.slice A' n' c') (cs ++ cs') → Ext a0 w' → w.grownBy w' v.ownBlock → ((Value.slice A' n' c').ownBlock = v.ownBlock ∨ (Value.slice A' n' c').ownBlock = some w.heap.size) → K (a.put o.dst (.slice A' n' c')) w') :
    o.wp P a w K Q := by
  obtain ⟨i, z, h1, h2, h3, h4, h5⟩ := H.hi
  obtain ⟨v', w', hrun, g1, g2, g3⟩ := run_append_T (P := P) w a0.heap.size t o.type e i z sz bytes H.ht h1 h2 h3 h4 h5 H.hsz v cs hown A m c cs' us' hl' hc' hu' hlen H.hby hx0.size
  obtain ⟨A', n', c', rfl, _⟩ := g1.shape
  unfold Oper.wp execOp
  simp only [ho, resolve, invoke, builtin, Sem.run_bind, Sem.run_pure, Result.andThen_ok, List.map_toArray, List.map_cons, List.map_nil, hs, hx, hrun]
  exact h A' n' c' w' g1 (hx0.grown g2 fun k hk => (hown.base_le k hk).1) g2 g3

/-- append of a slice whose elements lie where T says. -/
theorem wpList_appT {P : Program} {t : TypeId} {bytes : Nat} (H : SlT P t e sz bytes) {a0 : World} {ops : Array Oper} {rest : List Oper} {o : Oper} {a : Act} {Q : Exit → Act → World → Prop} (hgd : o.guard = none) (s x : Operand)
    (ho : o.op = .call { callee := .builtin .append, args := #[s, x], argTypes := #[t, t] }) (hx0 : Ext a0 w) (hown : OwnT T w a0.heap.size e sz v cs) (hs : a.eval s = v)
    {A : Option Addr} {m c : Nat} {cs' : List C} (hx : a.eval x = .slice A m c) (hr : RdC w (fun b => T b ∧ b < w.heap.size ∧ v.ownBlock ≠ some b) (.sl sz cs') (.slice A m c)) (hlen : (cs.length + cs'.length) * bytes ≤ 140737488355328)
    (h : ∀ A' n' c' w', OwnT T w' a0.heap.size e sz (.slice A' n' c') (cs ++ cs') → Ext a0 w' → w.grownBy w' v.ownBlock → ((Value.slice A' n' c').ownBlock = v.ownBlock ∨ (Value.slice A' n' c').ownBlock = some w.heap.size) → wpList P ops Q rest (a.put o.dst (.slice A' n' c')) w') :
    wpList P ops Q (o :: rest) a w := by
  obtain ⟨us', hl', hu', hc'⟩ := RdC.vals hr
  exact wpList_plain hgd fun _ hK => wp_app_T H s x ho hx0 hown hs hx hl' (fun hm => by obtain ⟨ad, e1, _, e3⟩ := hc' hm; exact ⟨ad, e1, e3⟩) hu' hlen fun A' n' c' w' h1 h2 h3 h4 => hK _ _ (h A' n' c' w' h1 h2 h3 h4)

/-- append of a slice of numbers, texts, truth values: wherever it lies. -/
theorem wpList_appF {P : Program} {t : TypeId} {bytes : Nat} (H : SlT P t e sz bytes) {a0 : World} {ops : Array Oper} {rest : List Oper} {o : Oper} {a : Act} {Q : Exit → Act → World → Prop} (hgd : o.guard = none) (s x : Operand)
    (ho : o.op = .call { callee := .builtin .append, args := #[s, x], argTypes := #[t, t] }) (hx0 : Ext a0 w) (hown : OwnT T w a0.heap.size e sz v cs) (hs : a.eval s = v)
    {A : Option Addr} {m c : Nat} {cs' : List C} (hx : a.eval x = .slice A m c) (hr : RdC w S (.sl sz cs') (.slice A m c)) (hf : ∀ c ∈ cs', flatC c = true) (hlen : (cs.length + cs'.length) * bytes ≤ 140737488355328)
    (h : ∀ A' n' c' w', OwnT T w' a0.heap.size e sz (.slice A' n' c') (cs ++ cs') → Ext a0 w' → w.grownBy w' v.ownBlock → ((Value.slice A' n' c').ownBlock = v.ownBlock ∨ (Value.slice A' n' c').ownBlock = some w.heap.size) → wpList P ops Q rest (a.put o.dst (.slice A' n' c')) w') :
    wpList P ops Q (o :: rest) a w := by
  obtain ⟨us', hl', hu', hc'⟩ := RdC.vals hr
  exact wpList_plain hgd fun _ hK => wp_app_T H s x ho hx0 hown hs hx hl' (fun hm => by obtain ⟨ad, e1, _, e3⟩ := hc' hm; exact ⟨ad, e1, e3⟩) (hu'.flat_any hf) hlen fun A' n' c' w' h1 h2 h3 h4 => hK _ _ (h A' n' c' w' h1 h2 h3 h4)

/-- append of one element, which has just been laid in a new block. -/
theorem wpList_appT1 {P : Program} {t : TypeId} {bytes : Nat} (H : SlT P t e sz bytes) {a0 : World} {ops : Array Oper} {rest : List Oper} {o : Oper} {a : Act} {Q : Exit → Act → World → Prop} (hgd : o.guard = none) (s x : Operand)
    (ho : o.op = .call { callee := .builtin .append, args := #[s, x], argTypes := #[t, t] }) (hx0 : Ext a0 w) (hown : OwnT T w a0.heap.size e sz v cs) (hs : a.eval s = v)
    {us : List Value} {cs1 : List C} (hu : RdUs w (fun b => T b ∧ b < w.heap.size ∧ v.ownBlock ≠ some b) cs1 us) (h1 : cs1.length = sz) {B : Nat} (hx : a.eval x = .slice (some ⟨B, 0, none⟩) 1 1) (hB : B = w.heap.size) (hlen : (cs.length + cs1.length) * bytes ≤ 140737488355328)
    (h : ∀ A' n' c' w', OwnT T w' a0.heap.size e sz (.slice A' n' c') (cs ++ cs1) → Ext a0 w' → w.grownBy w' v.ownBlock → ((Value.slice A' n' c').ownBlock = v.ownBlock ∨ (Value.slice A' n' c').ownBlock = some (w.heap.size + 1)) → wpList P ops Q rest (a.put o.dst (.slice A' n' c')) w') :
    wpList P ops Q (o :: rest) a (w.alloc (.cells us.toArray e)) := by
  subst hB
  have hu2 : RdUs (w.alloc (.cells us.toArray e)) (fun b => T b ∧ b < (w.alloc (.cells us.toArray e)).heap.size ∧ v.ownBlock ≠ some b) cs1 us := hu.keep_ (fun b hb => Below.heap_alloc w _ b hb.2.1) (fun b hb => ⟨hb.1, by have := hb.2.1; simp; omega, hb.2.2⟩)
  refine wpList_plain hgd fun _ hK => wp_app_T H s x ho (hx0.alloc _) (hown.ext ((Ext.refl _).alloc _)) hs hx (by rw [← hu.1, h1, Nat.one_mul]) (fun _ => ⟨_, rfl, fun j u hj => ?_⟩) hu2 hlen fun A' n' c' w' g1 g2 g3 g4 => hK _ _ (h A' n' c' w' g1 g2 (grown_of_alloc g3 fun k hk => (hown.base_le k hk).2) (by simpa using g4))
  have hjl : j < us.length := (List.getElem?_eq_some_iff.1 hj).1
  have e1 : (w.alloc (.cells us.toArray e)).cell? ⟨w.heap.size, j, none⟩ = some u := by
    simp only [World.cell?, heap_alloc_new]
    simpa using hj
  unfold Addr.add
  split
  · rename_i h0; subst h0; exact e1
  · simpa using e1
end
theorem ret_val {v v' : Value} (h : v = v') : Ending.returned v = .returned v' := by rw [h]
/-- A byte of a slice of bytes. -/
theorem RdC.byte {w : World} {S : Nat → Prop} {l : List UInt8} {n cap : Nat} {A : Option Addr} (h : RdC w S (.sl 1 (bytesC l)) (.slice A n cap)) {k : Nat} (hk : k < n) :
    ∃ ad x, A = some ad ∧ S ad.block ∧ l[k]? = some x ∧ w.cell? (ad.add k) = some (.int .u8 x.toNat) := by
  have hl := (RdC.len h).1
  obtain ⟨ad, hA, hS, hc⟩ := h.cells (by omega)
  have hk' : k < l.length := by simp [bytesC] at hl; omega
  obtain ⟨u, c0, r0⟩ := hc k (.int .u8 l[k].toNat) (by simp [bytesC, hk'])
  exact ⟨ad, l[k], hA, hS, List.getElem?_eq_getElem hk', by rw [c0, r0.int_.1]⟩
theorem bytesC_length (l : List UInt8) : (bytesC l).length = l.length := by simp [bytesC]
theorem RdC.blen {w : World} {S : Nat → Prop} {l : List UInt8} {n cap : Nat} {A : Option Addr} (h : RdC w S (.sl 1 (bytesC l)) (.slice A n cap)) : l.length = n ∧ n ≤ cap ∧ cap ≤ maxLen := by
  have := (RdC.len h)
  rw [bytesC_length] at this
  exact ⟨by omega, this.2⟩
theorem bytesC_append (a b : List UInt8) : bytesC (a ++ b) = bytesC a ++ bytesC b := by simp [bytesC]
theorem conv_bytes {P : Program} {w : World} (src e dst : TypeId) (hs : P.underlying src = some (.slice e)) (he : P.underlying e = some (.int .u8)) (hd : P.underlying dst = some .string)
    {l : List UInt8} {A : Option Addr} {n c : Nat} (h : Rd w (.sl 1 (bytesC l)) (.slice A n c)) : (convert src dst (.slice A n c)).run P w = .ok (.string ⟨l.toArray⟩) w := by
  have hl := (RdC.blen h).1
  have key : ∀ a, A = some a → (loadCells a n).run P w = .ok ((l.map fun x => (x.toNat : Int)).map (Value.int .u8)).toArray w := by
    intro a ha
    have h1 := run_loadCells_list (P := P) w a ((l.map fun x => (x.toNat : Int)).map (Value.int .u8)) (fun j v hj => by
      have hj' : j < n := by
        rcases Nat.lt_or_ge j n with h | h
        · exact h
        · rw [List.getElem?_eq_none (by simpa [hl] using h)] at hj; cases hj
      obtain ⟨ad, x, e1, -, e2, e3⟩ := RdC.byte h hj'
      rw [ha] at e1
      injection e1 with e1
      subst e1
      rw [e3]
      simp [e2] at hj
      rw [hj])
    simpa [hl] using h1
  rw [run_convert_bytes_string w src dst e A n c hs he hd]
  cases A with
  | none =>
    have h0 : n = 0 := by
      rcases Nat.eq_zero_or_pos n with h0 | h0
      · exact h0
      · obtain ⟨ad, _, e1, _⟩ := RdC.byte h h0; cases e1
    have : l = [] := List.eq_nil_of_length_eq_zero (by omega)
    subst this
    simp [Conv.bytesToString]
    rfl
  | some a =>
    rw [run_bytesToString w a n c _ (key a rfl), foldl_push_bytes]
    have e : (l.map fun x => (x.toNat : Int)).map (fun n => UInt8.ofNat n.toNat) = l := by
      rw [List.map_map]
      exact (List.map_congr_left (fun x _ => by simp)).trans (List.map_id l)
    rw [e]
    simp [ByteArray.empty, ByteArray.emptyWithCapacity]
    rfl
/-- The four cells of a struct of the call's own. -/
theorem four {wr : World} {g : Nat} {a b c d : Value} {t : TypeId} (h : wr.heap[g]? = some (.cells #[a, b, c, d] t)) :
    (wr.cell? { block := g, off := 0 } = some a ∧ wr.cell? { block := g, off := 1 } = some b ∧ wr.cell? { block := g, off := 2 } = some c ∧ wr.cell? { block := g, off := 3 } = some d) ∧
    (wr.frozen? { block := g, off := 0 } = false ∧ wr.frozen? { block := g, off := 1 } = false ∧ wr.frozen? { block := g, off := 2 } = false ∧ wr.frozen? { block := g, off := 3 } = false) := by
  simp [World.cell?, World.frozen?, h]
/-- A row that has just been laid, at the place as the walk spells it. -/
theorem OwnT.madeAt {w : World} {S T : Nat → Prop} {base : Nat} {e : TypeId} {sz : Nat} {cs : List C} {us : List Value} {n : Nat} (B : Nat) (hB : B = w.heap.size) (hn : cs.length = n * sz) (hm : n ≤ maxLen) (h : RdUs w S cs us) (hS : ∀ b, S b → T b ∧ b < w.heap.size) (hb : base ≤ w.heap.size) :
    OwnT T (w.alloc (.cells us.toArray e)) base e sz (.slice (some ⟨B, 0, none⟩) n n) cs := by
  subst hB
  exact OwnT.made hn hm h hS hb
theorem blk_set {w : World} {g i : Nat} {cs : Array Value} {t : TypeId} (h : w.heap[g]? = some (.cells cs t)) (u : Value) : (w.setCell { block := g, off := i } u).heap[g]? = some (.cells (cs.setIfInBounds i u) t) := by
  simp [World.setCell, Array.getElem?_modify, h]
theorem byteNat (n : Nat) : ((UInt8.ofNat (n % 256)).toNat : Int) = (n : Int) % 256 := by
  rw [UInt8.toNat_ofNat', Nat.mod_eq_of_lt (by omega)]; omega
theorem rdByte {w : World} {S : Nat → Prop} {x : UInt8} {E : Int} (h : E = (x.toNat : Int)) : RdUs w S (bytesC [x]) [.int .u8 E] := by
  subst h
  exact RdUs.int_ (u8_range (by have := x.toNat_lt; omega))
/-- append of a flat slice, at a step of a region that draws its order. -/
theorem step_appF {P : Program} {T S : Nat → Prop} {t e : TypeId} {sz bytes : Nat} (H : SlT P t e sz bytes) {a0 w : World} {ops : Array Oper} {o : Oper} {a : Act} {K : Act → World → Prop} {Q : Exit → Act → World → Prop} {E : Prop} (hgd : o.guard = none) (s x : Operand)
    (ho : o.op = .call { callee := .builtin .append, args := #[s, x], argTypes := #[t, t] }) {v : Value} {cs : List C} (hx0 : Ext a0 w) (hown : OwnT T w a0.heap.size e sz v cs) (hs : a.eval s = v)
    {A : Option Addr} {m c : Nat} {cs' : List C} (hx : a.eval x = .slice A m c) (hr : RdC w S (.sl sz cs') (.slice A m c)) (hf : ∀ c ∈ cs', flatC c = true) (hlen : (cs.length + cs'.length) * bytes ≤ 140737488355328)
    (h : ∀ A' n' c' w', OwnT T w' a0.heap.size e sz (.slice A' n' c') (cs ++ cs') → Ext a0 w' → w.grownBy w' v.ownBlock → ((Value.slice A' n' c').ownBlock = v.ownBlock ∨ (Value.slice A' n' c').ownBlock = some w.heap.size) → K (a.put o.dst (.slice A' n' c')) w') :
    if Region.wanted o (yielded ops a.tmps) = true then Oper.wp P o a w K Q else E := by
  have hw : Region.wanted o (yielded ops a.tmps) = true := by simp [Region.wanted, hgd]
  rw [if_pos hw]
  obtain ⟨us', hl', hu', hc'⟩ := RdC.vals hr
  exact wp_app_T H s x ho hx0 hown hs hx hl' (fun hm => by obtain ⟨ad, e1, _, e3⟩ := hc' hm; exact ⟨ad, e1, e3⟩) (hu'.flat_any hf) hlen h
theorem u8wrap (t : Int) : IntKind.u8.wrap t = t % 256 := by simp [IntKind.wrap, IntKind.bits, IntKind.signed]
theorem OwnT.more {T : Nat → Prop} {w : World} {base base' : Nat} {e : TypeId} {sz : Nat} {v : Value} {cs : List C} (h : OwnT T w base e sz v cs) (hb : base' ≤ base) : OwnT T w base' e sz v cs := by
  obtain ⟨n, us, ho, hr⟩ := h
  refine ⟨n, us, ⟨ho.1, ?_⟩, hr⟩
  rcases ho.2 with h1 | ⟨g, cap, cur, hv, hg, r⟩
  · exact .inl h1
  · exact .inr ⟨g, cap, cur, hv, by omega, r⟩
theorem RdC.sub {w : World} {S : Nat → Prop} {l : List UInt8} {ad : Addr} {m c : Nat} (h : RdC w S (.sl 1 (bytesC l)) (.slice (some ad) m c)) {o k : Nat} (ho : 0 < o) (hok : o + k ≤ m) {A' : Option Addr} {c' : Nat} (hA : 0 < k → A' = some { block := ad.block, off := ad.off + o }) (hc : k ≤ c' ∧ c' ≤ maxLen) :
    RdC w S (.sl 1 (bytesC ((l.drop o).take k))) (.slice A' k c') := by
  have := RdC.cut h (i := o) (j := o + k) (cap' := c') (A' := A') (by omega) hok (by omega) hc.2 (fun a ha hlt => by injection ha with ha; subst ha; rw [hA (by omega)]; simp [Addr.add]; omega)
  rw [show o + k - o = k by omega, Nat.mul_one, Nat.mul_one] at this
  simpa [bytesC, List.map_drop, List.map_take] using this
theorem RdC.from {w : World} {S : Nat → Prop} {l : List UInt8} {ad : Addr} {m c : Nat} (h : RdC w S (.sl 1 (bytesC l)) (.slice (some ad) m c)) {o : Nat} (ho : o < m) {A' : Option Addr} {c' : Nat} (hA : A' = some (ad.add o)) (hc : m - o ≤ c' ∧ c' ≤ maxLen) :
    RdC w S (.sl 1 (bytesC (l.drop o))) (.slice A' (m - o) c') := by
  have hl := (RdC.blen h).1
  have := RdC.cut h (i := o) (j := m) (cap' := c') (A' := A') (by omega) (Nat.le_refl _) (by omega) hc.2 (fun a ha hlt => by injection ha with ha; subst ha; rw [hA]; simp)
  rw [Nat.mul_one, Nat.mul_one, List.take_of_length_le (by rw [List.length_drop, bytesC_length]; omega)] at this
  simpa [bytesC, List.map_drop] using this
/-- Bytes, laid by a literal. -/
theorem bytes_lit (w : World) (l : List UInt8) (n : Nat) (hn : l.length = n) (hm : n ≤ maxLen) : Rd (w.alloc (.cells (l.map fun x => Value.int .u8 x.toNat).toArray 5)) (.sl 1 (bytesC l)) (.slice (some ⟨w.heap.size, 0, none⟩) n n) := by
  refine (OwnT.madeAt (T := fun _ => True) (base := 0) (e := 5) (sz := 1) (n := n) (S := fun _ => False) w.heap.size rfl (by simp [bytesC, hn]) hm ⟨by simp [bytesC], fun j c u h1 h2 => ?_⟩ (fun b hb => hb.elim) (Nat.zero_le _)).rd
  simp only [bytesC, List.getElem?_map, Option.map_eq_some_iff] at h1 h2
  obtain ⟨x, h1, rfl⟩ := h1
  obtain ⟨y, h2, rfl⟩ := h2
  rw [h1] at h2
  injection h2 with h2
  subst h2
  unfold RdC
  exact ⟨rfl, u8_range ⟨by omega, by have := x.toNat_lt; omega⟩⟩
theorem rdTwo {w : World} {S : Nat → Prop} {x y : UInt8} {E F : Int} (h : E = (x.toNat : Int)) (h' : F = (y.toNat : Int)) : RdUs w S (bytesC [x, y]) [.int .u8 E, .int .u8 F] := by
  have := (rdByte (w := w) (S := S) h).append (rdByte (w := w) (S := S) h')
  exact this
/-- Only block g of what was there has turned. -/
structure ExtD (g : Nat) (w w' : World) : Prop where
  os : w'.os = w.os
  tape : w'.tape = w.tape
  output : w'.output = w.output
  size : w.heap.size ≤ w'.heap.size
  block : ∀ k, k < w.heap.size → k ≠ g → w'.heap[k]? = w.heap[k]?
section
variable {g : Nat} {a b c w w' : World}
theorem ExtD.refl (g : Nat) (w : World) : ExtD g w w := ⟨rfl, rfl, rfl, Nat.le_refl _, fun _ _ _ => rfl⟩
theorem ExtD.of (h : Ext a b) : ExtD g a b := ⟨h.os, h.tape, h.output, h.size, fun k hk _ => h.block k hk⟩
theorem ExtD.trans (h : ExtD g a b) (k : ExtD g b c) : ExtD g a c :=
  ⟨k.os.trans h.os, k.tape.trans h.tape, k.output.trans h.output, Nat.le_trans h.size k.size, fun i hi hne => (k.block i (Nat.lt_of_lt_of_le hi h.size) hne).trans (h.block i hi hne)⟩
theorem ExtD.alloc (h : ExtD g a b) (o : Obj) : ExtD g a (b.alloc o) := h.trans (ExtD.of ((Ext.refl _).alloc _))
theorem ExtD.drewN (h : ExtD g a b) (n : Nat) : ExtD g a (b.drewN n) := ⟨h.os, h.tape, h.output, h.size, h.block⟩
theorem ExtD.setCell (h : ExtD g a b) {p : Addr} (hp : p.block = g ∨ a.heap.size ≤ p.block) (u : Value) : ExtD g a (b.setCell p u) :=
  ⟨h.os, h.tape, h.output, by simpa using h.size, fun k hk hne => (Below.heap_setCell _ _ _ _ (by rcases hp with e | e <;> omega)).trans (h.block k hk hne)⟩
theorem ExtD.grown {row : Option Nat} (h : ExtD g a w) (hg : w.grownBy w' row) (hr : ∀ k, row = some k → a.heap.size ≤ k) : ExtD g a w' :=
  ⟨hg.os.trans h.os, hg.tape.trans h.tape, hg.output.trans h.output, Nat.le_trans h.size hg.size, fun k hk hne => (hg.block k (Nat.lt_of_lt_of_le hk h.size) (fun e => by have := hr k (by rw [e]); omega)).trans (h.block k hk hne)⟩
/-- What came behind the dice's block is new. -/
theorem ExtD.ext {w0 : World} (hx : Ext w0 a) (hg : w0.heap.size ≤ g) (h : ExtD g a b) : Ext w0 b :=
  ⟨h.os.trans hx.os, h.tape.trans hx.tape, h.output.trans hx.output, Nat.le_trans hx.size h.size, fun k hk => (h.block k (Nat.lt_of_lt_of_le hk hx.size) (by omega)).trans (hx.block k hk)⟩
theorem RdC.new_d {s : C} {v : Value} (h : RdC a (New w a) s v) (hg : g < w.heap.size) (hx : ExtD g a b) : RdC b (New w b) s v :=
  RdC.keep_ (fun k hk => hx.block k hk.2 (by have := hk.1; omega)) (fun k hk => ⟨hk.1, Nat.lt_of_lt_of_le hk.2 hx.size⟩) _ _ h
end
def intsC (l : List Int) : List C := l.map fun x => .int .i64 x
theorem intsC_length (l : List Int) : (intsC l).length = l.length := by simp [intsC]
theorem two {wr : World} {g : Nat} {a b : Value} {t : TypeId} (h : wr.heap[g]? = some (.cells #[a, b] t)) :
    (wr.cell? { block := g, off := 0 } = some a ∧ wr.cell? { block := g, off := 1 } = some b) ∧ (wr.frozen? { block := g, off := 0 } = false ∧ wr.frozen? { block := g, off := 1 } = false) := by
  simp [World.cell?, World.frozen?, h]
theorem ints_at {w : World} {S : Nat → Prop} {l : List Int} {A : Option Addr} {n c : Nat} (h : RdC w S (.sl 1 (intsC l)) (.slice A n c)) {k : Nat} (hk : k < n) :
    ∃ ad x, A = some ad ∧ S ad.block ∧ x ∈ l ∧ w.cell? (ad.add k) = some (.int .i64 x) ∧ (-9223372036854775808 ≤ x ∧ x ≤ 9223372036854775807) := by
  have hl := (RdC.len h).1
  obtain ⟨ad, hA, hS, hc⟩ := h.cells (by omega)
  have hk' : k < l.length := by rw [intsC_length] at hl; omega
  obtain ⟨u, c0, r0⟩ := hc k (.int .i64 l[k]) (by simp [intsC, hk'])
  refine ⟨ad, l[k], hA, hS, List.getElem_mem hk', by rw [c0, r0.int_.1], ?_⟩
  have h1 : IntKind.i64.min = -9223372036854775808 := by decide
  have h2 : IntKind.i64.max = 9223372036854775807 := by decide
  have := r0.int_.2
  rw [h1, h2] at this
  exact this
theorem ints_us {w : World} {S : Nat → Prop} {l : List Int} (h : ∀ x ∈ l, -9223372036854775808 ≤ x ∧ x ≤ 9223372036854775807) : RdUs w S (intsC l) (l.map (Value.int .i64)) := by
  refine ⟨by simp [intsC], fun j c u h1 h2 => ?_⟩
  simp only [intsC, List.getElem?_map, Option.map_eq_some_iff] at h1 h2
  obtain ⟨x, h1, rfl⟩ := h1
  obtain ⟨y, h2, rfl⟩ := h2
  rw [h1] at h2
  injection h2 with h2
  subst h2
  unfold RdC
  exact ⟨rfl, i64_range (h x (List.mem_of_getElem? h1))⟩
/-- Numbers, laid by a literal. -/
theorem ints_lit {g : Nat} {w : World} (hg : g < w.heap.size) (l : List Int) (n : Nat) (hn : l.length = n) (hm : n ≤ 1000) (h : ∀ x ∈ l, -9223372036854775808 ≤ x ∧ x ≤ 9223372036854775807) :
    RdC (w.alloc (.cells (l.map (Value.int .i64)).toArray 3)) (fun b => b < (w.alloc (.cells (l.map (Value.int .i64)).toArray 3)).heap.size ∧ b ≠ g) (.sl 1 (intsC l)) (.slice (some ⟨w.heap.size, 0, none⟩) n n) :=
  RdC.fresh (S := fun _ => False) (by rw [intsC_length, hn]; omega) (by unfold maxLen; omega) (ints_us h) (fun _ h => h.elim) _ (fun _ h => h.elim) ⟨by simp, by omega⟩
def strsC (l : List ByteArray) : List C := l.map .str
theorem strs_at {w : World} {S : Nat → Prop} {l : List ByteArray} {A : Option Addr} {n c : Nat} (h : RdC w S (.sl 1 (strsC l)) (.slice A n c)) {k : Nat} (hk : k < n) :
    ∃ ad x, A = some ad ∧ S ad.block ∧ x ∈ l ∧ w.cell? (ad.add k) = some (.string x) := by
  have hl := (RdC.len h).1
  obtain ⟨ad, hA, hS, hc⟩ := h.cells (by omega)
  have hk' : k < l.length := by simp [strsC] at hl; omega
  obtain ⟨u, c0, r0⟩ := hc k (.str l[k]) (by simp [strsC, hk'])
  exact ⟨ad, l[k], hA, hS, List.getElem_mem hk', by rw [c0, r0.str_.1]⟩
theorem strs_us {w : World} {S : Nat → Prop} {l : List ByteArray} (h : ∀ x ∈ l, x.size ≤ 1000) : RdUs w S (strsC l) (l.map Value.string) := by
  refine ⟨by simp [strsC], fun j c u h1 h2 => ?_⟩
  simp only [strsC, List.getElem?_map, Option.map_eq_some_iff] at h1 h2
  obtain ⟨x, h1, rfl⟩ := h1
  obtain ⟨y, h2, rfl⟩ := h2
  rw [h1] at h2
  injection h2 with h2
  subst h2
  unfold RdC
  exact ⟨rfl, by have := h x (List.mem_of_getElem? h1); unfold maxLen; omega⟩
theorem strs_lit {g : Nat} {w : World} (hg : g < w.heap.size) (l : List ByteArray) (n : Nat) (hn : l.length = n) (hm : n ≤ 1000) (h : ∀ x ∈ l, x.size ≤ 1000) :
    RdC (w.alloc (.cells (l.map Value.string).toArray 9)) (fun b => b < (w.alloc (.cells (l.map Value.string).toArray 9)).heap.size ∧ b ≠ g) (.sl 1 (strsC l)) (.slice (some ⟨w.heap.size, 0, none⟩) n n) :=
  RdC.fresh (S := fun _ => False) (by simp [strsC, hn]) (by unfold maxLen; omega) (strs_us h) (fun _ h => h.elim) _ (fun _ h => h.elim) ⟨by simp, by omega⟩
/-! regions whose operations only add to the world -/
structure EW (w0 : World) where
  w : World
  h : Ext w0 w
instance (w0 : World) : Nonempty (EW w0) := ⟨⟨w0, Ext.refl w0⟩⟩
theorem wp_region_quietE {P : Program} {id : Nat} {Q : Exit → Act → World → Prop} {a : Act} {w : World} {l : List Oper} (hm : P.follows .mixedOrders = true) (hB : Region.lexB .any l.toArray = true)
    (h : wpQuiet P l.toArray (fun w' => ∃ x : EW w, w' = x.w) (fun a' => ∀ w', (∃ x : EW w, w' = x.w) → Q .normal a' w') l a) : (Code.region id l.toArray true).wp P Q a w :=
  wp_region_quiet (C := fun w' => ∃ x : EW w, w' = x.w) hm hB ⟨⟨_, (Ext.refl w).drew⟩, rfl⟩ (by simpa using h)
theorem Calls.ew {P : Program} {f : FuncId} {args : Array Value} {wc : World} {x : EW wc} {v : Value} (h : ∀ w', Ext wc w' → Calls P f args w' fun e w'' => e = .returned v ∧ Ext w' w'') :
    Calls P f args x.w fun e w'' => e = .returned v ∧ ∃ y : EW wc, w'' = y.w :=
  (h x.w x.h).mono fun _ w'' hh => ⟨hh.1, ⟨w'', x.h.trans hh.2⟩, rfl⟩
section
variable {T : Nat → Prop} {w : World} {base : Nat} {e : TypeId} {n c : Nat} {A : Option Addr} {cs : List C}
/-- Where a row of the call's own lies. -/
theorem OwnT.at_ (h : OwnT T w base e 1 (.slice A n c) cs) (hn : 0 < n) : ∃ g, A = some ⟨g, 0, none⟩ ∧ base ≤ g ∧ g < w.heap.size ∧ n ≤ c ∧ c ≤ maxLen ∧ (∀ j, w.frozen? ⟨g, j, none⟩ = false) := by
  obtain ⟨m, us, ho, -⟩ := h
  rcases ho.2 with ⟨h1, -⟩ | ⟨g, cap, cur, hv, hb, hg, hm, hc, -⟩
  · injection h1 with _ h2 _
    omega
  · injection hv with h1 h2 h3
    subst h1 h2 h3
    exact ⟨g, rfl, hb, (Array.getElem?_eq_some_iff.1 hg).1, hm, hc, fun j => by simp [World.frozen?, hg]⟩
/-- Its beginning is one, too. -/
theorem OwnT.head (h : OwnT T w base e 1 (.slice A n c) cs) (hn : 0 < n) {i : Nat} (hi : i ≤ n) : OwnT T w base e 1 (.slice A i c) (cs.take i) := by
  obtain ⟨m, us, ho, hr⟩ := h
  rcases ho.2 with ⟨h1, -⟩ | ⟨g, cap, cur, hv, hb, hg, hm, hc, hs, ht⟩
  · injection h1 with _ h2 _
    omega
  · injection hv with h1 h2 h3
    subst h1 h2 h3
    have hl := ho.1
    refine ⟨i, us.take i, ⟨by rw [List.length_take, hl]; omega, .inr ⟨g, c, cur, rfl, hb, hg, by omega, hc, hs, ?_⟩⟩, ?_⟩
    · rw [← ht, List.take_take]
      congr 1
      omega
    · refine ⟨by rw [List.length_take, List.length_take, hr.1], fun j x u h1 h2 => ?_⟩
      rw [List.getElem?_take] at h1 h2
      split at h1
      · rename_i hj
        rw [if_pos hj] at h2
        exact hr.2 j x u h1 h2
      · cases h1
/-- One byte is written. -/
theorem OwnT.put {A' : Nat} {l : List UInt8} (h : OwnT (fun _ => False) w base 5 1 (.slice (some ⟨A', 0, none⟩) n c) (bytesC l)) {i : Nat} (hi : i < n) (y : UInt8) :
    OwnT (fun _ => False) (w.setCell { block := A', off := i } (.int .u8 (y.toNat : Int))) base 5 1 (.slice (some ⟨A', 0, none⟩) n c) (bytesC (l.set i y)) := by
  obtain ⟨m, us, ho, hr⟩ := h
  rcases ho.2 with ⟨h1, -⟩ | ⟨g, cap, cur, hv, hb, hg, hm, hc, hs, ht⟩
  · injection h1 with h1 _ _
    cases h1
  · injection hv with h1 h2 h3
    injection h1 with h1
    injection h1 with h1
    subst h1 h2 h3
    have hl := ho.1
    refine ⟨n, us.set i (.int .u8 (y.toNat : Int)), ⟨by rw [List.length_set]; exact hl, .inr ⟨A', c, cur.setIfInBounds i (.int .u8 (y.toNat : Int)), rfl, hb, blk_set hg _, hm, hc, by simpa using hs, ?_⟩⟩, ?_⟩
    · rw [← ht, Array.toList_setIfInBounds, List.take_set]
    · refine ⟨?_, fun j x u h1 h2 => ?_⟩
      · have := hr.1
        rw [bytesC_length] at this ⊢
        rw [List.length_set, List.length_set, this]
      · simp only [bytesC, List.getElem?_map, Option.map_eq_some_iff] at h1
        obtain ⟨z, h1, rfl⟩ := h1
        rw [List.getElem?_set] at h1 h2
        by_cases e : i = j
        · rw [if_pos e] at h1 h2
          split at h1
          · split at h2
            · injection h1 with h1
              injection h2 with h2
              subst h1 h2
              unfold RdC
              exact ⟨rfl, u8_range ⟨by omega, by have := y.toNat_lt; omega⟩⟩
            · cases h2
          · cases h1
        · rw [if_neg e] at h1 h2
          have := (hr.2 j (.int .u8 z.toNat) u (by simp [bytesC, h1]) h2)
          unfold RdC at this ⊢
          exact this
theorem OwnT.headB {l : List UInt8} (h : OwnT T w base e 1 (.slice A n c) (bytesC l)) (hn : 0 < n) {i : Nat} (hi : i ≤ n) : OwnT T w base e 1 (.slice A i c) (bytesC (l.take i)) := by
  have := h.head hn hi
  simpa [bytesC, List.map_take] using this
theorem OwnT.byte_at {l : List UInt8} {g : Nat} (h : OwnT T w base e 1 (.slice (some ⟨g, 0, none⟩) n c) (bytesC l)) {i : Nat} (hi : i < n) : ∃ x : UInt8, w.cell? { block := g, off := i } = some (.int .u8 x.toNat) := by
  obtain ⟨ad, x, e1, -, -, e2⟩ := RdC.byte h.rd hi
  injection e1 with e1
  subst e1
  refine ⟨x, ?_⟩
  unfold Addr.add at e2
  split at e2
  · rename_i h0; subst h0; exact e2
  · simpa using e2
theorem OwnT.put' {g : Nat} {l : List UInt8} (h : OwnT (fun _ => False) w base 5 1 (.slice (some ⟨g, 0, none⟩) n c) (bytesC l)) {i : Nat} (hi : i < n) (y : Nat) (hy : y ≤ 255) :
    OwnT (fun _ => False) (w.setCell { block := g, off := i } (.int .u8 (y : Int))) base 5 1 (.slice (some ⟨g, 0, none⟩) n c) (bytesC (l.set i (UInt8.ofNat y))) := by
  have := h.put hi (UInt8.ofNat y)
  rwa [UInt8.toNat_ofNat', Nat.mod_eq_of_lt (by omega)] at this
end
theorem own_sub {w : World} {g n c : Nat} {l : List UInt8} (h : Rd w (.sl 1 (bytesC l)) (.slice (some ⟨g, 0, none⟩) n c)) {i : Nat} {A' : Option Addr} {q c' : Nat} (hi : i ≤ n) (hq : q = n - i) (hA : 0 < q → A' = some { block := g, off := i }) (hc : q ≤ c' ∧ c' ≤ maxLen) :
    Rd w (.sl 1 (bytesC ((l.drop i).take q))) (.slice A' q c') := by
  have := RdC.cut h (i := i) (j := n) (cap' := c') (A' := A') hi (Nat.le_refl _) (by omega) hc.2 (fun a ha hlt => by
    injection ha with ha
    subst ha
    rw [hA (by omega)]
    unfold Addr.add
    split
    · rename_i h0; have : i = 0 := by omega
      subst this; rfl
    · simp)
  rw [← hq, Nat.mul_one, Nat.mul_one] at this
  show RdC _ _ _ _
  simpa [bytesC, List.map_drop, List.map_take] using this
/-! append to a row of the call's own, in a world in which the dice have turned -/
section
variable {P : Program} {w w' : World} {T : Nat → Prop} {base : Nat} {e : TypeId} {sz : Nat} {v : Value} {cs : List C}
theorem wp_app_B {t : TypeId} {bytes : Nat} (H : SlT P t e sz bytes) {base : Nat} {o : Oper} {a : Act} {K : Act → World → Prop} {Q : Exit → Act → World → Prop} (s x : Operand)
    (ho : o.op = .call { callee := .builtin .append, args := #[s, x], argTypes := #[t, t] }) (hx0 : base ≤ w.heap.size) (hown : OwnT T w base e sz v cs) (hs : a.eval s = v)
    {A : Option Addr} {m c : Nat} {cs' : List C} {us' : List Value} (hx : a.eval x = .slice A m c) (hl' : us'.length = m * sz) (hc' : 0 < m → ∃ ad, A = some ad ∧ ∀ j u, us'[j]? = some u → w.cell? (ad.add j) = some u)
    (hu' : RdUs w (fun b => T b ∧ b < w.heap.size ∧ v.ownBlock ≠ some b) cs' us') (hlen : (cs.length + cs'.length) * bytes ≤ 140737488355328)
    (h : ∀ A' n' c' w', OwnT T w' base e sz (.slice A' n' c') (cs ++ cs') → w.grownBy w' v.ownBlock → ((Value.slice A' n' c').ownBlock = v.ownBlock ∨ (Value.slice A' n' c').ownBlock = some w.heap.size) → K (a.put o.dst (.slice A' n' c')) w') :
    o.wp P a w K Q := by
  obtain ⟨i, z, h1, h2, h3, h4, h5⟩ := H.hi
  obtain ⟨v', w', hrun, g1, g2, g3⟩ := run_append_T (P := P) w base t o.type e i z sz bytes H.ht h1 h2 h3 h4 h5 H.hsz v cs hown A m c cs' us' hl' hc' hu' hlen H.hby hx0
  obtain ⟨A', n', c', rfl, _⟩ := g1.shape
  unfold Oper.wp execOp
  simp only [ho, resolve, invoke, builtin, Sem.run_bind, Sem.run_pure, Result.andThen_ok, List.map_toArray, List.map_cons, List.map_nil, hs, hx, hrun]
  exact h A' n' c' w' g1 g2 g3
/-- append of one element, which has just been laid in a new block. -/
theorem wpList_appB1 {t : TypeId} {bytes : Nat} (H : SlT P t e sz bytes) {base : Nat} {ops : Array Oper} {rest : List Oper} {o : Oper} {a : Act} {Q : Exit → Act → World → Prop} (hgd : o.guard = none) (s x : Operand)
    (ho : o.op = .call { callee := .builtin .append, args := #[s, x], argTypes := #[t, t] }) (hx0 : base ≤ w.heap.size) (hown : OwnT T w base e sz v cs) (hs : a.eval s = v)
    {us : List Value} {cs1 : List C} (hu : RdUs w (fun b => T b ∧ b < w.heap.size ∧ v.ownBlock ≠ some b) cs1 us) (h1 : cs1.length = sz) {B : Nat} (hx : a.eval x = .slice (some ⟨B, 0, none⟩) 1 1) (hB : B = w.heap.size) (hlen : (cs.length + cs1.length) * bytes ≤ 140737488355328)
    (h : ∀ A' n' c' w', OwnT T w' base e sz (.slice A' n' c') (cs ++ cs1) → w.grownBy w' v.ownBlock → wpList P ops Q rest (a.put o.dst (.slice A' n' c')) w') :
    wpList P ops Q (o :: rest) a (w.alloc (.cells us.toArray e)) := by
  subst hB
  have hu2 : RdUs (w.alloc (.cells us.toArray e)) (fun b => T b ∧ b < (w.alloc (.cells us.toArray e)).heap.size ∧ v.ownBlock ≠ some b) cs1 us := hu.keep_ (fun b hb => Below.heap_alloc w _ b hb.2.1) (fun b hb => ⟨hb.1, by have := hb.2.1; simp; omega, hb.2.2⟩)
  refine wpList_plain hgd fun _ hK => wp_app_B H s x ho (by simp; omega) (hown.ext ((Ext.refl _).alloc _)) hs hx (by rw [← hu.1, h1, Nat.one_mul]) (fun _ => ⟨_, rfl, fun j u hj => ?_⟩) hu2 hlen fun A' n' c' w' g1 g3 g4 => hK _ _ (h A' n' c' w' g1 (grown_of_alloc g3 fun k hk => (hown.base_le k hk).2))
  have hjl : j < us.length := (List.getElem?_eq_some_iff.1 hj).1
  have e1 : (w.alloc (.cells us.toArray e)).cell? ⟨w.heap.size, j, none⟩ = some u := by
    simp only [World.cell?, heap_alloc_new]
    simpa using hj
  unfold Addr.add
  split
  · rename_i h0; subst h0; exact e1
  · simpa using e1
/-- An own row, while only the dice turn. -/
theorem OwnT.dice {g : Nat} {a b : World} (h : OwnT T a base e sz v cs) (hg : g < base) (hT : ∀ k, T k → k ≠ g) (hx : ExtD g a b) : OwnT T b base e sz v cs := by
  obtain ⟨n, us, ho, hr⟩ := h
  refine ⟨n, us, ⟨ho.1, ?_⟩, hr.keep_ (fun k hk => hx.block k hk.2.1 (hT k hk.1)) (fun k hk => ⟨hk.1, Nat.lt_of_lt_of_le hk.2.1 hx.size, hk.2.2⟩)⟩
  rcases ho.2 with h1 | ⟨q, cap, cur, hv, hb, hq, r⟩
  · exact .inl h1
  · exact .inr ⟨q, cap, cur, hv, hb, by rw [hx.block q (Array.getElem?_eq_some_iff.1 hq).1 (by omega)]; exact hq, r⟩
end
theorem ints_litB {g : Nat} {w : World} {B : Nat} (hB : B = w.heap.size) (hg : g < w.heap.size) (l : List Int) (n : Nat) (hn : l.length = n) (hm : n ≤ 1000) (h : ∀ x ∈ l, -9223372036854775808 ≤ x ∧ x ≤ 9223372036854775807) :
    RdC (w.alloc (.cells (l.map (Value.int .i64)).toArray 3)) (fun b => b < (w.alloc (.cells (l.map (Value.int .i64)).toArray 3)).heap.size ∧ b ≠ g) (.sl 1 (intsC l)) (.slice (some ⟨B, 0, none⟩) n n) := by
  subst hB
  exact ints_lit hg l n hn hm h
end Go.Proofs.Ythjgcmifggdepaa
