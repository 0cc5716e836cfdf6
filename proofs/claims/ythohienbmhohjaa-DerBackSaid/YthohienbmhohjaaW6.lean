/- The walks: texts and truth values, made and read. -/
import Derived.Test.YthohienbmhohjaaW5
import Derived.Test.YthohienbmhohjaaW4
import Derived.Lib.ConvBytes
namespace Go.Proofs.Ythohienbmhohjaa
open Go.RowKit

def textV (s : ByteArray) : V := .mk 12 s.data.toList false []
def boolV (b : Bool) : V := .mk 1 [if b then 255 else 0] false []

theorem bytesWorld_ext (w : World) (e : TypeId) (s : ByteArray) : Ext w (Lib.bytesWorld w e s) :=
  ⟨rfl, rfl, rfl, by rw [Lib.bytesWorld_size]; omega, fun k hk => Lib.bytesWorld_at_old w e s k hk⟩
theorem bytesWorld_rd (w : World) (e : TypeId) (s : ByteArray) (hm : s.size ≤ maxLen) : RdC (Lib.bytesWorld w e s) (New w (Lib.bytesWorld w e s)) (.sl 1 (bytesC s.data.toList)) (.slice (some ⟨w.heap.size, 0, none⟩) s.size (grownCap w s.size 0 e)) := by
  have hsz : s.data.toList.length = s.size := rfl
  refine RdC.mk_slice (by rw [bytesC_length, hsz, Nat.mul_one]) (grownCap_ge _ _ _ _) (grownCap_le_maxLen _ _ _ _ hm) fun _ => ⟨_, rfl, ⟨Nat.le_refl _, by show w.heap.size < _; rw [Lib.bytesWorld_size]; omega⟩, fun j c hj => ?_⟩
  rw [bytesC, List.getElem?_map] at hj
  obtain ⟨x, hx, rfl⟩ := Option.map_eq_some_iff.1 hj
  have hjs : j < s.size := by rw [← hsz]; exact (List.getElem?_eq_some_iff.1 hx).1
  have e1 := Lib.bytesWorld_cell w e s j hjs
  rw [List.getD_eq_getElem?_getD, hx] at e1
  refine ⟨_, ?_, by unfold RdC; exact ⟨rfl, u8_range (by have := x.toNat_lt; omega)⟩⟩
  unfold Addr.add
  split
  · rename_i h0; subst h0; exact e1
  · simpa using e1
theorem conv_new (w : World) (s : ByteArray) (hm : s.size ≤ maxLen) :
    ∃ A n c w1, (convert 9 22 (.string s)).run Try.prog w = .ok (.slice A n c) w1 ∧ RdC w1 (New w w1) (.sl 1 (bytesC s.data.toList)) (.slice A n c) ∧ Ext w w1 :=
  ⟨_, _, _, _, Lib.run_convert_string_bytes (P := Try.prog) w 9 22 5 s Try.underlying9 Try.underlying22 Try.underlying5, bytesWorld_rd w 5 s hm, bytesWorld_ext w 5 s⟩

/-- A struct that is stored into the result's own cells, its parts made behind them. -/
theorem fin4 {w w1 : World} {o : Obj} (hx : Ext (w.alloc o) w1) {t : Int} {b : List UInt8} {nst : Bool} {es : List V} {vb ve : Value} (ht : -9223372036854775808 ≤ t ∧ t ≤ 9223372036854775807)
    (hb : RdC w1 (New (w.alloc o) w1) (.sl 1 (bytesC b)) vb) (he : RdC w1 (New (w.alloc o) w1) (.sl 4 (encs es)) ve) {w' : World}
    (hw : w' = (((w1.setCell { block := w.heap.size, off := 0 } (.int .i64 t)).setCell { block := w.heap.size, off := 1 } vb).setCell { block := w.heap.size, off := 2 } (.bool nst)).setCell { block := w.heap.size, off := 3 } ve) :
    RdV w' (New w w') (.mk t b nst es) (.agg #[.int .i64 t, vb, .bool nst, ve]) ∧ Ext w w' := by
  have hsz : w'.heap.size = w1.heap.size := by subst hw; simp [World.setCell]
  have hk : ∀ b, New (w.alloc o) w1 b → w'.heap[b]? = w1.heap[b]? := by
    intro b hb
    have hb1 := hb.1
    simp at hb1
    have hne : b ≠ w.heap.size := by omega
    subst hw
    rw [Below.heap_setCell _ _ _ _ (by exact hne), Below.heap_setCell _ _ _ _ (by exact hne), Below.heap_setCell _ _ _ _ (by exact hne), Below.heap_setCell _ _ _ _ (by exact hne)]
  have hn : ∀ b, New (w.alloc o) w1 b → New w w' b := by
    intro b hb
    have hb1 := hb.1
    simp at hb1
    exact ⟨by omega, by rw [hsz]; exact hb.2⟩
  refine ⟨RdV.mk_ ht (RdC.keep_ hk hn _ _ hb) (RdC.keep_ hk hn _ _ he), ?_⟩
  subst hw
  exact ((((((Ext.refl _).alloc _).trans hx).setCell (Nat.le_refl _) _).setCell (Nat.le_refl _) _).setCell (Nat.le_refl _) _).setCell (Nat.le_refl _) _

set_option maxRecDepth 100000 in
set_option maxHeartbeats 800000 in
theorem text_any (s : ByteArray) (w : World) (hs : s.size ≤ 1000000000) :
    Calls Try.prog 12 #[.string s] w fun e w' => ∃ v, e = .returned v ∧ RdV w' (New w w') (textV s) v ∧ Ext w w' := by
  obtain ⟨A, n, c, w1, kc, hr, hx⟩ := conv_new (w.alloc (.cells #[.int .i64 0, .slice none 0 0, .bool false, .slice none 0 0] 29)) s (by unfold maxLen; omega)
  obtain ⟨⟨q0, q1, q2, q3⟩, ⟨f0, f1, f2, f3⟩⟩ := four hx.blk
  go_enter Try.func12, Try.ntmps12
  go_wp2
  obtain ⟨h1, h2⟩ := fin4 hx (t := 12) (nst := false) (es := []) (by omega) hr (RdC.nil_ 4) rfl
  exact bodyPost_ret (v := .agg #[.int .i64 12, .slice A n c, .bool false, .slice none 0 0]) (by simp [results, Try.results12, go_sem, q0, q1, q2, q3]) rfl ⟨_, rfl, h1, h2⟩

set_option maxRecDepth 100000 in
set_option maxHeartbeats 800000 in
theorem rtext_any (s : ByteArray) (w : World) (hs : s.size ≤ 1000000000) :
    Calls Try.prog 16 #[.string s] w fun e w' => ∃ v, e = .returned v ∧ RdV w' (New w w') (textV s) v ∧ Ext w w' := by
  obtain ⟨A, n, c, w1, kc, hr, hx⟩ := conv_new (w.alloc (.cells #[.int .i64 0, .slice none 0 0, .bool false, .slice none 0 0] 29)) s (by unfold maxLen; omega)
  obtain ⟨⟨q0, q1, q2, q3⟩, ⟨f0, f1, f2, f3⟩⟩ := four hx.blk
  go_enter Try.func16, Try.ntmps16
  go_wp2
  obtain ⟨h1, h2⟩ := fin4 hx (t := 12) (nst := false) (es := []) (by omega) hr (RdC.nil_ 4) rfl
  exact bodyPost_ret (v := .agg #[.int .i64 12, .slice A n c, .bool false, .slice none 0 0]) (by simp [results, Try.results16, go_sem, q0, q1, q2, q3]) rfl ⟨_, rfl, h1, h2⟩

theorem fin2 (w : World) (x : UInt8) (o : Obj) : RdV ((w.alloc o).alloc (.cells #[.int .u8 x.toNat] 5)) (New w ((w.alloc o).alloc (.cells #[.int .u8 x.toNat] 5))) (.mk 1 [x] false []) (.agg #[.int .i64 1, .slice (some { block := w.heap.size + 1, off := 0 }) 1 1, .bool false, .slice none 0 0]) ∧
    Ext w ((w.alloc o).alloc (.cells #[.int .u8 x.toNat] 5)) := by
  refine ⟨RdV.mk_ (by omega) ?_ (RdC.nil_ 4), ((Ext.refl _).alloc _).alloc _⟩
  have := RdC.fresh (w := w.alloc o) (sz := 1) (cs := bytesC [x]) (us := [.int .u8 x.toNat]) (e := 5) (n := 1) (S := fun _ => False) rfl (by simp [maxLen]) (RdUs.int_ (u8_range (by have := x.toNat_lt; omega))) (fun _ h => h.elim)
    (New w ((w.alloc o).alloc (.cells #[.int .u8 x.toNat] 5))) (fun _ h => h.elim) ⟨by simp, by simp⟩
  simpa using this

set_option maxRecDepth 100000 in
set_option maxHeartbeats 800000 in
theorem bool_any (b : Bool) (w : World) :
    Calls Try.prog 14 #[.bool b] w fun e w' => ∃ v, e = .returned v ∧ RdV w' (New w w') (boolV b) v ∧ Ext w w' := by
  cases b
  · have FIN := Lib.hid (fin2 w 0)
    go_enter Try.func14, Try.ntmps14
    go_wp2
    exact bodyPost_ret (v := .agg #[.int .i64 1, .slice (some { block := w.heap.size + 1, off := 0 }) 1 1, .bool false, .slice none 0 0]) (by simp [results, Try.results14, go_sem]) rfl ⟨_, rfl, FIN.out _⟩
  · have FIN := Lib.hid (fin2 w 255)
    go_enter Try.func14, Try.ntmps14
    go_wp2
    exact bodyPost_ret (v := .agg #[.int .i64 1, .slice (some { block := w.heap.size + 1, off := 0 }) 1 1, .bool false, .slice none 0 0]) (by simp [results, Try.results14, go_sem]) rfl ⟨_, rfl, FIN.out _⟩

set_option maxRecDepth 100000 in
set_option maxHeartbeats 800000 in
theorem rbool_any (b : Bool) (w : World) :
    Calls Try.prog 20 #[.bool b] w fun e w' => ∃ v, e = .returned v ∧ RdV w' (New w w') (boolV b) v ∧ Ext w w' := by
  cases b
  · have FIN := Lib.hid (fin2 w 0)
    go_enter Try.func20, Try.ntmps20
    go_wp2
    exact bodyPost_ret (v := .agg #[.int .i64 1, .slice (some { block := w.heap.size + 1, off := 0 }) 1 1, .bool false, .slice none 0 0]) (by simp [results, Try.results20, go_sem]) rfl ⟨_, rfl, FIN.out _⟩
  · have FIN := Lib.hid (fin2 w 255)
    go_enter Try.func20, Try.ntmps20
    go_wp2
    exact bodyPost_ret (v := .agg #[.int .i64 1, .slice (some { block := w.heap.size + 1, off := 0 }) 1 1, .bool false, .slice none 0 0]) (by simp [results, Try.results20, go_sem]) rfl ⟨_, rfl, FIN.out _⟩


/-! readers -/
/-- A result, or nothing and ErrForm. -/
def orForm (ok : Bool) (good bad : Value) : Value := if ok then .tuple #[good, .int .i64 0] else .tuple #[bad, .int .i64 1]
theorem orForm_no {ok : Bool} {good bad : Value} (h : ok = false) : Value.tuple #[bad, .int .i64 1] = orForm ok good bad := by rw [h]; rfl
theorem orForm_yes {ok : Bool} {good bad : Value} (h : ok = true) : Value.tuple #[good, .int .i64 0] = orForm ok good bad := by rw [h]; rfl
def textOk : V → Bool | .mk t b n es => plainB (.mk t b n es) 12 && !b.any odd
def boolOk : V → Bool | .mk t b n es => plainB (.mk t b n es) 1 && (b == [0] || b == [255])
theorem textOk_eq (t : Int) (b : List UInt8) (n : Bool) (es : List V) : textOk (.mk t b n es) = (plainB (.mk t b n es) 12 && !b.any odd) := rfl
theorem boolOk_eq (t : Int) (b : List UInt8) (n : Bool) (es : List V) : boolOk (.mk t b n es) = (plainB (.mk t b n es) 1 && (b == [0] || b == [255])) := rfl

set_option maxHeartbeats 800000 in
theorem asText_any (t : Int) (b : List UInt8) (nst : Bool) (es : List V) (v : Value) (w : World) (h : RdVal w (.mk t b nst es) v) :
    Calls Try.prog 11 #[v] w fun e w' => e = .returned (orForm (textOk (.mk t b nst es)) (.string ⟨b.toArray⟩) (.string ⟨#[]⟩)) ∧ Ext w w' := by
  obtain ⟨Ab, nb, cb, Ae, ne, ce, rfl, ht, hb, he, HB, HE, hnb, hne⟩ := h.opened
  have HV := Lib.hid h
  clear h
  rw [textOk_eq]
  go_enter Try.func11, Try.ntmps11
  go_wp2_with (first | (go_at_call 33; refine (plain_any t b nst es _ _ (HV.out.ext ((Ext.refl _).alloc _)) 12).mono ?_; rintro e w' ⟨rfl, hx⟩; have hbk := hx.blk; have hb1 := hx.box (i := 1) (v := .slice Ab nb cb) rfl; have kc := conv_bytes (P := Try.prog) 22 5 9 Try.underlying22 Try.underlying5 Try.underlying9 (hb.ext (((Ext.refl _).alloc _).trans hx))) | (go_at_call 35; refine (bcontains_any 36 enters36 b odd _ _ _ _ (hb.ext (((Ext.refl _).alloc _).trans hx)) (fun x w => astext1_any x w)).mono ?_; rintro e w'' ⟨rfl, rfl⟩))
  all_goals go_ret2
  all_goals refine ⟨ret_val ?_, ((Ext.refl _).alloc _).trans hx⟩
  all_goals first | exact orForm_no (by simp [*]) | exact orForm_yes (by simp [*])

theorem plainB_no {t q : Int} {b : List UInt8} {n : Bool} {es : List V} {ne : Nat} (h : Hid (es.length = ne)) (h1 : ¬ t = q ∨ n = true ∨ 0 < ne) : plainB (.mk t b n es) q = false := by
  rw [plainB_eq t b n es q h]
  rcases h1 with h1 | h1 | h1
  · simp [h1]
  · simp [h1]
  · have : (ne == 0) = false := by simp; omega
    simp [this]
theorem plainB_yes {q : Int} {b : List UInt8} {es : List V} {ne : Nat} (h : Hid (es.length = ne)) (h1 : ¬ 0 < ne) : plainB (.mk q b false es) q = true := by
  rw [plainB_eq q b false es q h]; simp; omega
theorem textOk_no {d : V} (h : plainB d 12 = false) : textOk d = false := by obtain ⟨t, b, n, es⟩ := d; rw [textOk_eq, h]; rfl
theorem boolOk_no {d : V} (h : plainB d 1 = false) : boolOk d = false := by obtain ⟨t, b, n, es⟩ := d; rw [boolOk_eq, h]; rfl

set_option maxRecDepth 100000 in
set_option maxHeartbeats 800000 in
theorem rasText_any (t : Int) (b : List UInt8) (nst : Bool) (es : List V) (v : Value) (w : World) (h : RdVal w (.mk t b nst es) v) :
    Calls Try.prog 15 #[v] w fun e w' => e = .returned (orForm (textOk (.mk t b nst es)) (.string ⟨b.toArray⟩) (.string ⟨#[]⟩)) ∧ Ext w w' := by
  obtain ⟨Ab, nb, cb, Ae, ne, ce, rfl, ht, hb, he, HB, HE, hnb, hne⟩ := h.opened
  clear h
  go_enter Try.func15, Try.ntmps15
  go_wp2
  · go_ret2
    exact ⟨ret_val (orForm_no (textOk_no (plainB_no HE (.inl ‹_›)))), (Ext.refl _).alloc _⟩
  · go_ret2
    exact ⟨ret_val (orForm_no (textOk_no (plainB_no HE (.inr (.inl ‹_›))))), (Ext.refl _).alloc _⟩
  · go_ret2
    exact ⟨ret_val (orForm_no (textOk_no (plainB_no HE (.inr (.inr ‹_›))))), (Ext.refl _).alloc _⟩
  · obtain rfl : t = 12 := ‹_›
    obtain rfl : nst = false := ‹_›
    have HP : Hid (plainB (.mk 12 b false es) 12 = true) := plainB_yes HE ‹_›
    have hbo := hb.ext ((Ext.refl _).alloc (.cells #[.int .i64 12, .slice Ab nb cb, .bool false, .slice Ae ne ce] 29))
    have kc := conv_bytes (P := Try.prog) 22 5 9 Try.underlying22 Try.underlying5 Try.underlying9 hbo
    go_loop [4] (fun i => ∃ k : Nat, k ≤ nb ∧ i = .int .i64 k ∧ Hid (∀ j x, j < k → b[j]? = some x → odd x = false)) (fun i => nb - (intOf i).toNat)
    case atStart => exact ⟨0, by omega, rfl, fun _ _ h => absurd h (by omega)⟩
    case round =>
      obtain ⟨k, hk, rfl, HK⟩ := hrel
      by_cases hlt : k < nb
      · obtain ⟨ad, x, rfl, -, hd, c0⟩ := RdC.byte hbo hlt
        have HD := Lib.hid hd
        clear hd
        have HO := Lib.hid (odd_eq x)
        go_wp2
        · go_ret2
          exact ⟨ret_val (orForm_no (by rw [textOk_eq, List.any_eq_true.2 ⟨x, List.mem_of_getElem? HD.out, by rw [HO.out]; simp [*]⟩]; simp)), (Ext.refl _).alloc _⟩
        · go_ret2
          exact ⟨ret_val (orForm_no (by rw [textOk_eq, List.any_eq_true.2 ⟨x, List.mem_of_getElem? HD.out, by rw [HO.out]; simp [*]⟩]; simp)), (Ext.refl _).alloc _⟩
        · go_round
          case rel => exact ⟨k + 1, by omega, by go_num, idxOf_step HD.out (by rw [HO.out]; simp; omega) HK.out⟩
          case measure => simp [intOf]; omega
      · go_wp2
        go_ret2
        refine ⟨ret_val (orForm_yes ?_), (Ext.refl _).alloc _⟩
        rw [textOk_eq, HP.out, List.any_eq_false.2 (fun x hx => ?_)]
        · rfl
        · obtain ⟨j, hj, rfl⟩ := List.getElem_of_mem hx
          have := HK.out j _ (by have := HB.out; omega) (List.getElem?_eq_getElem hj)
          simp [this]
end Go.Proofs.Ythohienbmhohjaa
