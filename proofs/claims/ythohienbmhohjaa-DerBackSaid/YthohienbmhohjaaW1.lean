/- The walks: tags, searches in lists, well-formedness, depth. -/
import Derived.Test.YthohienbmhohjaaRows
import Derived.Test.YthohienbmhohjaaSpec
import Derived.WalkKit
import Derived.WalkSpells
import Derived.WalkLawsBesides
import Derived.Deep.QuietTactic
import Derived.BigQuiet
import Derived.Lib.Hide
namespace Go.Proofs.Ythohienbmhohjaa
open Go.RowKit

theorem ret_val {v v' : Value} (h : v = v') : Ending.returned v = .returned v' := by rw [h]
theorem ofInt_i64 (a : Nat) (ha : a < 9223372036854775808) : (BitVec.ofInt 64 (a : Int)).toNat = a := by
  rw [BitVec.ofInt_natCast, BitVec.toNat_ofNat]; exact Nat.mod_eq_of_lt (by omega)
theorem i64_and_nat (a b : Nat) (ha : a < 9223372036854775808) (hb : b < 9223372036854775808) : bits .and .i64 (a : Int) (b : Int) = ((a &&& b : Nat) : Int) := by
  have hx : a &&& b < 2 ^ 63 := Nat.and_lt_two_pow _ (by omega)
  show IntKind.i64.wrap ((BitVec.ofInt 64 (a : Int) &&& BitVec.ofInt 64 (b : Int)).toNat : Int) = _
  rw [BitVec.toNat_and, ofInt_i64 a ha, ofInt_i64 b hb, IntKind.wrap_i64]
  omega
theorem and31 {t : Int} (h1 : 1 ≤ t) (h2 : t ≤ 255) : bits .and .i64 t 31 = t % 32 := by
  obtain ⟨n, rfl⟩ := Int.eq_ofNat_of_zero_le (show 0 ≤ t by omega)
  have := i64_and_nat n 31 (by omega) (by omega)
  rw [show ((31 : Nat) : Int) = 31 by rfl] at this
  rw [this, and31_nat n (by omega)]
  omega
theorem and32 {t : Int} (h1 : 1 ≤ t) (h2 : t ≤ 255) : (bits .and .i64 t 32 != 0) = nestB t := by
  obtain ⟨n, rfl⟩ := Int.eq_ofNat_of_zero_le (show 0 ≤ t by omega)
  have := i64_and_nat n 32 (by omega) (by omega)
  rw [show ((32 : Nat) : Int) = 32 by rfl] at this
  rw [this]
  have h := and32_nat n
  unfold nestB
  rw [Bool.eq_iff_iff]
  simp only [bne_iff_ne, beq_iff_eq, ne_eq]
  omega

set_option maxHeartbeats 400000 in
theorem tag_any (t : Int) (w : World) :
    Calls Try.prog 65 #[.int .i64 t] w fun e w' => e = .returned (.bool (tagB t)) ∧ w = w' := by
  by_cases h1 : 1 ≤ t
  · by_cases h2 : t ≤ 255
    · have e := and31 h1 h2
      go_enter Try.func65, Try.ntmps65
      go_wp2
      go_ret
      exact ⟨ret_val (by simp [tagB, h1, h2]), rfl⟩
    · go_enter Try.func65, Try.ntmps65
      go_wp2
      go_ret
      exact ⟨ret_val (by simp [tagB]; omega), rfl⟩
  · go_enter Try.func65, Try.ntmps65
    go_wp2
    go_ret
    exact ⟨ret_val (by simp [tagB]; omega), rfl⟩

set_option maxHeartbeats 400000 in
theorem rtag_any (t : Int) (w : World) :
    Calls Try.prog 69 #[.int .i64 t] w fun e w' => e = .returned (.bool (tagB t)) ∧ w = w' := by
  by_cases h1 : 1 ≤ t
  · by_cases h2 : t ≤ 255
    · go_enter Try.func69, Try.ntmps69
      go_wp2
      go_ret
      exact ⟨ret_val (by simp [tagB, h1, h2]), rfl⟩
    · go_enter Try.func69, Try.ntmps69
      go_wp2
      go_ret
      exact ⟨ret_val (by simp [tagB]; omega), rfl⟩
  · go_enter Try.func69, Try.ntmps69
    go_wp2
    go_ret
    exact ⟨ret_val (by simp [tagB]; omega), rfl⟩

theorem enters {f : FuncId} {fn : Func} (hf : Try.prog.funcs[f]? = some fn) (h1 : (fn.name == "runtime.NumGoroutine") = false) (h2 : fn.body.isNone = false) (args : Array Value) (w : World) :
    (callFunc f args).run Try.prog w = .ok (.enter f args) w := by
  have h1' : ¬ fn.name = "runtime.NumGoroutine" := by simpa using h1
  have h2' : ¬ fn.body = none := by intro e; rw [e] at h2; cases h2
  simp [callFunc, hf, h1', h2']

def idxOf {α : Type} (p : α → Bool) (es : List α) : Int := if es.any p then (es.findIdx p : Int) else -1
theorem findIdx_at {α : Type} {p : α → Bool} {es : List α} {k : Nat} {d : α} (hd : es[k]? = some d) (hn : ∀ j d', j < k → es[j]? = some d' → p d' = false) (hp : p d = true) : idxOf p es = k := by
  have hm : d ∈ es := List.mem_of_getElem? hd
  have hk : k < es.length := (List.getElem?_eq_some_iff.1 hd).1
  unfold idxOf
  rw [if_pos (List.any_eq_true.2 ⟨d, hm, hp⟩)]
  have : es.findIdx p = k := by
    rw [List.findIdx_eq hk]
    obtain ⟨_, e⟩ := List.getElem?_eq_some_iff.1 hd
    exact ⟨by rw [e]; exact hp, fun j hj => hn j _ hj (List.getElem?_eq_getElem (by omega))⟩
  rw [this]
theorem findIdx_none {α : Type} {p : α → Bool} {es : List α} (hn : ∀ j d', j < es.length → es[j]? = some d' → p d' = false) : idxOf p es = -1 := by
  unfold idxOf
  rw [if_neg]
  intro h
  obtain ⟨d, hm, hp⟩ := List.any_eq_true.1 h
  obtain ⟨j, hj, e⟩ := List.getElem_of_mem hm
  have := hn j d hj (by rw [List.getElem?_eq_getElem hj, e])
  rw [hp] at this
  cases this
theorem idxOf_ge {α : Type} (p : α → Bool) (es : List α) : decide (0 ≤ idxOf p es) = es.any p := by
  unfold idxOf
  split <;> simp_all
theorem idxOf_step {α : Type} {p : α → Bool} {es : List α} {k : Nat} {d : α} (hd : es[k]? = some d) (hp : p d = false) (hn : ∀ j d', j < k → es[j]? = some d' → p d' = false) : ∀ j d', j < k + 1 → es[j]? = some d' → p d' = false := by
  intro j d' hj h
  rcases Nat.lt_or_ge j k with h1 | h1
  · exact hn j d' h1 h
  · obtain rfl : j = k := by omega
    rw [hd] at h
    injection h with h
    exact h ▸ hp

set_option maxHeartbeats 400000 in
theorem index_any (f : FuncId) (hcf : ∀ args w, (callFunc f args).run Try.prog w = .ok (.enter f args) w) (es : List V) (p : V → Bool) (A : Option Addr) (n c : Nat) (w : World) (h : Rd w (.sl 4 (encs es)) (.slice A n c))
    (hf : ∀ d ∈ es, ∀ v w', RdVal w' d v → Calls Try.prog f #[v] w' fun e w'' => e = .returned (.bool (p d)) ∧ Ext w' w'') :
    Calls Try.prog 74 #[.slice A n c, .func (.func f) #[] #[]] w fun e w' => e = .returned (.int .i64 (idxOf p es)) ∧ Ext w w' := by
  have hl := (RdC.len h).1
  have hn : n ≤ 9223372036854775807 := by have := (RdC.len h); unfold maxLen at this; omega
  rw [encs_length] at hl
  have Hl : Hid (es.length = n) := by show es.length = n; omega
  clear hl
  have HF := Lib.hid hf
  clear hf
  go_enter Try.func74, Try.ntmps74
  go_wp2
  go_loopw [4, 5, 8] (fun r i j wr => ∃ k : Nat, k ≤ n ∧ j = .int .i64 k ∧ Ext w wr ∧ Hid (∀ j d', j < k → es[j]? = some d' → p d' = false)) (fun _ _ j _ => n - (intOf j).toNat)
  case atStart => exact ⟨0, by omega, rfl, Ext.refl _, fun _ _ h => absurd h (by omega)⟩
  case round =>
    obtain ⟨k, hk, rfl, hb, HN⟩ := hrel
    by_cases hlt : k < n
    · obtain ⟨ad, t, b, nst, es', Ab', nb', cb', Ae', ne', ce', rfl, -, hd, hv, c0, c1, c2, c3⟩ := (h.ext hb).elem hlt
      have HV := Lib.hid hv
      have HD := Lib.hid hd
      clear hv hd
      go_wp2_with fail
      refine (HF.out _ (List.mem_of_getElem? HD.out) _ _ (HV.out)).mono ?_
      rintro e w' ⟨rfl, hb'⟩
      have hb2 := hb.trans hb'
      by_cases hp : p (V.mk t b nst es') = true
      · have HP := Lib.hid hp
        go_wp2
        go_ret
        exact ⟨ret_val (by rw [findIdx_at HD.out HN.out HP.out]; rfl), hb2⟩
      · have hp := eq_false_of_ne_true hp
        have HP := Lib.hid hp
        go_wp2
        go_roundw
        case rel => exact ⟨k + 1, by omega, by go_num, hb2, idxOf_step HD.out HP.out HN.out⟩
        case measure => simp [intOf]; omega
    · go_wp2_with fail
      go_wp2
      go_ret
      exact ⟨ret_val (by rw [findIdx_none (fun j d' hj hd => HN.out j d' (by have := Hl.out; omega) hd)]; rfl), hb⟩

set_option maxHeartbeats 400000 in
theorem contains_any (f : FuncId) (hcf : ∀ args w, (callFunc f args).run Try.prog w = .ok (.enter f args) w) (es : List V) (p : V → Bool) (A : Option Addr) (n c : Nat) (w : World) (h : Rd w (.sl 4 (encs es)) (.slice A n c))
    (hf : ∀ d ∈ es, ∀ v w', RdVal w' d v → Calls Try.prog f #[v] w' fun e w'' => e = .returned (.bool (p d)) ∧ Ext w' w'') :
    Calls Try.prog 58 #[.slice A n c, .func (.func f) #[] #[]] w fun e w' => e = .returned (.bool (es.any p)) ∧ Ext w w' := by
  have HF := Lib.hid hf
  clear hf
  go_enter Try.func58, Try.ntmps58
  go_wp2_with fail
  refine (index_any f hcf es p A n c _ h HF.out).mono ?_
  rintro e w' ⟨rfl, hb⟩
  go_wp2
  go_ret
  exact ⟨ret_val (by rw [← idxOf_ge]; rfl), hb⟩

/-- A byte of a slice of bytes. -/
theorem RdC.byte {w : World} {S : Nat → Prop} {l : List UInt8} {n cap : Nat} {A : Option Addr} (h : RdC w S (.sl 1 (bytesC l)) (.slice A n cap)) {k : Nat} (hk : k < n) :
    ∃ ad x, A = some ad ∧ S ad.block ∧ l[k]? = some x ∧ w.cell? (ad.add k) = some (.int .u8 x.toNat) := by
  have hl := (RdC.len h).1
  obtain ⟨ad, hA, hS, hc⟩ := h.cells (by omega)
  have hk' : k < l.length := by simp [bytesC] at hl; omega
  obtain ⟨u, c0, r0⟩ := hc k (.int .u8 l[k].toNat) (by simp [bytesC, hk'])
  exact ⟨ad, l[k], hA, hS, List.getElem?_eq_getElem hk', by rw [c0, r0.int_.1]⟩
theorem bytesC_length (l : List UInt8) : (bytesC l).length = l.length := by simp [bytesC]
theorem RdC.blen {w : World} {S : Nat → Prop} {l : List UInt8} {n cap : Nat} {A : Option Addr} (h : RdC w S (.sl 1 (bytesC l)) (.slice A n cap)) : l.length = n ∧ n ≤ cap ∧ cap ≤ maxLen := by
  have := (RdC.len h)
  rw [bytesC_length] at this
  exact ⟨by omega, this.2⟩

set_option maxHeartbeats 400000 in
theorem bindex_any (f : FuncId) (hcf : ∀ args w, (callFunc f args).run Try.prog w = .ok (.enter f args) w) (l : List UInt8) (p : UInt8 → Bool) (A : Option Addr) (n c : Nat) (w : World) (h : Rd w (.sl 1 (bytesC l)) (.slice A n c))
    (hf : ∀ x w', Calls Try.prog f #[.int .u8 (x.toNat : Int)] w' fun e w'' => e = .returned (.bool (p x)) ∧ w' = w'') :
    Calls Try.prog 62 #[.slice A n c, .func (.func f) #[] #[]] w fun e w' => e = .returned (.int .i64 (idxOf p l)) ∧ w = w' := by
  have hn : n ≤ 9223372036854775807 := by have := (RdC.blen h); unfold maxLen at this; omega
  have Hl := Lib.hid (RdC.blen h).1
  have HF := Lib.hid hf
  clear hf
  go_enter Try.func62, Try.ntmps62
  go_wp2
  go_loop [4, 5, 8] (fun r i j => ∃ k : Nat, k ≤ n ∧ j = .int .i64 k ∧ Hid (∀ j d', j < k → l[j]? = some d' → p d' = false)) (fun _ _ j => n - (intOf j).toNat)
  case atStart => exact ⟨0, by omega, rfl, fun _ _ h => absurd h (by omega)⟩
  case round =>
    obtain ⟨k, hk, rfl, HN⟩ := hrel
    by_cases hlt : k < n
    · obtain ⟨ad, x, rfl, hS, hd, c0⟩ := RdC.byte h hlt
      have HD := Lib.hid hd
      clear hd
      go_wp2_with fail
      refine (HF.out x _).mono ?_
      rintro e w' ⟨rfl, rfl⟩
      by_cases hp : p x = true
      · have HP := Lib.hid hp
        go_wp2
        go_ret
        exact ⟨ret_val (by rw [findIdx_at HD.out HN.out HP.out]; rfl), rfl⟩
      · have hp := eq_false_of_ne_true hp
        have HP := Lib.hid hp
        go_wp2
        go_round
        case rel => exact ⟨k + 1, by omega, by go_num, idxOf_step HD.out HP.out HN.out⟩
        case measure => simp [intOf]; omega
    · go_wp2_with fail
      go_wp2
      go_ret
      exact ⟨ret_val (by rw [findIdx_none (fun j d' hj hd => HN.out j d' (by have := Hl.out; omega) hd)]; rfl), rfl⟩

set_option maxHeartbeats 400000 in
theorem bcontains_any (f : FuncId) (hcf : ∀ args w, (callFunc f args).run Try.prog w = .ok (.enter f args) w) (l : List UInt8) (p : UInt8 → Bool) (A : Option Addr) (n c : Nat) (w : World) (h : Rd w (.sl 1 (bytesC l)) (.slice A n c))
    (hf : ∀ x w', Calls Try.prog f #[.int .u8 (x.toNat : Int)] w' fun e w'' => e = .returned (.bool (p x)) ∧ w' = w'') :
    Calls Try.prog 35 #[.slice A n c, .func (.func f) #[] #[]] w fun e w' => e = .returned (.bool (l.any p)) ∧ w = w' := by
  have HF := Lib.hid hf
  clear hf
  go_enter Try.func35, Try.ntmps35
  go_wp2_with fail
  refine (bindex_any f hcf l p A n c _ h HF.out).mono ?_
  rintro e w' ⟨rfl, rfl⟩
  go_wp2
  go_ret
  exact ⟨ret_val (by rw [← idxOf_ge]; rfl), rfl⟩
end Go.Proofs.Ythohienbmhohjaa
