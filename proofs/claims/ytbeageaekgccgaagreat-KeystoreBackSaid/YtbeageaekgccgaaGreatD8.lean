/- Elements: bytes that are read. No program is in sight here. -/
import Derived.Test.YtbeageaekgccgaaGreatL3
import Derived.Test.YtbeageaekgccgaaGreatD3
import Derived.Test.YtbeageaekgccgaaGreatD7
set_option linter.unusedVariables false
set_option linter.unusedSimpArgs false
set_option maxRecDepth 100000
namespace Go.Proofs.YtbeageaekgccgaaGreat
open Go
theorem shl8 (x : Int) : shlK .i64 x 8 = some (IntKind.i64.wrap (x * 256)) := rfl
theorem or_low8 (a y : Nat) (h : a % 256 = 0) (hy : y < 256) : a ||| y = a + y := by
  obtain ⟨q, rfl⟩ : ∃ q, a = 256 * q := ⟨a / 256, by omega⟩
  have := Nat.shiftLeft_add_eq_or_of_lt (i := 8) (b := y) (by simpa using hy) q
  rw [Nat.shiftLeft_eq] at this
  rw [Nat.mul_comm 256 q]
  simpa using this.symm
theorem or8_small (a : Nat) (y : UInt8) (h : a < 65536) : orK .i64 (IntKind.i64.wrap ((a : Int) * 256)) (y.toNat : Int) = ((a * 256 + y.toNat : Nat) : Int) := by
  have hy := y.toNat_lt
  have e : IntKind.i64.wrap ((a : Int) * 256) = ((a * 256 : Nat) : Int) := by rw [IntKind.wrap_i64]; omega
  unfold orK
  rw [e]
  have b1 : (BitVec.ofInt IntKind.i64.bits ((a * 256 : Nat) : Int)).toNat = a * 256 := by
    rw [BitVec.ofInt_natCast, BitVec.toNat_ofNat]
    exact Nat.mod_eq_of_lt (show a * 256 < 2 ^ 64 by omega)
  have b2 : (BitVec.ofInt IntKind.i64.bits (y.toNat : Int)).toNat = y.toNat := by
    rw [BitVec.ofInt_natCast, BitVec.toNat_ofNat]
    exact Nat.mod_eq_of_lt (show y.toNat < 2 ^ 64 by omega)
  rw [BitVec.toNat_or, b1, b2, or_low8 _ _ (by omega) hy, IntKind.wrap_i64]
  omega
section
variable {x y z : UInt8} {r : List UInt8}
theorem sz_lt (h : x.toNat < 128) : sizeS (x :: r) = some (x.toNat, 1) := by simp [sizeS, h]
theorem sz_no (h : x.toNat = 128 ∨ 130 < x.toNat) : sizeS (x :: r) = none := by
  unfold sizeS
  dsimp only
  rw [if_neg (by omega), if_neg (by omega), if_neg (by omega)]
theorem sz_1n (h : x.toNat = 129) : sizeS [x] = none := by simp [sizeS, h]
theorem sz_1 (h : x.toNat = 129) : sizeS (x :: y :: r) = if y.toNat < 128 then none else some (y.toNat, 2) := by simp [sizeS, h]
theorem sz_2n (h : x.toNat = 130) : sizeS [x] = none := by simp [sizeS, h]
theorem sz_2m (h : x.toNat = 130) : sizeS [x, y] = none := by simp [sizeS, h]
theorem sz_2 (h : x.toNat = 130) : sizeS (x :: y :: z :: r) = if y.toNat = 0 then none else some (y.toNat * 256 + z.toNat, 3) := by simp [sizeS, h]
theorem lo1 {α : Type} (a : α) : Lo [a] := by unfold Lo; simp
theorem lo2 {α : Type} (a b : α) : Lo [a, b] := by unfold Lo; simp
end
def SizeP (b : List UInt8) (y : Int × Int × Bool) : Prop := match sizeS b with
  | some (n, c) => y = ((n : Int), (c : Int), true)
  | none => y.2.2 = false
theorem der_size (b : List UInt8) (hb : b.length < 1073741824) : Ok (g_der_size b) (SizeP b) := by
  unfold g_der_size SizeP
  cases b with
  | nil => exact Ok.ret rfl
  | cons x r =>
    have hx := x.toNat_lt
    rw [List.length_cons] at hb
    rw [decide_eq_false (by rw [List.length_cons]; omega), cond_false, getI_z]
    refine Ok.bindE (a := x) rfl ?_
    rw [W_id (by omega)]
    have J : ∀ {Q : Int × Int × Bool → Prop}, Q (0, 0, false) → Ok (g_der_size.j1 (x :: r) x true) Q := fun h => Ok.ret h
    by_cases h1 : x.toNat < 128
    · rw [decide_eq_true (by omega)]
      refine Ok.ret ?_
      rw [sz_lt h1]
      rfl
    rw [decide_eq_false (by omega), cond_false]
    by_cases h2 : x.toNat = 128
    · rw [decide_eq_true (by omega)]
      refine J ?_
      rw [sz_no (.inl h2)]
    rw [decide_eq_false (by omega), cond_false]
    by_cases h3 : 130 < x.toNat
    · rw [decide_eq_true (by omega)]
      refine J ?_
      rw [sz_no (.inr h3)]
    rw [decide_eq_false (by omega), cond_false]
    by_cases h4 : x.toNat = 129
    · cases r with
      | nil =>
        rw [decide_eq_true (by simp; omega)]
        refine J ?_
        rw [sz_1n h4]
      | cons y r =>
        have hy := y.toNat_lt
        rw [decide_eq_false (by simp; omega), cond_false]
        refine Ok.bindE (a := y) rfl ?_
        have e0 : sizeS (x :: y :: r) = if y.toNat < 128 then none else some (y.toNat, 2) := sz_1 h4
        rw [e0]
        by_cases h5 : y.toNat = 0
        · rw [decide_eq_true (by omega), if_pos (by omega)]
          exact J rfl
        rw [decide_eq_false (by omega)]
        unfold g_der_size.j1
        rw [cond_false, W_id (x := (x.toNat : Int) - 128) (by omega), W_id (by omega)]
        refine Ok.bindE (a := [y]) ?_ ?_
        · unfold slI
          rw [if_pos (by simp only [List.length_cons]; omega), h4]
          rfl
        · refine Ok.of (loop_fold (body := fun q' => g_der_size.l2 x [y] q'.1 q'.2) [y] (fun s e => orK .i64 (IntKind.i64.wrap (s * 256)) (e.toNat : Int)) 0 (fun n => (n, W (1 + (W ((x.toNat : Int) - 128))), decide (128 ≤ n))) (lo1 _) (fun i e s he => ?_) (fun s => ?_)) ?_
          · show g_der_size.l2 x [y] s (i : Int) = _
            unfold g_der_size.l2
            rw [for_in he, shl8, Option.bind_some]
          · show g_der_size.l2 x [y] s ([y].length : Int) = _
            unfold g_der_size.l2
            rw [for_out]; rfl
          · have e := or8_small 0 y (by omega)
            rw [Nat.zero_mul, Nat.zero_add] at e
            have e' : List.foldl (fun (s : Int) (e : UInt8) => orK .i64 (IntKind.i64.wrap (s * 256)) (e.toNat : Int)) 0 [y] = (y.toNat : Int) := e
            rw [e', W_id (x := (x.toNat : Int) - 128) (by omega), W_id (x := 1 + ((x.toNat : Int) - 128)) (by omega)]
            by_cases h6 : y.toNat < 128
            · rw [if_pos h6]
              show decide _ = false
              rw [decide_eq_false (by omega)]
            · rw [if_neg h6]
              show (_, _, _) = (_, _, _)
              rw [decide_eq_true (by omega), h4]
              simp
    · have h4' : x.toNat = 130 := by omega
      match r with
      | [] =>
        rw [decide_eq_true (by simp; omega)]
        refine J ?_
        rw [sz_2n h4']
      | [y] =>
        rw [decide_eq_true (by simp; omega)]
        refine J ?_
        rw [sz_2m h4']
      | y :: z :: r =>
        have hy := y.toNat_lt
        have hz := z.toNat_lt
        rw [decide_eq_false (by simp; omega), cond_false]
        refine Ok.bindE (a := y) rfl ?_
        have e0 : sizeS (x :: y :: z :: r) = if y.toNat = 0 then none else some (y.toNat * 256 + z.toNat, 3) := sz_2 h4'
        rw [e0]
        by_cases h5 : y.toNat = 0
        · rw [decide_eq_true (by omega), if_pos h5]
          exact J rfl
        rw [decide_eq_false (by omega), if_neg h5]
        unfold g_der_size.j1
        rw [cond_false, W_id (x := (x.toNat : Int) - 128) (by omega), W_id (by omega)]
        refine Ok.bindE (a := [y, z]) ?_ ?_
        · unfold slI
          rw [if_pos (by simp only [List.length_cons]; omega), h4']
          rfl
        · refine Ok.of (loop_fold (body := fun q' => g_der_size.l2 x [y, z] q'.1 q'.2) [y, z] (fun s e => orK .i64 (IntKind.i64.wrap (s * 256)) (e.toNat : Int)) 0 (fun n => (n, W (1 + (W ((x.toNat : Int) - 128))), decide (128 ≤ n))) (lo2 _ _) (fun i e s he => ?_) (fun s => ?_)) ?_
          · show g_der_size.l2 x [y, z] s (i : Int) = _
            unfold g_der_size.l2
            rw [for_in he, shl8, Option.bind_some]
          · show g_der_size.l2 x [y, z] s ([y, z].length : Int) = _
            unfold g_der_size.l2
            rw [for_out]; rfl
          · have e := or8_small 0 y (by omega)
            have e2 := or8_small y.toNat z (by omega)
            rw [Nat.zero_mul, Nat.zero_add] at e
            have e' : List.foldl (fun (s : Int) (e : UInt8) => orK .i64 (IntKind.i64.wrap (s * 256)) (e.toNat : Int)) 0 [y, z] = ((y.toNat * 256 + z.toNat : Nat) : Int) := by
              rw [← e2, ← e]; rfl
            rw [e', W_id (x := (x.toNat : Int) - 128) (by omega), W_id (x := 1 + ((x.toNat : Int) - 128)) (by omega)]
            show (_, _, _) = (_, _, _)
            rw [decide_eq_true (by omega), h4']
            simp
def NextP (b : List UInt8) (y : api_Value × Int × Bool) : Prop := match decOne b with
  | some (v, m) => y = (v, (m : Int), true)
  | none => y.2.2 = false
def AllP (b : List UInt8) (y : List api_Value × Bool) : Prop := match decAll b with
  | some l => y = (l, true)
  | none => y.2 = false
theorem decAll_at {l : List UInt8} {k : Nat} {es0 : List api_Value} (h : decAll l = (decAll (l.drop k)).map (es0 ++ ·)) (hk : k < l.length) {d : api_Value} {m : Nat} (hd : decOne (l.drop k) = some (d, m)) : decAll l = (decAll (l.drop (k + m))).map ((es0 ++ [d]) ++ ·) := by
  rw [h, decAll_eq (l := l.drop k) (fun e => by have := List.drop_eq_nil_iff.1 e; omega), hd]
  dsimp only
  rw [List.drop_drop]
  cases decAll (l.drop (k + m)) <;> simp
theorem decAll_fail {l : List UInt8} {k : Nat} {es0 : List api_Value} (h : decAll l = (decAll (l.drop k)).map (es0 ++ ·)) (hk : k < l.length) (hd : decOne (l.drop k) = none) : decAll l = none := by
  rw [h, decAll_eq (l := l.drop k) (fun e => by have := List.drop_eq_nil_iff.1 e; omega), hd]; rfl
theorem decAll_done {l : List UInt8} {es0 : List api_Value} (h : decAll l = (decAll (l.drop l.length)).map (es0 ++ ·)) : decAll l = some es0 := by
  rw [h, List.drop_length, decAll_nil]; simp
theorem sl_all {α : Type} {l : List α} {k : Nat} (h : k ≤ l.length) : slI l (k : Int) (l.length : Int) = some (l.drop k) := by
  unfold slI
  rw [if_pos (by omega)]
  simp only [Int.toNat_natCast]
  rw [← List.length_drop, List.take_length]
theorem der_all_ok (rec : List UInt8 → Option (api_Value × Int × Bool)) (b : List UInt8) (hb : b.length < 1073741824) (hr : ∀ c, c.length ≤ b.length → Ok (rec c) (NextP c)) : Ok (g_der_all rec b) (AllP b) := by
  unfold g_der_all
  refine Ok.loop (fun s => ∃ k : Nat, s.1 = (k : Int) ∧ k ≤ b.length ∧ s.2.length ≤ k ∧ decAll b = (decAll (b.drop k)).map (s.2 ++ ·)) (fun s => b.length - s.1.toNat) (fun s hs => ?_) ⟨0, rfl, Nat.zero_le _, Nat.le_refl _, by rw [List.drop_zero]; simp⟩
  obtain ⟨at_, out⟩ := s
  obtain ⟨k, rfl, hk, ho, hd⟩ := hs
  dsimp only at hd ho
  show Ok (g_der_all.l1 rec b (k : Int) out) _
  unfold g_der_all.l1
  refine Ok.cond (fun hc => ?_) fun hc => ?_
  · have hc := of_decide_eq_true hc
    refine Ok.bindE (sl_all hk) ?_
    refine Ok.bind (hr (b.drop k) (by rw [List.length_drop]; omega)) fun y hy => ?_
    unfold NextP at hy
    cases hn : decOne (b.drop k) with
    | none =>
      rw [hn] at hy
      dsimp only at hy
      rw [hy, Bool.not_false, cond_true]
      refine Ok.up (Ok.ret ?_)
      unfold AllP
      rw [decAll_fail hd (by omega) hn]
    | some p =>
      obtain ⟨v, m⟩ := p
      rw [hn] at hy
      dsimp only at hy
      subst hy
      have hm := decOne_le hn
      rw [List.length_drop] at hm
      rw [Bool.not_true, cond_false]
      refine Ok.bindE (appI_ok (by rw [List.length_singleton]; omega)) ?_
      rw [W_id (by dsimp only; omega)]
      refine Ok.ret ⟨⟨k + m, by dsimp only; omega, by omega, by rw [List.length_append, List.length_singleton]; omega, decAll_at hd (by omega) hn⟩, ?_⟩
      dsimp only
      omega
  · have hc := of_decide_eq_false hc
    have : k = b.length := by omega
    subst this
    refine Ok.up (Ok.ret ?_)
    unfold AllP
    rw [decAll_done hd]
theorem hdr_cons (x : UInt8) (r : List UInt8) : hdr (x :: r) = if tagB x.toNat = false then none else match sizeS r with
    | none => none
    | some (n, c) => if r.length - c < n then none else some (x.toNat, 1 + c, n) := rfl
theorem nest32 (x : UInt8) (h : tagB x.toNat = true) : (!decide (andK .i64 (x.toNat : Int) 32 = 0)) = nestB x.toNat := by
  have h1 := tag_range h
  exact and32_fin ⟨x.toNat, x.toNat_lt⟩
theorem der_next_F (rec : List UInt8 → Option (api_Value × Int × Bool)) (b : List UInt8) (hb : b.length < 1073741824) (hr : ∀ c, c.length < b.length → Ok (rec c) (NextP c)) : Ok (g_der_next.F rec b) (NextP b) := by
  unfold g_der_next.F
  have J1 : decOne b = none → Ok (g_der_next.j1 rec b true) (NextP b) := fun h => Ok.ret (by unfold NextP; rw [h])
  have J2 : ∀ y, decOne b = none → Ok (g_der_next.j2 rec b y true) (NextP b) := fun y h => Ok.ret (by unfold NextP; rw [h])
  cases b with
  | nil => exact J1 rfl
  | cons x r =>
    have hx := x.toNat_lt
    rw [List.length_cons] at hb
    rw [decide_eq_false (by rw [List.length_cons]; omega), cond_false, getI_z]
    refine Ok.bindE (a := x) rfl (Ok.bindE (der_tag _) ?_)
    cases ht : tagB x.toNat with
    | false => exact J1 (decOne_none (by rw [hdr_cons, if_pos ht]))
    | true =>
      unfold g_der_next.j1
      rw [Bool.not_true, cond_false]
      refine Ok.bindE (a := r) (sl_all (k := 1) (l := x :: r) (by simp)) ?_
      refine Ok.bind (der_size r (by omega)) fun y hy => ?_
      unfold SizeP at hy
      cases hs : sizeS r with
      | none =>
        rw [hs] at hy
        dsimp only at hy
        rw [hy]
        exact J2 y (decOne_none (by rw [hdr_cons, hs]; simp))
      | some p =>
        obtain ⟨n, c⟩ := p
        rw [hs] at hy
        dsimp only at hy
        subst hy
        have hl := sizeS_le hs
        dsimp only
        rw [Bool.not_true, cond_false, List.length_cons, W_id (x := 1 + (c : Int)) (by omega), W_id (by omega)]
        by_cases hlong : r.length - c < n
        · rw [decide_eq_true (by omega)]
          exact J2 _ (decOne_none (by rw [hdr_cons, hs]; simp [hlong]))
        · rw [decide_eq_false (by omega)]
          have hh : hdr (x :: r) = some (x.toNat, 1 + c, n) := by rw [hdr_cons, hs]; simp [ht, hlong]
          unfold g_der_next.j2
          rw [cond_false, getI_z]
          refine Ok.bindE (a := x) rfl ?_
          rw [nest32 x ht]
          dsimp only
          rw [W_id (x := 1 + (c : Int)) (by omega), W_id (by omega)]
          have hsl : slI (x :: r) (1 + (c : Int)) (1 + (c : Int) + (n : Int)) = some (((x :: r).drop (1 + c)).take n) := by
            unfold slI
            rw [if_pos (by rw [List.length_cons]; omega)]
            congr 2 <;> omega
          have hone := decOne_hdr hh
          have hlen : (((x :: r).drop (1 + c)).take n).length = n := by rw [List.length_take, List.length_drop, List.length_cons]; omega
          cases hnst : nestB x.toNat with
          | true =>
            rw [cond_true]
            refine Ok.bindE hsl ?_
            refine Ok.bind (der_all_ok rec _ (by omega) fun d hd => hr d (by rw [List.length_cons]; omega)) fun y3 h3 => ?_
            refine Ok.ret ?_
            unfold AllP at h3
            unfold NextP
            rw [hone, hnst, if_pos rfl]
            cases hd : decAll (((x :: r).drop (1 + c)).take n) with
            | none => rw [hd] at h3; exact h3
            | some es =>
              rw [hd] at h3
              dsimp only at h3
              subst h3
              show (_, _, _) = (_, _, _)
              simp
          | false =>
            rw [cond_false]
            refine Ok.bindE hsl (Ok.bindE (bytes_clone (by omega)) (Ok.ret ?_))
            unfold NextP
            rw [hone, hnst, if_neg (by simp)]
            show (_, _, _) = (_, _, _)
            simp
theorem der_next (b : List UInt8) (hb : b.length < 1073741824) : Ok (g_der_next b) (NextP b) :=
  fixT_ok mono_der_next List.length (fun b => b.length < 1073741824) NextP (fun rec a ha hr => der_next_F rec a ha fun c hc => hr c (by omega) hc) b hb
theorem formed_sz : ∀ v : api_Value, v.formed = true → v.sz ≤ v.put.length
  | .mk t b n es, h => by
    rw [api_Value.formed] at h
    simp only [Bool.and_eq_true] at h
    have he := formedAll_sz es h.2
    rw [put_eq, api_Value.sz]
    simp only [List.length_cons, List.length_append, api_Value.body]
    cases n with
    | true =>
      have h1 : b.length = 0 := by
        have := h.1.1.2
        simp at this
        rw [this]; rfl
      simp only [if_true]
      omega
    | false =>
      have h1 : es = [] := by
        have := h.1.2
        simpa using this
      subst h1
      simp [szs]
  where formedAll_sz : ∀ es : List api_Value, formedAll es = true → szs es ≤ (putAll es).length
    | [], _ => Nat.le_refl _
    | v :: es, h => by
      rw [formedAll, Bool.and_eq_true] at h
      have h1 := formed_sz v h.1
      have h2 := formedAll_sz es h.2
      rw [szs, putAll, List.length_append]; omega
def zeroV : api_Value := .mk 0 [] false []
def decS (b : List UInt8) : api_Value × Int := if 4096 < b.length then (zeroV, 3) else match decOne b with
  | some (v, m) => if m = b.length then (if 16 < v.depth then (zeroV, 3) else (v, 0)) else (zeroV, 1)
  | none => (zeroV, 1)
theorem decS_put {v : api_Value} (h1 : v.formed = true) (h2 : v.put.length ≤ 4096) (h3 : v.depth ≤ 16) : decS v.put = (v, 0) := by
  have := decOne_put v h1 (by omega) []
  rw [List.append_nil] at this
  unfold decS
  rw [if_neg (by omega), this]
  dsimp only
  rw [if_pos rfl, if_neg (by omega)]
theorem der_Decode (b : List UInt8) : g_der_Decode b = some (decS b) := by
  unfold g_der_Decode decS
  by_cases hl : 4096 < b.length
  · rw [decide_eq_true (by omega), if_pos hl]; rfl
  rw [decide_eq_false (by omega), if_neg hl, cond_false]
  obtain ⟨y, hy, hp⟩ := der_next b (by omega)
  rw [hy, Option.bind_some]
  unfold NextP at hp
  cases hd : decOne b with
  | none =>
    rw [hd] at hp
    dsimp only at hp
    rw [hp]; rfl
  | some p =>
    obtain ⟨v, m⟩ := p
    rw [hd] at hp
    dsimp only at hp
    subst hp
    dsimp only
    rw [Bool.not_true, cond_false]
    by_cases hm : m = b.length
    · rw [decide_eq_true (by omega), if_pos hm]
      have hb := decOne_back hd hm
      have hs := formed_sz v hb.2
      rw [hb.1] at hs
      unfold g_der_Decode.j1
      rw [Bool.not_true, cond_false, der_depth v (by omega), Option.bind_some]
      by_cases h16 : 16 < v.depth
      · rw [decide_eq_true (by omega), if_pos h16]; rfl
      · rw [decide_eq_false (by omega), if_neg h16]; rfl
    · rw [decide_eq_false (by omega), if_neg hm]; rfl
end Go.Proofs.YtbeageaekgccgaaGreat
