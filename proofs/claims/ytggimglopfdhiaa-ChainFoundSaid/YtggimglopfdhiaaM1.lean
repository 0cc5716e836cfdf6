/- Dice, and what is made with them: what comes out is small enough. No program is in sight here. -/
import Derived.Test.YtggimglopfdhiaaL3
import Derived.Test.YtggimglopfdhiaaK6
set_option linter.unusedVariables false
set_option linter.unusedSimpArgs false
namespace Go.Proofs.Ytggimglopfdhiaa
open Go
structure DOK (d : cipherplanmake_Dice) : Prop where
  lo : Lo d.L
  at0 : 0 ≤ d.At
  at1 : d.At ≤ d.L.length
theorem mod_ok (e n : Int) (hn : 1 ≤ n) (hn2 : n ≤ 4611686018427387904) : Ok (g_make_Mod e n) (fun y => 0 ≤ y ∧ y < n) := by
  unfold g_make_Mod
  rw [decide_eq_false (by omega), cond_false]
  have h1 := Int.tmod_lt_of_pos e (show 0 < n by omega)
  have h2 : -n < e.tmod n := Int.lt_tmod_of_pos e (by omega)
  have h3 := Int.tmod_lt_of_pos (e.tmod n + n) (show 0 < n by omega)
  have h4 := Int.tmod_nonneg n (show 0 ≤ e.tmod n + n by omega)
  unfold remI
  rw [if_neg (by omega), Option.bind_some, W_id (by omega), if_neg (by omega)]
  exact ⟨_, rfl, h4, h3⟩
theorem next_ok {d : cipherplanmake_Dice} (h : DOK d) (n : Int) (hn : 1 ≤ n) (hn2 : n ≤ 4611686018427387904) : Ok (g_make_Dice_Next d n) (fun y => (0 ≤ y.1 ∧ y.1 < n) ∧ DOK y.2) := by
  have hl := h.lo
  unfold Lo at hl
  have h0 := h.at0
  have h1 := h.at1
  unfold g_make_Dice_Next
  refine Ok.cond (fun hb => ?_) fun hb => ?_
  · exact Ok.ret ⟨⟨Int.le_refl _, by show (0 : Int) < n; omega⟩, h⟩
  · have hb := of_decide_eq_false hb
    rw [W_id (x := d.At + 1) (by omega), W_id (by omega)]
    refine Ok.bind (getI_ok (by omega) (by omega)) fun e he => ?_
    refine Ok.bind (mod_ok e n hn hn2) fun y hy => ?_
    exact Ok.ret ⟨hy, ⟨h.lo, by show 0 ≤ d.At + 1; omega, by show d.At + 1 ≤ (d.L.length : Int); omega⟩⟩
theorem of_ok {d : cipherplanmake_Dice} (h : DOK d) (l : List Int) (hl : 1 ≤ l.length) (hl2 : l.length ≤ 1000) : Ok (g_make_Dice_Of d l) (fun y => y.1 ∈ l ∧ DOK y.2) := by
  unfold g_make_Dice_Of
  refine Ok.bind (next_ok h _ (by omega) (by omega)) fun y hy => ?_
  refine Ok.bind (getI_mem (by omega) (by omega)) fun e he => ?_
  exact Ok.ret ⟨he, hy.2⟩
theorem one_ok {d : cipherplanmake_Dice} (h : DOK d) (n : Int) (hn : 1 ≤ n) (hn2 : n ≤ 1000) : Ok (g_make_Dice_One d n) (fun y => DOK y.2) := by
  unfold g_make_Dice_One
  refine Ok.bind (next_ok h _ (by omega) (by omega)) fun y hy => ?_
  exact Ok.ret hy.2
def Sm (n : Int) : Prop := 0 ≤ n ∧ n ≤ 100000
theorem sm_of {l : List Int} (h : l.all (fun n => decide (0 ≤ n) && decide (n ≤ 100000)) = true) {n : Int} (hn : n ∈ l) : Sm n := by
  have := List.all_eq_true.1 h n hn
  simpa [Sm] using this
theorem size_ok {d : cipherplanmake_Dice} (h : DOK d) (a : Int) : Ok (g_make_size d a) (fun y => Sm y.1 ∧ DOK y.2) := by
  have O : ∀ l : List Int, 1 ≤ l.length → l.length ≤ 1000 → l.all (fun n => decide (0 ≤ n) && decide (n ≤ 100000)) = true → Ok ((g_make_Dice_Of d l).bind fun y => some (y.1, y.2)) (fun y => Sm y.1 ∧ DOK y.2) := fun l h1 h2 h3 =>
    Ok.bind (of_ok h l h1 h2) fun y hy => Ok.ret ⟨sm_of h3 hy.1, hy.2⟩
  have j3 : ∀ b, Ok (g_make_size.j3 d b) (fun y => Sm y.1 ∧ DOK y.2) := fun b => by
    unfold g_make_size.j3
    exact Ok.cond (fun _ => O _ (by decide) (by decide) (by decide)) fun _ => Ok.ret ⟨⟨Int.le_refl 0, by show (0 : Int) ≤ 100000; decide⟩, h⟩
  have j2 : ∀ b, Ok (g_make_size.j2 d a b) (fun y => Sm y.1 ∧ DOK y.2) := fun b => by
    unfold g_make_size.j2
    exact Ok.cond (fun _ => O _ (by decide) (by decide) (by decide)) fun _ => Ok.cond (fun _ => O _ (by decide) (by decide) (by decide)) fun _ => Ok.cond (fun _ => O _ (by decide) (by decide) (by decide)) fun _ => Ok.cond (fun _ => O _ (by decide) (by decide) (by decide)) fun _ => Ok.cond (fun _ => O _ (by decide) (by decide) (by decide)) fun _ => Ok.cond (fun _ => j3 _) fun _ => j3 _
  have j1 : ∀ b, Ok (g_make_size.j1 d a b) (fun y => Sm y.1 ∧ DOK y.2) := fun b => by
    unfold g_make_size.j1
    exact Ok.cond (fun _ => O _ (by decide) (by decide) (by decide)) fun _ => Ok.cond (fun _ => j2 _) fun _ => j2 _
  unfold g_make_size
  exact Ok.cond (fun _ => j1 _) fun _ => Ok.cond (fun _ => j1 _) fun _ => Ok.cond (fun _ => j1 _) fun _ => j1 _
def SmU (u : api_Use) : Prop := Sm u.Alg ∧ Sm u.Bits
theorem key_ok {d : cipherplanmake_Dice} (h : DOK d) : Ok (g_make_Key d) (fun y => SmU y.1 ∧ DOK y.2) := by
  unfold g_make_Key
  refine Ok.bind (of_ok h _ (by decide) (by decide)) fun y hy => ?_
  refine Ok.bind (size_ok hy.2 y.1) fun z hz => ?_
  exact Ok.ret ⟨⟨sm_of (by decide) hy.1, hz.1⟩, hz.2⟩
def I64 (n : Int) : Prop := -9223372036854775808 ≤ n ∧ n ≤ 9223372036854775807
theorem Sm.i64 {n : Int} (h : Sm n) : I64 n := by unfold Sm at h; unfold I64; omega
theorem W_i64 (x : Int) : I64 (W x) := W_range x
def zeroC : api_Certificate := api_Certificate.mk 0 ⟨#[]⟩ ⟨#[]⟩ (api_Use.mk 0 0) 0 (api_Use.mk 0 0) 0 0 false 0 [] (api_Seal.mk 0 0)
def unsl (c : api_Certificate) : api_Certificate := api_Certificate.mk c.Serial c.Issuer c.Subject c.Key c.KeyId c.Hash c.From c.To c.Authority c.Path c.Names (api_Seal.mk 0 0)
def reseal (c : api_Certificate) (s : api_Seal) : api_Certificate := api_Certificate.mk c.Serial c.Issuer c.Subject c.Key c.KeyId c.Hash c.From c.To c.Authority c.Path c.Names s
theorem fit_mk {c : api_Certificate} (h1 : c.Names.length < 1000000000) (h2 : ∀ s ∈ c.Names, s.size ≤ 9223372036854775807) (h3 : c.Issuer.size ≤ 9223372036854775807) (h4 : c.Subject.size ≤ 9223372036854775807)
    (a1 : I64 c.Serial) (a2 : I64 c.Key.Alg) (a3 : I64 c.Key.Bits) (a4 : I64 c.KeyId) (a5 : I64 c.Hash.Alg) (a6 : I64 c.Hash.Bits) (a7 : I64 c.From) (a8 : I64 c.To) (a9 : I64 c.Path) (b1 : I64 c.Seal.Key) (b2 : I64 c.Seal.Sum) : FitC c := by
  refine ⟨h1, h2, h3, h4, ?_⟩
  intro n hn
  simp only [List.mem_cons, List.not_mem_nil, or_false] at hn
  rcases hn with rfl | rfl | rfl | rfl | rfl | rfl | rfl | rfl | rfl | rfl | rfl <;> assumption
structure IntsC (c : api_Certificate) : Prop where
  a1 : I64 c.Serial
  a2 : I64 c.Key.Alg
  a3 : I64 c.Key.Bits
  a4 : I64 c.KeyId
  a5 : I64 c.Hash.Alg
  a6 : I64 c.Hash.Bits
  a7 : I64 c.From
  a8 : I64 c.To
  a9 : I64 c.Path
  b1 : I64 c.Seal.Key
  b2 : I64 c.Seal.Sum
theorem FitC.is {c : api_Certificate} (h : FitC c) : IntsC c := by
  have := h.ints
  constructor <;> exact this _ (by simp)
theorem i64_0 : I64 0 := ⟨by decide, by decide⟩
theorem zeroC_fit : FitC zeroC := fit_mk (by decide) (by intro s hs; cases hs) (by decide) (by decide) i64_0 i64_0 i64_0 i64_0 i64_0 i64_0 i64_0 i64_0 i64_0 i64_0 i64_0
theorem reseal_fit {c : api_Certificate} (h : FitC c) {s : api_Seal} (h1 : I64 s.Key) (h2 : I64 s.Sum) : FitC (reseal c s) := by
  have i := h.is
  exact fit_mk h.names h.name h.issuer h.subject i.a1 i.a2 i.a3 i.a4 i.a5 i.a6 i.a7 i.a8 i.a9 h1 h2
theorem copy_eq (c : api_Certificate) (h : FitC c) : g_ref03_Copy c = some c := by
  unfold g_ref03_Copy
  have := h.names
  rw [appI_ok (by simp; omega)]
  rfl
def signS (c : api_Certificate) (key : Int) : api_Certificate × Int := bif certS (unsl c) && (decide (0 ≤ key) && decide (key ≤ 2147483648)) then (reseal c ⟨key, sumS (bytesS (unsl c)).1⟩, 0) else (zeroC, 9)
theorem sumS_i64 (b : List UInt8) : I64 (sumS b) := W_range _
theorem ref_Sign (c : api_Certificate) (h : FitC c) (key : Int) : g_ref03_Sign c key = some (signS c key) := by
  have hu : FitC (unsl c) := reseal_fit h i64_0 i64_0
  unfold g_ref03_Sign
  rw [copy_eq c h, Option.bind_some]
  have e : g_ref03_Check (api_Certificate.mk c.Serial c.Issuer c.Subject c.Key c.KeyId c.Hash c.From c.To c.Authority c.Path c.Names (api_Seal.mk 0 0)) = some (bif certS (unsl c) then 0 else 9) := ref_Check (unsl c) hu
  rw [e, Option.bind_some]
  have j : ∀ b, g_ref03_Sign.j1 key c b = some (bif b then (zeroC, 9) else (reseal c ⟨key, sumS (bytesS (unsl c)).1⟩, 0)) := by
    intro b
    unfold g_ref03_Sign.j1
    cases b with
    | true => rfl
    | false =>
      rw [cond_false]
      have e2 : g_ref03_Bytes (api_Certificate.mk c.Serial c.Issuer c.Subject c.Key c.KeyId c.Hash c.From c.To c.Authority c.Path c.Names (api_Seal.mk 0 0)) = some (bytesS (unsl c)) := ref_Bytes (unsl c) hu
      rw [e2, Option.bind_some, ref_Sum _ (bytesS_lo _)]
      rfl
  simp only [j]
  unfold signS
  cases certS (unsl c) with
  | false => rfl
  | true =>
    by_cases a : key < 0
    · rw [decide_eq_true a, decide_eq_false (show ¬ 0 ≤ key by omega)]; rfl
    · rw [decide_eq_false a, decide_eq_true (show 0 ≤ key by omega)]
      by_cases b : key ≤ 2147483648
      · rw [decide_eq_true b, decide_eq_false (show ¬ 2147483648 < key by omega)]; rfl
      · rw [decide_eq_false b, decide_eq_true (show 2147483648 < key by omega)]; rfl
theorem signS_fit {c : api_Certificate} (h : FitC c) {key : Int} (hk : I64 key) : FitC (signS c key).1 := by
  unfold signS
  cases certS (unsl c) && (decide (0 ≤ key) && decide (key ≤ 2147483648)) with
  | false => exact zeroC_fit
  | true => exact reseal_fit h hk (sumS_i64 _)
theorem cert_ok {d : cipherplanmake_Dice} (h : DOK d) {issuer subject : ByteArray} {key : api_Use} {id signer : Int} (authority : Bool) (hi : issuer.size ≤ 1000) (hs : subject.size ≤ 1000) (hk : SmU key) (hid : I64 id) (hsg : I64 signer) : Ok (g_make_Certificate d issuer subject key id signer authority) (fun y => FitC y.1 ∧ DOK y.2) := by
  unfold g_make_Certificate
  refine Ok.bind (next_ok h 1000 (by omega) (by omega)) fun y1 h1 => ?_
  refine Ok.bind (of_ok h1.2 _ (by decide) (by decide)) fun y2 h2 => ?_
  refine Ok.bind (of_ok h2.2 _ (by decide) (by decide)) fun y3 h3 => ?_
  refine Ok.bind (of_ok h3.2 _ (by decide) (by decide)) fun y4 h4 => ?_
  have i2 := (sm_of (by decide) h2.1).i64
  have i3 := (sm_of (by decide) h3.1).i64
  have i4 := (sm_of (by decide) h4.1).i64
  have i1 : I64 y1.1 := by have := h1.1; unfold I64; omega
  have j2 : ∀ (p : Int) (d' : cipherplanmake_Dice) (l : List ByteArray), I64 p → DOK d' → l.length ≤ 10 → (∀ s ∈ l, s.size ≤ 2000) → Ok (g_make_Certificate.j2 issuer subject key id signer authority y1 y2 y3 y4 p d' l) (fun y => FitC y.1 ∧ DOK y.2) := by
    intro p d' l hp hd hl hn
    unfold g_make_Certificate.j2
    have hf : FitC (api_Certificate.mk y1.1 issuer subject key id (api_Use.mk y2.1 0) y3.1 y4.1 authority p l (api_Seal.mk 0 0)) := fit_mk (by show l.length < 1000000000; omega) (fun s hs => by have := hn s hs; omega) (by show issuer.size ≤ _; omega) (by show subject.size ≤ _; omega) i1 hk.1.i64 hk.2.i64 hid i2 i64_0 i3 i4 hp i64_0 i64_0
    refine Ok.bindE (ref_Sign _ hf signer) ?_
    exact Ok.ret ⟨signS_fit hf hsg, hd⟩
  have j1 : ∀ (p : Int) (d' : cipherplanmake_Dice), I64 p → DOK d' → Ok (g_make_Certificate.j1 issuer subject key id signer authority y1 y2 y3 y4 d' p) (fun y => FitC y.1 ∧ DOK y.2) := by
    intro p d' hp hd
    unfold g_make_Certificate.j1
    refine Ok.bind (one_ok hd 3 (by omega) (by omega)) fun y hy => ?_
    refine Ok.cond (fun _ => ?_) fun _ => ?_
    · have hx : (⟨#[120]⟩ : ByteArray).size = 1 := rfl
      refine Ok.bind (catI_ok (by omega)) fun s hs' => ?_
      refine Ok.bind (appI_ok' (by simp)) fun l hl => ?_
      subst hl hs'
      refine j2 p y.2 _ hp hy (by simp) ?_
      intro s hs'
      simp only [List.cons_append, List.nil_append, List.mem_cons, List.not_mem_nil, or_false] at hs'
      rcases hs' with rfl | rfl
      · omega
      · rw [ByteArray.size_append]; omega
    · refine j2 p y.2 _ hp hy (by simp) ?_
      intro s hs'
      rw [List.mem_singleton.1 hs']; omega
  refine Ok.cond (fun _ => ?_) fun _ => ?_
  · refine Ok.bind (of_ok h4.2 _ (by decide) (by decide)) fun y5 h5 => ?_
    exact j1 _ _ (sm_of (by decide) h5.1).i64 h5.2
  · exact j1 _ _ i64_0 h4.2
theorem chain_ok {d : cipherplanmake_Dice} (h : DOK d) {name : ByteArray} {key : api_Use} {id : Int} (hs : name.size ≤ 1000) (hk : SmU key) (hid : I64 id) : Ok (g_make_Chain d name key id) (fun y => (1 ≤ y.1.length ∧ y.1.length ≤ 3 ∧ ∀ c ∈ y.1, FitC c) ∧ DOK y.2) := by
  unfold g_make_Chain
  refine Ok.bind (of_ok h _ (by decide) (by decide)) fun y1 h1 => ?_
  have hy1 : 0 ≤ y1.1 ∧ y1.1 ≤ 2 := by
    have := h1.1
    simp only [List.mem_cons, List.not_mem_nil, or_false] at this
    omega
  refine Ok.bind (next_ok h1.2 2 (by omega) (by omega)) fun y2 h2 => ?_
  refine Ok.loop (fun s => I64 s.1 ∧ s.2.1.size ≤ 1000 ∧ 0 ≤ s.2.2.1 ∧ s.2.2.1 ≤ y1.1 ∧ DOK s.2.2.2.1 ∧ (s.2.2.2.2.length : Int) = s.2.2.1 ∧ ∀ c ∈ s.2.2.2.2, FitC c) (fun s => (y1.1 - s.2.2.1).toNat) (fun s hs' => ?_) ⟨W_i64 _, (by decide : (4 : Nat) ≤ 1000), Int.le_refl _, hy1.1, h2.2, rfl, by simp⟩
  obtain ⟨signer, issuer, i, d1, above⟩ := s
  obtain ⟨a1, a2, a3, a4, a5, a6, a7⟩ := hs'
  dsimp only at a1 a2 a3 a4 a5 a6 a7
  show Ok (g_make_Chain.l1 name key id y1 signer issuer i d1 above) _
  unfold g_make_Chain.l1
  refine Ok.cond (fun hb => ?_) fun hb => ?_
  · have hb := of_decide_eq_true hb
    refine Ok.bind (getI_mem (by omega) (by show i < (3 : Int); omega)) fun e he => ?_
    have hes : e.size ≤ 1000 := by
      simp only [List.mem_cons, List.not_mem_nil, or_false] at he
      rcases he with rfl | rfl | rfl <;> decide
    refine Ok.bind (cert_ok a5 true a2 hes ⟨⟨by decide, by decide⟩, ⟨by decide, by decide⟩⟩ (W_i64 _) a1) fun y3 h3 => ?_
    refine Ok.bind (appI_ok' (by simp; omega)) fun l hl => ?_
    subst hl
    rw [W_id (x := i + 1) (by omega)]
    refine Ok.ret ⟨⟨W_i64 _, hes, ?_, ?_, h3.2, ?_, ?_⟩, ?_⟩
    · show 0 ≤ i + 1; omega
    · show i + 1 ≤ y1.1; omega
    · show ((y3.1 :: above).length : Int) = i + 1
      rw [List.length_cons]; omega
    · intro c hc
      rcases List.mem_cons.1 hc with rfl | hc
      · exact h3.1
      · exact a7 c hc
    · show (y1.1 - (i + 1)).toNat < (y1.1 - i).toNat; omega
  · have hb := of_decide_eq_false hb
    refine Ok.up ?_
    refine Ok.bind (cert_ok a5 false a2 hs hk hid a1) fun y4 h4 => ?_
    refine Ok.bind (appI_ok' (by simp; omega)) fun l hl => ?_
    subst hl
    refine Ok.ret ⟨⟨?_, ?_, ?_⟩, h4.2⟩
    · show 1 ≤ (y4.1 :: above).length
      rw [List.length_cons]; omega
    · show (y4.1 :: above).length ≤ 3
      rw [List.length_cons]; omega
    · intro c hc
      rcases List.mem_cons.1 hc with rfl | hc
      · exact h4.1
      · exact a7 c hc
end Go.Proofs.Ytggimglopfdhiaa
