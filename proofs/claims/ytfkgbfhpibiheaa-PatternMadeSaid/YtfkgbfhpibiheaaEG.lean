import Derived.Test.YtfkgbfhpibiheaaEH
set_option linter.unusedVariables false
set_option linter.unusedSimpArgs false
namespace Go.Proofs.Ytfkgbfhpibiheaa
open Go.RowKit
section
variable {P : Program} {np tk : Nat} {ty : TypeId} {env : Vw} {α : Type} {f : α -> List C} {t e sz bytes : Nat}
theorem aH {j sz of o : Nat} (h : of < sz) (hne : of ≠ o) {p : Nat} (hp : p = j * sz + of) : p % sz ≠ o := by
 rw [hp, aA0, aBs, aAe h]
 exact hne
theorem cC {j sz of o m : Nat} (h : of + m <= sz) (hne : o < of \/ of + m <= o) {p : Nat} (hp : p = j * sz + of) : Xr sz o p m := fun q h1 h2 => by
 have : q = j * sz + (q - j * sz) := by omega
 exact aH (of := q - j * sz) (by omega) (by omega) this
theorem Ta {i : Nat} : (none : Option Nat) ≠ some i := nofun
theorem dC (hf : ∀ x, (f x).length = sz) {l : List α} {j o : Nat} {x x' : α} {c : C} (hx : l[j]? = some x) (ho : o < sz) (hs : (f x).set o c = f x') {a : Nat} (ha : a = j * sz + o) : (As f l).set a c = As f (Bi l j x') := by
 have h := Hv hf (x' := x') (cs := [c]) hx (o := o) (by show o + 1 <= sz; omega) (by
  unfold Ca
  rw [<- hs, aAl, if_pos (by rw [hf]; exact ho)]
  simp) ha
 rw [<- h]
 have hl := Eu hf hx ho ha
 unfold Ca
 rw [aAl, if_pos hl]
 simp
theorem Yo {x y : Operand} {k p o e2 sz2 s z : Nat} {hh : Option Nat} {cs cs' cs1 : List C} {ag : Bool} {d : DV} {b : Option LB} {ck : List (Option Nat)} (ht : Ty P t ag z) (hs : (Ci d).length = z) (hi : p + z <= cs.length) (hf : Xr sz o p z) (hd : Fb ck (Ci d) cs') (hk : k ∈ env.map (·.1)) (hE : Ca cs p cs' = cs1) :
  ExtR P np tk (.store t x y) ty [(.ptr k p, some (.tree e sz o e2 sz2 s hh cs)), (d, b)] env [k] (fun e' => e' = O2 k (.tree e sz o e2 sz2 s hh cs1) none) := by
 subst hE
 exact .storeT ht hs hi hf hd hk
theorem jU {β : Type} {g : β -> List C} {x y : Operand} {k s i o e2 sz2 kk : Nat} {cs c2 cs' : List C} {d' : DV × Option LB} {l l' l2 : List β} (hS : Fs P t e2 sz2 bytes) (G : ∀ x, (g x).length = sz2) (hc : cs[i * sz + o]? = some (.sl sz2 c2)) (hc2 : c2 = As g l) (hs : S7 d' sz2 cs') (hc' : cs' = As g l') (h : H7 kk l l' = some l2) (hkk : sz2 * bytes = kk) (hk : k ∈ env.map (·.1)) (hnp : Nat.ble np k = true) :
  ExtR P np tk (.call ⟨.builtin .append, #[x, y], #[t, t]⟩) ty [(.nst k s i, some (.tree e sz o e2 sz2 s none cs)), d'] env [k] (fun e' => e' = M8 [(tk, some (.row e2 sz2 (As g l2))), (k, some (.tree e sz o e2 sz2 s (some i) cs))] (some (.row tk))) := by
 subst hc2 hc'
 obtain ⟨h1, rfl⟩ := Lq h
 rw [F7]
 exact .appN hS hc hs (by rw [D5 G, D5 G, <- zJ, Nat.mul_assoc, hkk]; exact h1) hk hnp
theorem kE {x y : Operand} {k p s i o e2 sz2 j : Nat} {cs c2 cs1 : List C} (ht : Ty P t false 1) (hp : p = i * sz + o) (hl : p < cs.length) (hk : k ∈ env.map (·.1)) (hj : j ∈ env.map (·.1)) (hnp : Nat.ble np k = true) (hnj : Nat.ble np j = true) (hE : cs.set p (.sl sz2 c2) = cs1) :
  ExtR P np tk (.store t x y) ty [(.ptr k p, some (.tree e sz o e2 sz2 s (some i) cs)), (.row j, some (.row e2 sz2 c2))] env [k, j] (fun e' => e' = M8 [(k, some (.tree e sz o e2 sz2 tk none cs1)), (tk, some .gho), (j, none)] none) := by
 subst hE
 exact .stoH ht hp hl hk hj hnp hnj
theorem Z5 {x : Operand} {d : DV} {b : Option LB} {o e2 sz2 j : Nat} {z : List Value} {r pre post : List DV} {ck1 ck2 : List (Option Nat)} {c1 c2 c3 cs1 : List C} (hS : Fs P t e sz bytes) (hz : Zt P e z) (hlen : 1 * sz <= 16777216) (hd : Fp (fun i => some (i * sz, sz)) ((List.replicate 1 (z.map DV.val)).flatten) [(0, d)] = some r) (hoc : (Ci d).all Oh = true)
  (hr : r = pre ++ .row j :: post) (ho : pre.length = o) (h1 : Fb ck1 pre c1) (h3 : Fb ck2 post c3) (hj : (j, some (.row e2 sz2 c2)) ∈ env) (hnp : Nat.ble np j = true) (hE : c1 ++ .sl sz2 c2 :: c3 = cs1) :
  ExtR P np tk (.buildSlice t 1 #[(0, x)]) ty [(d, b)] env [j] (fun e' => e' = M8 [(tk, some (.tree e sz o e2 sz2 (tk + 1) none cs1)), (tk + 1, some .gho), (j, none)] (some (.row tk))) := by
 subst hE
 exact .buildT hS hz hlen hd hoc hr ho h1 h3 hj hnp
theorem qJ {x y : Operand} {k s k' s' o e2 sz2 kk : Nat} {l l' l2 : List α} (hS : Fs P t e sz bytes) (hf : ∀ x, (f x).length = sz) (hk : k ∈ env.map (·.1)) (hk' : k' ∈ env.map (·.1)) (hne : Nat.beq k k' = false) (h : H7 kk l l' = some l2) (hkk : sz * bytes = kk) (hnp : Nat.ble np k = true) (hnp' : Nat.ble np k' = true) :
  ExtR P np tk (.call ⟨.builtin .append, #[x, y], #[t, t]⟩) ty [(.row k, some (.tree e sz o e2 sz2 s none (As f l))), (.row k', some (.tree e sz o e2 sz2 s' none (As f l')))] env [k, k'] (fun e' => e' = M8 [(tk, some (.tree e sz o e2 sz2 (tk + 1) none (As f l2))), (tk + 1, some .gho), (k, none), (k', none)] (some (.row tk))) := by
 obtain ⟨h1, rfl⟩ := Lq h
 rw [F7]
 exact .appT hS hk hk' hne (by rw [D5 hf, D5 hf, <- zJ, Nat.mul_assoc, hkk]; exact h1) hnp hnp'
end
section
variable {cx : Cx} {σ σ' : St}
end
end Go.Proofs.Ytfkgbfhpibiheaa
