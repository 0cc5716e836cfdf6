/- Plain texts, joined. No program is in sight here. -/
import Derived.Test.YtfkgbfhpibiheaaL3
import Derived.Test.YtfkgbfhpibiheaaP1
import Derived.IntWalk
set_option linter.unusedVariables false
set_option linter.unusedSimpArgs false
set_option maxRecDepth 100000
namespace Go.Proofs.Ytfkgbfhpibiheaa
section
open Go
abbrev Fm := List UInt8
def Lk (ws : List Fm) (w : Fm) : Int := match ws.findIdx? (fun x => decide (x = w)) with | some i => (i : Int) | none => -1
theorem U0 {ws : List Fm} {w : Fm} (h : w ∉ ws) : Lk ws w = -1 := by
 unfold Lk
 have : ws.findIdx? (fun x => decide (x = w)) = none := by
  rw [aBa]
  intro x hx
  simp
  rintro rfl
  exact h hx
 rw [this]
theorem I2 {α : Type} {l : List α} (hn : l.Nodup) {i j : Nat} {x : α} (h1 : l[i]? = some x) (h2 : l[j]? = some x) : i = j := by
 obtain ⟨h3, h4⟩ := xM.1 h1
 obtain ⟨h5, h6⟩ := xM.1 h2
 exact (List.getElem_inj (h₀ := h3) (h₁ := h5) hn).1 (h4.trans h6.symm)
theorem Sd {ws : List Fm} {w : Fm} {i : Nat} (hn : ws.Nodup) (h : ws[i]? = some w) : Lk ws w = (i : Int) := by
 unfold Lk
 cases hf : ws.findIdx? (fun x => decide (x = w)) with
 | none =>
  rw [aBa] at hf
  have := hf w (xW h)
  simp at this
 | some j =>
  rw [yU] at hf
  obtain ⟨h1, h2, -⟩ := hf
  have h2 : ws[j] = w := by simpa using h2
  have : i = j := I2 hn h (by rw [xK h1, h2])
  rw [this]
theorem Pl {ws : List Fm} {w : Fm} (hn : ws.Nodup) (h : w ∈ ws) : ∃ i : Nat, ws[i]? = some w /\ Lk ws w = (i : Int) := by
 obtain ⟨i, hi⟩ := aCo h
 exact ⟨i, hi, Sd hn hi⟩
theorem iJ {ws : List Fm} {w : Fm} (hn : ws.Nodup) : Lk ws w < 0 ↔ w ∉ ws := by
 constructor
 ·intro h hm
  obtain ⟨i, -, hi⟩ := Pl hn hm
  omega
 ·intro h
  rw [U0 h]
  omega
def lg (ws : List Fm) : Fm -> Fm
 | [] => []
 | c :: s => if (c :: s) ∈ ws then c :: s else lg ws s
def tQ (ws : List Fm) : Prop := [] ∈ ws /\ ∀ w c, w ++ [c] ∈ ws -> w ∈ ws
section
variable {ws : List Fm}
theorem Rp (h : [] ∈ ws) : ∀ s, lg ws s ∈ ws
 | [] => h
 | c :: s => by
  unfold lg
  split
  ·assumption
  ·exact Rp h s
theorem Mu : ∀ s, lg ws s <:+ s
 | [] => aCk _
 | c :: s => by
  unfold lg
  split
  ·exact aCk _
  ·exact (Mu s).trans (List.suffix_cons c s)
theorem Tu {u : Fm} (hu : u ∈ ws) : ∀ {s}, u <:+ s -> u <:+ lg ws s
 | [], h => by unfold lg; exact h
 | c :: s, h => by
  unfold lg
  split
  ·exact h
  ·rename_i hn
   rcases List.suffix_cons_iff.1 h with h | h
   ·rw [h] at hu; exact (hn hu).elim
   ·exact Tu hu h
theorem mT {s x : Fm} (h1 : x ∈ ws) (h2 : x <:+ s) (h3 : ∀ u ∈ ws, u <:+ s -> u <:+ x) (h0 : [] ∈ ws) : lg ws s = x := by
 have a := Tu h1 h2
 have b := h3 _ (Rp h0 s) (Mu s)
 exact b.eq_of_length (Nat.le_antisymm b.length_le a.length_le)
theorem mU {w : Fm} (h : w ∈ ws) : lg ws w = w := by
 cases w with
 | nil => rfl
 | cons c s => unfold lg; rw [if_pos h]
theorem Yu {u s : Fm} {c : UInt8} (h : u <:+ s ++ [c]) (hu : u ≠ []) : ∃ v, u = v ++ [c] /\ v <:+ s := by
 obtain ⟨t, ht⟩ := h
 rcases aBt u with h | ⟨v, d, rfl⟩
 ·exact (hu h).elim
 ·rw [aBu] at *
  rw [<- yV] at ht
  have := List.append_inj' ht rfl
  have e : d = c := by have := this.2; simpa using this
  subst e
  exact ⟨v, rfl, t, this.1⟩
theorem T9 {v s : Fm} {c : UInt8} (h : v <:+ s) : v ++ [c] <:+ s ++ [c] := by
 obtain ⟨t, rfl⟩ := h
 exact ⟨t, by simp⟩
theorem Xo (hc : tQ ws) (s : Fm) (c : UInt8) : lg ws (s ++ [c]) = lg ws (lg ws s ++ [c]) := by
 refine mT (Rp hc.1 _) ((Mu _).trans (T9 (Mu s))) (fun u hu hs => ?_) hc.1
 by_cases h0 : u = []
 ·subst h0; exact List.nil_suffix
 ·obtain ⟨v, rfl, hv⟩ := Yu hs h0
  exact Tu hu (T9 (Tu (hc.2 v c hu) hv))
theorem rI {w : Fm} (h : w ∉ ws) (h0 : [] ∈ ws) : lg ws w = lg ws w.tail := by
 cases w with
 | nil => exact (h h0).elim
 | cons c s =>
  rw [show lg ws (c :: s) = if (c :: s) ∈ ws then c :: s else lg ws s from rfl, if_neg h]
  rfl
theorem nH (hc : tQ ws) {w : Fm} (c : UInt8) (hw : w ≠ []) : lg ws (w ++ [c]).tail = lg ws (lg ws w.tail ++ [c]) := by
 cases w with
 | nil => exact (hw rfl).elim
 | cons d s => exact Xo hc s c
theorem jI (c : UInt8) : lg ws (([] : Fm) ++ [c]).tail = [] := rfl
theorem bA {u s : Fm} (hu : u ∈ ws) : u <:+ lg ws s ↔ u <:+ s := ⟨fun h => h.trans (Mu s), Tu hu⟩
end
end
section
open Go
def b8 (c : Nat) : UInt8 := UInt8.ofNat c
theorem dM (c : UInt8) : b8 c.toNat = c := by unfold b8; simp
theorem gK {c : Nat} (h : c < 256) : (b8 c).toNat = c := by unfold b8; simp; omega
theorem sO {c d : Nat} (hc : c < 256) (hd : d < 256) (h : b8 c = b8 d) : c = d := by rw [<- gK hc, h, gK hd]
theorem Jm {n : Nat} {l : List Int} (h : l.length = n) : G0 n l = l := by
 subst h
 refine List.ext_getElem (by simp [G0]) fun i h1 h2 => ?_
 simp [G0, h2]
theorem Ox {w w' : Fm} {c c' : UInt8} : w ++ [c] = w' ++ [c'] ↔ w = w' /\ c = c' := by
 constructor
 ·intro h
  have := List.append_inj' h rfl
  exact ⟨this.1, by simpa using this.2⟩
 ·rintro ⟨rfl, rfl⟩; rfl
theorem jZ {ws : List Fm} {x y : Fm} (hn : ws.Nodup) (hx : x ∉ ws) : Lk (ws ++ [x]) y = if y = x then (ws.length : Int) else Lk ws y := by
 have hn' : (ws ++ [x]).Nodup := by
  rw [aAa]
  exact ⟨hn, by simp, fun a ha b hb => by simp at hb; subst hb; rintro rfl; exact hx ha⟩
 split
 ·rename_i h
  subst h
  exact Sd hn' (by simp)
 ·rename_i h
  by_cases hy : y ∈ ws
  ·obtain ⟨i, h1, h2⟩ := Pl hn hy
   rw [h2]
   exact Sd hn' (by rw [yD (xM.1 h1).1]; exact h1)
  ·rw [U0 hy]
   exact U0 (by simp [hy, h])
def En (p : List Ai) (K : Nat) (w : Fm) : List Int := ((List.range K).filter fun k => decide ((p[k]?.map (·.Bytes)) = some w)).map fun (k : Nat) => (k : Int)
theorem cF {p : List Ai} {K : Nat} {q : Ai} {w : Fm} (h : p[K]? = some q) : En p (K + 1) w = if q.Bytes = w then En p K w ++ [(K : Int)] else En p K w := by
 unfold En
 rw [aBj, List.filter_append, aAd]
 by_cases hw : q.Bytes = w
 ·rw [if_pos hw]
  simp [h, hw]
 ·rw [if_neg hw]
  simp [h, hw]
theorem qD {p : List Ai} {K : Nat} {w : Fm} (h : ∀ k q, k < K -> p[k]? = some q -> q.Bytes ≠ w) : En p K w = [] := by
 unfold En
 rw [List.map_eq_nil_iff, List.filter_eq_nil_iff]
 intro k hk
 have hk := zR.1 hk
 cases hp : p[k]? with
 | none => simp
 | some q => simp; exact h k q hk hp
theorem bF {p : List Ai} {K : Nat} {w : Fm} {x : Int} : x ∈ En p K w ↔ ∃ k q, x = ((k : Nat) : Int) /\ k < K /\ p[k]? = some q /\ q.Bytes = w := by
 unfold En
 simp only [yW, aB3, zR, aBh]
 constructor
 ·rintro ⟨k, ⟨h1, h2⟩, rfl⟩
  cases hp : p[k]? with
  | none => rw [hp] at h2; simp at h2
  | some q => rw [hp] at h2; simp at h2; exact ⟨k, q, rfl, h1, hp, h2⟩
 ·rintro ⟨k, q, rfl, h1, h2, h3⟩
  exact ⟨k, ⟨h1, by rw [h2]; simp [h3]⟩, rfl⟩
theorem Ya {p : List Ai} {K : Nat} {w : Fm} : (En p K w).Nodup := by
 unfold En
 have h : ((List.range K).filter fun k => decide ((p[k]?.map (·.Bytes)) = some w)).Nodup := List.nodup_range.sublist List.filter_sublist
 rw [List.Nodup, List.pairwise_map]
 exact h.imp fun h e => h (zZ e)
structure Tr (p : List Ai) (K : Nat) (ws : List Fm) (ss : List Al) : Prop where
 hn : ws.Nodup
 hc : tQ ws
 h0 : ws[0]? = some []
 len : ss.length = ws.length
 st : ∀ (i : Nat) s w, ss[i]? = some s -> ws[i]? = some w -> s.next.length = 256 /\ (∀ c : Nat, c < 256 -> s.next[c]? = some (Lk ws (w ++ [b8 c]))) /\ s.back = 0 /\ s.ends = En p K w
 pats : ∀ k q, k < K -> p[k]? = some q -> q.Bytes ∈ ws
theorem Yk : C5 = some ⟨List.replicate 256 (-1), 0, []⟩ := by
 unfold C5
 have h := eH (body := fun q' => C5.l1 q'.1 q'.2) 256 (fun i => ((i : Int), List.replicate i (-1) ++ List.replicate (256 - i) (0 : Int))) (⟨List.replicate 256 (-1), 0, []⟩ : Al) (fun i hi => by
  show C5.l1 _ _ = _
  unfold C5.l1
  simp only []
  rw [show decide ((i : Int) < 256) = true by simp; omega, xT, Jm (by simp; omega), Bw, yE (by simp), aAi, aBz, aAn, if_pos (by omega)]
  simp only [xJ]
  rw [Do (by omega)]
  congr 3
  unfold Bi
  rw [yA, aCf _ _ (by simp), aAi, aBz, show 256 - i = (256 - (i + 1)) + 1 by omega, zS, List.set_cons_zero, aCm, yV]
  rfl) (by
  show C5.l1 _ _ = _
  unfold C5.l1
  simp
  rfl)
 exact h
theorem Tr.root : ∀ p, Tr p 0 [[]] [⟨List.replicate 256 (-1), 0, []⟩] := fun p => by
 refine ⟨by simp, ⟨by simp, fun w c h => by simp at h⟩, rfl, rfl, fun i s w h1 h2 => ?_, fun k q h => absurd h (by omega)⟩
 have hi : i = 0 := by
  have := (xM.1 h1).1
  simp at this
  exact this
 subst hi
 injection h1 with h1
 injection h2 with h2
 subst h1 h2
 refine ⟨aAi, fun c hc => ?_, rfl, ?_⟩
 ·rw [U0 (by simp), aAn, if_pos hc]
 ·rfl
theorem Tr.add {p : List Ai} {K i : Nat} {ws : List Fm} {ss : List Al} {w : Fm} {c : UInt8} {s : Al} (h : Tr p K ws ss) (hi : ws[i]? = some w) (hs : ss[i]? = some s) (hx : w ++ [c] ∉ ws) :
  Tr p K (ws ++ [w ++ [c]]) (ss.set i ⟨s.next.set c.toNat (ws.length : Int), s.back, s.ends⟩ ++ [⟨List.replicate 256 (-1), 0, []⟩]) := by
 have hlt := (xM.1 hi).1
 refine ⟨?_, ⟨yT _ h.hc.1, fun v d hv => ?_⟩, ?_, ?_, fun j t v ht hv => ?_, fun k q hk hq => yT _ (h.pats k q hk hq)⟩
 ·rw [aAa]
  exact ⟨h.hn, by simp, fun a ha b hb => by simp at hb; subst hb; rintro rfl; exact hx ha⟩
 ·rcases yQ.1 hv with hv | hv
  ·exact yT _ (h.hc.2 v d hv)
  ·rw [xQ, Ox] at hv
   rw [hv.1]
   exact yT _ (xW hi)
 ·rw [yD (by omega)]; exact h.h0
 ·simp [h.len]
 ·rcases yY j ws.length with hj | hj
  ·rw [yD hj] at hv
   rw [yD (by simp [h.len]; exact hj)] at ht
   by_cases hij : i = j
   ·subst hij
    rw [hi] at hv
    injection hv with hv
    subst hv
    rw [zD (by rw [h.len]; exact hj)] at ht
    injection ht with ht
    subst ht
    obtain ⟨h1, h2, h3, h4⟩ := h.st i s w hs hi
    refine ⟨by simp [h1], fun d hd => ?_, h3, h4⟩
    rw [jZ h.hn hx, aB8]
    by_cases hcd : c.toNat = d
    ·rw [if_pos hcd, if_pos (by rw [h1, hcd]; exact hd), if_pos]
     rw [<- hcd, dM]
    ·rw [if_neg hcd, if_neg]
     ·exact h2 d hd
     ·intro e
      rw [Ox] at e
      apply hcd
      rw [<- e.2, gK hd]
   ·rw [zK hij] at ht
    obtain ⟨h1, h2, h3, h4⟩ := h.st j t v ht hv
    refine ⟨h1, fun d hd => ?_, h3, h4⟩
    rw [jZ h.hn hx, if_neg]
    ·exact h2 d hd
    ·intro e
     rw [Ox] at e
     rw [e.1] at hv
     exact hij (I2 h.hn hi hv)
  ·have hj' : j = ws.length := by
    have := (xM.1 hv).1
    simp at this
    omega
   subst hj'
   rw [yE (xX _)] at hv
   rw [yE (by simp [h.len])] at ht
   rw [aBz] at hv
   rw [show ws.length - (ss.set i ⟨s.next.set c.toNat (ws.length : Int), s.back, s.ends⟩).length = 0 by simp [h.len]] at ht
   injection hv with hv
   injection ht with ht
   subst hv ht
   refine ⟨aAi, fun d hd => ?_, rfl, ?_⟩
   ·rw [U0, aAn, if_pos hd]
    intro hm
    rcases yQ.1 hm with hm | hm
    ·exact hx (h.hc.2 _ _ hm)
    ·have := congrArg List.length (xQ.1 hm)
     simp at this
   ·exact (qD fun k q hk hq e => hx (by rw [<- e]; exact h.pats k q hk hq)).symm
theorem Tr.done {p : List Ai} {K i : Nat} {ws : List Fm} {ss : List Al} {q : Ai} {s : Al} (h : Tr p K ws ss) (hq : p[K]? = some q) (hi : ws[i]? = some q.Bytes) (hs : ss[i]? = some s) :
  Tr p (K + 1) ws (ss.set i ⟨s.next, s.back, s.ends ++ [(K : Int)]⟩) := by
 refine ⟨h.hn, h.hc, h.h0, by simp [h.len], fun j t v ht hv => ?_, fun k q' hk hq' => ?_⟩
 ·by_cases hij : i = j
  ·subst hij
   rw [hi] at hv
   injection hv with hv
   subst hv
   rw [zD (xM.1 hs).1] at ht
   injection ht with ht
   subst ht
   obtain ⟨h1, h2, h3, h4⟩ := h.st i s _ hs hi
   refine ⟨h1, h2, h3, ?_⟩
   rw [cF hq, if_pos rfl, h4]
  ·rw [zK hij] at ht
   obtain ⟨h1, h2, h3, h4⟩ := h.st j t v ht hv
   refine ⟨h1, h2, h3, ?_⟩
   rw [cF hq, if_neg, h4]
   intro e
   rw [<- e] at hv
   exact hij (I2 h.hn hi hv)
 ·rcases yY k K with hk' | hk'
  ·exact h.pats k q' hk' hq'
  ·have : k = K := by omega
   subst this
   rw [hq] at hq'
   injection hq' with hq'
   rw [<- hq']
   exact xW hi
def lM (p : List Ai) : Prop := p.length <= 32 /\ ∀ q ∈ p, 1 <= q.Bytes.length /\ q.Bytes.length <= 64
theorem mM {p : List Ai} (hp : lM p) : Ok (Cw p) (fun ss => ∃ ws, Tr p p.length ws ss /\ ws.length <= 1 + 64 * p.length) := by
 unfold Cw
 refine Ok.bindE Yk ?_
 refine Ok.loop (fun q => ∃ (K : Nat) (ws : List Fm), q.1 = (K : Int) /\ K <= p.length /\ Tr p K ws q.2 /\ ws.length <= 1 + 64 * K) (fun q => p.length - q.1.toNat) ?_ ⟨0, [[]], rfl, yL _, Tr.root p, by simp⟩
 rintro ⟨x, ss⟩ ⟨K, ws, hx, hK, ht, hl⟩
 simp only at hx ht ⊢
 subst hx
 unfold Cw.l1
 refine Ok.cond (fun hlt => ?_) fun hge => ?_
 ·simp at hlt
  have hq : p[K]? = some p[K] := xK hlt
  refine Ok.bindE (by rw [Bw]; exact hq) ?_
  generalize p[K] = q at hq ⊢
  have hql := (hp.2 q (xW hq)).2
  refine Ok.loop (fun t => ∃ (i j : Nat) (ws' : List Fm), t.1 = (i : Int) /\ t.2.1 = (j : Int) /\ j <= q.Bytes.length /\ ws'[i]? = some (q.Bytes.take j) /\ Tr p K ws' t.2.2 /\ ws'.length <= 1 + 64 * K + j) (fun t => q.Bytes.length - t.2.1.toNat) ?_ ⟨0, 0, ws, rfl, rfl, yL _, by rw [aCc]; exact ht.h0, ht, by omega⟩
  rintro ⟨at', y, ss'⟩ ⟨i, j, ws', h1, h2, h3, h4, h5, h6⟩
  simp only at h1 h2 h5 ⊢
  subst h1 h2
  have hil := (xM.1 h4).1
  have hs : ss'[i]? = some (ss'[i]'(by rw [h5.len]; exact hil)) := xK _
  generalize (ss'[i]'(by rw [h5.len]; exact hil)) = s at hs
  obtain ⟨n1, n2, n3, n4⟩ := h5.st i s _ hs h4
  unfold Cw.l2
  refine Ok.cond (fun hlt2 => ?_) fun hge2 => ?_
  ·simp at hlt2
   have hb : q.Bytes[j]? = some q.Bytes[j] := xK hlt2
   refine Ok.bindE (by rw [Bw]; exact hb) ?_
   generalize q.Bytes[j] = c at hb ⊢
   have hc := c.toNat_lt
   have htake : q.Bytes.take (j + 1) = q.Bytes.take j ++ [c] := E6 hb
   refine Ok.bindE (by rw [Bw]; exact hs) ?_
   have hnx := n2 c.toNat hc
   rw [dM] at hnx
   refine Ok.bindE (by rw [Jm n1, Bw]; exact hnx) ?_
   refine Ok.cond (fun hneg => ?_) fun hpos => ?_
   ·simp at hneg
    have hno := (iJ h5.hn).1 hneg
    refine Ok.bindE Yk ?_
    have hw : IntKind.i16.wrap (ss'.length : Int) = (ws'.length : Int) := by
     rw [h5.len]
     have := hp.1
     exact IntWalk.i16_in _ (by omega)
    have hadd := h5.add h4 hs hno
    rw [hw, Jm n1, yA, yA]
    have hlen := h5.len
    refine Ok.bindE (Ey (by have := hp.1; simp [Bi]; omega)) ?_
    unfold Cw.j3
    refine Ok.bindE (a := ⟨s.next.set c.toNat (ws'.length : Int), s.back, s.ends⟩) (by
     rw [Bw, yD (by simp [Bi]; omega)]
     unfold Bi
     rw [zD (by omega)]) ?_
    refine Ok.bindE (a := (ws'.length : Int)) (by rw [Jm (by simp [n1]), Bw, zD (by rw [n1]; exact hc)]) ?_
    refine Ok.ret ⟨⟨ws'.length, j + 1, ws' ++ [q.Bytes.take j ++ [c]], rfl, Cl (by omega), hlt2, by rw [htake]; simp, hadd, by simp; omega⟩, ?_⟩
    show q.Bytes.length - (W ((j : Int) + 1)).toNat < _
    rw [Cl (by omega)]
    omega
   ·simp at hpos
    unfold Cw.j3
    refine Ok.bindE (by rw [Bw]; exact hs) ?_
    refine Ok.bindE (by rw [Jm n1, Bw]; exact hnx) ?_
    have hm : q.Bytes.take j ++ [c] ∈ ws' := Classical.byContradiction fun h => by rw [U0 h] at hpos; omega
    obtain ⟨t, ht1, ht2⟩ := Pl h5.hn hm
    refine Ok.ret ⟨⟨t, j + 1, ws', ht2, Cl (by omega), hlt2, by rw [htake]; exact ht1, h5, by omega⟩, ?_⟩
    show q.Bytes.length - (W ((j : Int) + 1)).toNat < _
    rw [Cl (by omega)]
    omega
  ·simp at hge2
   have hj : j = q.Bytes.length := by omega
   subst hj
   rw [aAy] at h4
   refine Ok.up ?_
   refine Ok.bindE (by rw [Bw]; exact hs) ?_
   have hel : s.ends.length <= K := by
    rw [n4]
    unfold En
    rw [zU]
    exact yN (aCg _ _) (by simp)
   refine Ok.bindE (Ey (by have := hp.1; simp; omega)) ?_
   refine Ok.ret ⟨⟨K + 1, ws', Cl (by have := hp.1; omega), hlt, ?_, by omega⟩, ?_⟩
   ·rw [yA]
    exact h5.done hq h4 hs
   ·show p.length - (W ((K : Int) + 1)).toNat < _
    rw [Cl (by have := hp.1; omega)]
    omega
 ·simp at hge
  have : K = p.length := by omega
  subst this
  exact Ok.up (Ok.ret ⟨ws, ht, hl⟩)
end
section
open Go
def Np (p : List Ai) (w : Fm) (l : List Int) : Prop := l.Nodup /\ ∀ x, x ∈ l ↔ ∃ k q, x = ((k : Nat) : Int) /\ p[k]? = some q /\ q.Bytes <:+ w
structure Wk (p : List Ai) (ws : List Fm) : Prop where
 hn : ws.Nodup
 hc : tQ ws
 h0 : ws[0]? = some []
 pats : ∀ (k : Nat) q, p[k]? = some q -> q.Bytes ∈ ws
def nx (ws : List Fm) (w : Fm) (m c : Nat) : Int := if c < m then Lk ws (lg ws (w ++ [b8 c])) else Lk ws (w ++ [b8 c])
structure Mc (p : List Ai) (ws : List Fm) (ss : List Al) (m : Nat -> Nat) (fin inD : Nat -> Prop) : Prop where
 len : ss.length = ws.length
 st : ∀ (i : Nat) s w, ss[i]? = some s -> ws[i]? = some w -> s.next.length = 256 /\ (∀ c : Nat, c < 256 -> s.next[c]? = some (nx ws w (m i) c)) /\ (inD i -> s.back = Lk ws (lg ws w.tail)) /\ (fin i -> Np p w s.ends) /\ (¬ fin i -> s.ends = En p p.length w)
def wl (ws : List Fm) (i : Nat) : Nat := (ws.getD i []).length
theorem Th {ws : List Fm} {i : Nat} {w : Fm} (h : ws[i]? = some w) : wl ws i = w.length := by unfold wl; rw [zA, h]; rfl
structure Od (ws : List Fm) (dn qu : List Nat) : Prop where
 lt : ∀ i ∈ dn ++ qu, i < ws.length
 nd : (dn ++ qu).Nodup
 so : (dn ++ qu).Pairwise fun i j => wl ws i <= wl ws j
 z : 0 ∈ dn ++ qu
 ch : ∀ (i j : Nat) w c, j ∈ dn -> ws[j]? = some w -> ws[i]? = some (w ++ [c]) -> i ∈ dn ++ qu
 pa : ∀ (i : Nat) w c, i ∈ dn ++ qu -> ws[i]? = some (w ++ [c]) -> ∃ j ∈ dn, ws[j]? = some w
def Iy (ws : List Fm) (w : Fm) (c : Nat) : List Nat := (List.range c).filterMap fun d => ws.findIdx? fun x => decide (x = w ++ [b8 d])
theorem Oi {ws : List Fm} (hn : ws.Nodup) {x : Fm} {i : Nat} : (ws.findIdx? fun y => decide (y = x)) = some i ↔ ws[i]? = some x := by
 constructor
 ·intro h
  rw [yU] at h
  obtain ⟨h1, h2, -⟩ := h
  rw [xK h1]
  simpa using h2
 ·intro h
  have := Sd hn h
  unfold Lk at this
  cases hf : ws.findIdx? fun y => decide (y = x) with
  | none => rw [hf] at this; simp at this
  | some j => rw [hf] at this; have := zZ this; rw [this]
theorem Me {ws : List Fm} {w : Fm} {c : Nat} : Iy ws w (c + 1) = Iy ws w c ++ (match ws.findIdx? (fun x => decide (x = w ++ [b8 c])) with | some t => [t] | none => []) := by
 unfold Iy
 rw [aBj, List.filterMap_append]
 congr 1
 simp only [List.filterMap_cons, List.filterMap_nil]
 cases ws.findIdx? fun x => decide (x = w ++ [b8 c]) <;> rfl
theorem Lx {ws : List Fm} (hn : ws.Nodup) {w : Fm} {c i : Nat} : i ∈ Iy ws w c ↔ ∃ d, d < c /\ ws[i]? = some (w ++ [b8 d]) := by
 unfold Iy
 simp only [List.mem_filterMap, zR, Oi hn]
theorem Pe {ws : List Fm} (hn : ws.Nodup) {w : Fm} : ∀ {c : Nat}, c <= 256 -> (Iy ws w c).Nodup
 | 0, _ => by simp [Iy]
 | c + 1, hc => by
  rw [Me]
  cases hf : ws.findIdx? fun x => decide (x = w ++ [b8 c]) with
  | none => simpa using Pe hn (by omega)
  | some t =>
   rw [aAa]
   refine ⟨Pe hn (by omega), by simp, fun a ha b hb => ?_⟩
   simp at hb
   subst hb
   rintro rfl
   obtain ⟨d, h1, h2⟩ := (Lx hn).1 ha
   have h3 := (Oi hn).1 hf
   rw [h2] at h3
   injection h3 with h3
   rw [Ox] at h3
   have := sO (by omega) (by omega) h3.2
   omega
theorem Od.less {ws : List Fm} {dn qu : List Nat} {a : Nat} (h : Od ws dn (a :: qu)) (hc : tQ ws) (hn : ws.Nodup) (h0 : ws[0]? = some []) : ∀ (n i : Nat) w, w.length = n -> ws[i]? = some w -> w.length < wl ws a -> i ∈ dn := by
 intro n
 induction n using Nat.strongRecOn with
 | _ n ih =>
  intro i w hw hi hlt
  have key : i ∈ dn ++ a :: qu -> i ∈ dn := fun hm => by
   rcases yQ.1 hm with hm | hm
   ·exact hm
   ·exfalso
    have hs := (aAo.1 h.so).2.1
    have : wl ws a <= wl ws i := by
     rcases yI.1 hm with rfl | hm
     ·exact xX _
     ·exact (zO.1 hs).1 i hm
    rw [Th hi] at this
    omega
  apply key
  rcases aBt w with rfl | ⟨v, c, rfl⟩
  ·have : i = 0 := I2 hn hi h0
   subst this
   exact h.z
  ·rw [aBu] at *
   have hv := hc.2 v c (xW hi)
   obtain ⟨j, hj⟩ := aCo hv
   have hl : (v ++ [c]).length = v.length + 1 := by simp
   exact h.ch i j v c (ih v.length (by omega) j v rfl hj (by omega)) hj hi
theorem Od.next {ws : List Fm} {dn qu : List Nat} {a : Nat} {w : Fm} (h : Od ws dn (a :: qu)) (hn : ws.Nodup) (ha : ws[a]? = some w) : Od ws (dn ++ [a]) (qu ++ Iy ws w 256) := by
 have e : dn ++ [a] ++ (qu ++ Iy ws w 256) = (dn ++ a :: qu) ++ Iy ws w 256 := by simp
 have hand : a ∉ dn := fun hm => by
  have := (aAa.1 h.nd).2.2 a hm a (by simp)
  exact this rfl
 have hkD : ∀ i, i ∈ Iy ws w 256 -> i ∉ dn ++ a :: qu := fun i hi hm => by
  obtain ⟨d, -, h2⟩ := (Lx hn).1 hi
  obtain ⟨j, hj, hj'⟩ := h.pa i w (b8 d) hm h2
  rw [I2 hn hj' ha] at hj
  exact hand hj
 have hup : ∀ i ∈ dn ++ a :: qu, wl ws i <= w.length + 1 := fun i hi => by
  have hilt := h.lt i hi
  have hi' : ws[i]? = some ws[i] := xK hilt
  rw [Th hi']
  rcases aBt ws[i] with e | ⟨v, c, e⟩
  ·rw [e]; simp
  ·rw [aBu] at e
   rw [e] at hi'
   obtain ⟨j, hj, hj'⟩ := h.pa i v c hi hi'
   have := (aAo.1 h.so).2.2 j hj a (by simp)
   rw [Th hj', Th ha] at this
   rw [e]
   simp
   omega
 have hkl : ∀ i ∈ Iy ws w 256, wl ws i = w.length + 1 := fun i hi => by
  obtain ⟨d, -, h2⟩ := (Lx hn).1 hi
  rw [Th h2]
  simp
 refine ⟨?_, ?_, ?_, ?_, fun i j v c hj hjv hi => ?_, fun i v c hi hiv => ?_⟩
 ·rw [e]
  intro i hi
  rcases yQ.1 hi with hi | hi
  ·exact h.lt i hi
  ·obtain ⟨d, -, h2⟩ := (Lx hn).1 hi
   exact (xM.1 h2).1
 ·rw [e, aAa]
  exact ⟨h.nd, Pe hn (xX _), fun i hi j hj he => hkD j hj (by rw [<- he]; exact hi)⟩
 ·rw [e, aAo]
  refine ⟨h.so, ?_, fun i hi j hj => by rw [hkl j hj]; exact hup i hi⟩
  exact List.Pairwise.imp_of_mem (R := fun _ _ => True) (fun {i j} hi hj _ => by rw [hkl i hi, hkl j hj]; exact xX _) (List.pairwise_of_forall fun _ _ => trivial)
 ·rw [e]; exact yT _ h.z
 ·rw [e]
  rcases yQ.1 hj with hj | hj
  ·exact yT _ (h.ch i j v c hj hjv hi)
  ·rw [xQ.1 hj, ha] at hjv
   injection hjv with hjv
   subst hjv
   refine zL _ ((Lx hn).2 ⟨c.toNat, c.toNat_lt, ?_⟩)
   rw [dM]; exact hi
 ·rw [e] at hi
  rcases yQ.1 hi with hi | hi
  ·obtain ⟨j, h1, h2⟩ := h.pa i v c hi hiv
   exact ⟨j, yT _ h1, h2⟩
  ·obtain ⟨d, -, h2⟩ := (Lx hn).1 hi
   rw [hiv] at h2
   injection h2 with h2
   rw [Ox] at h2
   rw [h2.1]
   exact ⟨a, zL _ (by simp), ha⟩
def Zh (p : List Ai) (ws : List Fm) (dn qu : List Nat) (a : Nat) (w : Fm) (c : Nat) (ss : List Al) : Prop :=
 Mc p ws ss (fun i => if i ∈ dn then 256 else if i = a then c else 0) (fun i => i ∈ dn \/ i = a) (fun i => i ∈ dn ++ a :: qu \/ i ∈ Iy ws w c)
theorem nZ {ws : List Fm} {w : Fm} {c d : Nat} (h : d ≠ c) : nx ws w (c + 1) d = nx ws w c d := by
 unfold nx
 by_cases h1 : d < c
 ·rw [if_pos h1, if_pos (by omega)]
 ·rw [if_neg h1, if_neg (by omega)]
section
variable {p : List Ai} {ws : List Fm} {dn qu : List Nat} {a c : Nat} {w : Fm} {ss : List Al} {s : Al}
theorem Zh.miss (h : Zh p ws dn qu a w c ss) (hW : Wk p ws) (hc : c < 256) (hd : a ∉ dn) (ha : ws[a]? = some w) (hs : ss[a]? = some s) (hx : w ++ [b8 c] ∉ ws) :
  Zh p ws dn qu a w (c + 1) (ss.set a ⟨s.next.set c (Lk ws (lg ws (w ++ [b8 c]).tail)), s.back, s.ends⟩) := by
 have hk : Iy ws w (c + 1) = Iy ws w c := by
  rw [Me]
  have : ws.findIdx? (fun x => decide (x = w ++ [b8 c])) = none := by
   cases hf : ws.findIdx? fun x => decide (x = w ++ [b8 c]) with
   | none => rfl
   | some t => exact (hx (xW ((Oi hW.hn).1 hf))).elim
  rw [this, aAm]
 refine ⟨by simp [h.len], fun i t v ht hv => ?_⟩
 rw [hk]
 by_cases hia : a = i
 ·subst hia
  rw [ha] at hv
  injection hv with hv
  subst hv
  rw [zD (xM.1 hs).1] at ht
  injection ht with ht
  subst ht
  obtain ⟨h1, h2, h3, h4, h5⟩ := h.st a s w hs ha
  refine ⟨by simp [h1], fun d hd' => ?_, h3, h4, h5⟩
  simp only [if_neg hd, if_true] at h2 ⊢
  rw [aB8]
  by_cases hcd : c = d
  ·subst hcd
   rw [if_pos rfl, if_pos (by rw [h1]; exact hc)]
   unfold nx
   rw [if_pos (xO _), <- rI hx hW.hc.1]
  ·rw [if_neg hcd, h2 d hd', nZ fun e => hcd e.symm]
 ·rw [zK hia] at ht
  have := h.st i t v ht hv
  simp only [if_neg (fun e => hia (Eq.symm e) : ¬ i = a)] at this ⊢
  exact this
theorem Zh.hit {t : Nat} {st : Al} (h : Zh p ws dn qu a w c ss) (hW : Wk p ws) (hc : c < 256) (hd : a ∉ dn) (ha : ws[a]? = some w) (ht : ws[t]? = some (w ++ [b8 c])) (hst : ss[t]? = some st) (htD : t ∉ dn) :
  Zh p ws dn qu a w (c + 1) (ss.set t ⟨st.next, Lk ws (lg ws (w ++ [b8 c]).tail), st.ends⟩) := by
 have hta : t ≠ a := by
  rintro rfl
  rw [ha] at ht
  injection ht with ht
  have := congrArg List.length ht
  simp at this
 have hk : Iy ws w (c + 1) = Iy ws w c ++ [t] := by rw [Me, (Oi hW.hn).2 ht]
 have hnx : ∀ i v d, ws[i]? = some v -> nx ws v (if i ∈ dn then 256 else if i = a then c + 1 else 0) d = nx ws v (if i ∈ dn then 256 else if i = a then c else 0) d := fun i v d hv => by
  by_cases hi : i ∈ dn
  ·simp only [if_pos hi]
  ·simp only [if_neg hi]
   by_cases hia : i = a
   ·subst hia
    rw [ha] at hv
    injection hv with hv
    subst hv
    rw [if_pos rfl, if_pos rfl]
    by_cases hcd : d = c
    ·subst hcd
     unfold nx
     rw [if_pos (xO _), if_neg (Nat.lt_irrefl _), mU (xW ht)]
    ·exact nZ hcd
   ·rw [if_neg hia, if_neg hia]
 refine ⟨by simp [h.len], fun i u v hu hv => ?_⟩
 simp only [hk, yQ, xQ]
 by_cases hit : t = i
 ·subst hit
  rw [ht] at hv
  injection hv with hv
  subst hv
  rw [zD (xM.1 hst).1] at hu
  injection hu with hu
  subst hu
  obtain ⟨h1, h2, h3, h4, h5⟩ := h.st t st _ hst ht
  exact ⟨h1, fun d hd' => by rw [hnx t _ d ht]; exact h2 d hd', fun _ => rfl, h4, h5⟩
 ·rw [zK hit] at hu
  obtain ⟨h1, h2, h3, h4, h5⟩ := h.st i u v hu hv
  refine ⟨h1, fun d hd' => by rw [hnx i v d hv]; exact h2 d hd', fun hi => h3 ?_, h4, h5⟩
  rcases hi with hi | hi | hi
  ·exact .inl (yQ.2 hi)
  ·exact .inr hi
  ·exact (hit hi.symm).elim
theorem dY (hW : Wk p ws) : Np p [] (En p p.length []) := by
 refine ⟨Ya, fun x => ?_⟩
 rw [bF]
 constructor
 ·rintro ⟨k, q, h1, -, h3, h4⟩
  exact ⟨k, q, h1, h3, by rw [h4]; exact aCk _⟩
 ·rintro ⟨k, q, h1, h3, h4⟩
  exact ⟨k, q, h1, (xM.1 h3).1, h3, List.suffix_nil.1 h4⟩
theorem jK {l : List Int} (hW : Wk p ws) (hw : w ≠ []) (hl : Np p (lg ws w.tail) l) : Np p w (En p p.length w ++ l) := by
 have hlt : (lg ws w.tail).length < w.length := by
  have := (Mu (ws := ws) w.tail).length_le
  have h2 : 0 < w.length := aCr.2 hw
  rw [List.length_tail] at this
  omega
 refine ⟨?_, fun x => ?_⟩
 ·rw [aAa]
  refine ⟨Ya, hl.1, fun x hx y hy => ?_⟩
  rintro rfl
  obtain ⟨k, q, h1, -, h3, h4⟩ := bF.1 hx
  obtain ⟨k', q', h1', h3', h4'⟩ := (hl.2 x).1 hy
  rw [h1] at h1'
  have := zZ h1'
  subst this
  rw [h3] at h3'
  injection h3' with h3'
  subst h3'
  have := h4'.length_le
  rw [h4] at this
  omega
 ·rw [yQ, bF, hl.2]
  constructor
  ·rintro (⟨k, q, h1, -, h3, h4⟩ | ⟨k, q, h1, h3, h4⟩)
   ·exact ⟨k, q, h1, h3, by rw [h4]; exact aCk _⟩
   ·exact ⟨k, q, h1, h3, (h4.trans (Mu _)).trans (List.tail_suffix w)⟩
  ·rintro ⟨k, q, h1, h3, h4⟩
   by_cases he : q.Bytes = w
   ·exact .inl ⟨k, q, h1, (xM.1 h3).1, h3, he⟩
   ·refine .inr ⟨k, q, h1, h3, ?_⟩
    rw [bA (hW.pats k q h3)]
    cases w with
    | nil => exact (hw rfl).elim
    | cons d s =>
     rcases List.suffix_cons_iff.1 h4 with h | h
     ·exact (he h).elim
     ·exact h
end
end
section
open Go
structure Pt (p : List Ai) (ws : List Fm) (ss : List Al) : Prop where
 wk : Wk p ws
 len : ss.length = ws.length
 st : ∀ (i : Nat) s w, ss[i]? = some s -> ws[i]? = some w -> s.next.length = 256 /\ (∀ c : UInt8, s.next[c.toNat]? = some (Lk ws (lg ws (w ++ [c])))) /\ Np p w s.ends
section
variable {p : List Ai} {ws : List Fm} {dn qu : List Nat} {a : Nat} {w : Fm}
def jN (p : List Ai) (ws : List Fm) (dn qu : List Nat) (ss : List Al) : Prop :=
 Mc p ws ss (fun i => if i ∈ dn then 256 else 0) (fun i => i ∈ dn) (fun i => i ∈ dn ++ qu)
theorem jX {e_2 : Al} {ss0 : List Al} (hW : Wk p ws) (hsz : ws.length <= 32768) (hO : Od ws dn (a :: qu)) (ha : ws[a]? = some w) (hb : e_2.back = Lk ws (lg ws w.tail)) (h0 : Zh p ws dn qu a w 0 ss0) :
  Ok (Bf.j2 (a : Int) (qu.map fun i : Nat => (i : Int)) e_2 ss0) (gG (fun s => ∃ ss', s = (ss', (qu ++ Iy ws w 256).map fun i : Nat => (i : Int)) /\ Zh p ws dn qu a w 256 ss') fun _ => False) := by
 unfold Bf.j2
 have hd : a ∉ dn := fun hm => (aAa.1 hO.nd).2.2 a hm a (by simp) rfl
 have halt := (xM.1 ha).1
 refine Ok.loop (fun t => ∃ c : Nat, t.1 = (c : Int) /\ c <= 256 /\ t.2.2 = (qu ++ Iy ws w c).map (fun i : Nat => (i : Int)) /\ Zh p ws dn qu a w c t.2.1) (fun t => 256 - t.1.toNat) ?_ ⟨0, rfl, by omega, by simp [Iy], h0⟩
 rintro ⟨x, ss, q⟩ ⟨c, h1, h2, h3, h4⟩
 simp only at h1 h3 h4 ⊢
 subst h1 h3
 unfold Bf.l3
 refine Ok.cond (fun hlt => ?_) fun hge => ?_
 ·have hc : c < 256 := by simp at hlt; omega
  have hs : ss[a]? = some (ss[a]'(by rw [h4.len]; exact halt)) := xK _
  generalize (ss[a]'(by rw [h4.len]; exact halt)) = s at hs
  refine Ok.bindE (by rw [Bw]; exact hs) ?_
  obtain ⟨n1, n2, n3, n4, -⟩ := h4.st a s w hs ha
  have n5 := n2 c hc
  simp only [if_neg hd, if_true] at n5
  unfold nx at n5
  rw [if_neg (Nat.lt_irrefl _)] at n5
  refine Ok.bindE (by rw [Jm n1, Bw]; exact n5) ?_
  have step : ∀ other, other = Lk ws (lg ws (w ++ [b8 c]).tail) -> Ok (Bf.j4 (a : Int) (c : Int) ss ((qu ++ Iy ws w c).map fun i : Nat => (i : Int)) s (Lk ws (w ++ [b8 c])) other)
    (gG (fun t => (∃ c : Nat, t.1 = (c : Int) /\ c <= 256 /\ t.2.2 = (qu ++ Iy ws w c).map (fun i : Nat => (i : Int)) /\ Zh p ws dn qu a w c t.2.1) /\ 256 - t.1.toNat < 256 - (c : Int).toNat) (gG (fun s => ∃ ss', s = (ss', (qu ++ Iy ws w 256).map fun i : Nat => (i : Int)) /\ Zh p ws dn qu a w 256 ss') fun _ => False)) := fun other hother => by
   unfold Bf.j4
   have hm : 256 - (W ((c : Int) + 1)).toNat < 256 - (c : Int).toNat := by
    rw [Cl (by omega)]
    omega
   refine Ok.cond (fun hneg => ?_) fun hpos => ?_
   ·have hx := (iJ hW.hn).1 (by simpa using hneg)
    unfold Bf.j5
    refine Ok.ret ⟨⟨c + 1, Cl (by omega), hc, ?_, ?_⟩, hm⟩
    ·rw [Me]
     have : ws.findIdx? (fun x => decide (x = w ++ [b8 c])) = none := by
      cases hf : ws.findIdx? fun x => decide (x = w ++ [b8 c]) with
      | none => rfl
      | some t => exact (hx (xW ((Oi hW.hn).1 hf))).elim
     rw [this, aAm]
    ·show Zh p ws dn qu a w (c + 1) (Bi ss ((a : Int)).toNat _)
     rw [Jm n1, yA, yA, hother]
     exact h4.miss hW hc hd ha hs hx
   ·have hx : w ++ [b8 c] ∈ ws := Classical.byContradiction fun h => by
     rw [U0 h] at hpos
     simp at hpos
    obtain ⟨t, ht, hlk⟩ := Pl hW.hn hx
    rw [hlk]
    have htl := (xM.1 ht).1
    have hst : ss[t]? = some (ss[t]'(by rw [h4.len]; exact htl)) := xK _
    generalize (ss[t]'(by rw [h4.len]; exact htl)) = st at hst
    refine Ok.bindE (by rw [Bw]; exact hst) ?_
    have htD : t ∉ dn := fun hm' => by
     obtain ⟨j, hj, hj'⟩ := hO.pa t w (b8 c) (yT _ hm') ht
     rw [I2 hW.hn hj' ha] at hj
     exact hd hj
    have hql : ((qu ++ Iy ws w c).map fun i : Nat => (i : Int)).length <= 2 * 32768 + 1000 := by
     have h5 : qu.length <= ws.length := by
      have := aAb (l₂ := List.range ws.length) ((List.nodup_cons.1 (aAa.1 hO.nd).2.1).2) (fun i hi => zR.2 (hO.lt i (by simp [hi])))
      simpa using this
     have h6 : (Iy ws w c).length <= c := by
      unfold Iy
      exact yN (List.length_filterMap_le _ _) (by simp)
     rw [zU, xS]
     omega
    refine Ok.bindE (Ey (by rw [yJ]; omega)) ?_
    unfold Bf.j5
    refine Ok.ret ⟨⟨c + 1, Cl (by omega), hc, ?_, ?_⟩, hm⟩
    ·rw [Me, (Oi hW.hn).2 ht]
     simp
    ·show Zh p ws dn qu a w (c + 1) (Bi ss ((t : Int)).toNat _)
     rw [yA, hother]
     exact h4.hit hW hc hd ha ht hst htD
  refine Ok.cond (fun hne => ?_) fun heq => ?_
  ·have hw : w ≠ [] := by
    rintro rfl
    have := I2 hW.hn ha hW.h0
    subst this
    simp at hne
   obtain ⟨b, hb1, hb2⟩ := Pl hW.hn (Rp hW.hc.1 w.tail)
   rw [hb, hb2]
   have hbl := (xM.1 hb1).1
   have hsb : ss[b]? = some (ss[b]'(by rw [h4.len]; exact hbl)) := xK _
   generalize (ss[b]'(by rw [h4.len]; exact hbl)) = sb at hsb
   refine Ok.bindE (by rw [Bw]; exact hsb) ?_
   have hbd : b ∈ dn := by
    refine hO.less hW.hc hW.hn hW.h0 _ b _ rfl hb1 ?_
    rw [Th ha]
    have := (Mu (ws := ws) w.tail).length_le
    have h2 : 0 < w.length := aCr.2 hw
    rw [List.length_tail] at this
    omega
   obtain ⟨m1, m2, -⟩ := h4.st b sb _ hsb hb1
   have m3 := m2 c hc
   simp only [if_pos hbd] at m3
   unfold nx at m3
   rw [if_pos hc] at m3
   refine Ok.bindE (by rw [Jm m1, Bw]; exact m3) ?_
   exact step _ (by rw [nH hW.hc (b8 c) hw])
  ·have ha0 : a = 0 := by simp at heq; omega
   subst ha0
   rw [hW.h0] at ha
   injection ha with ha
   subst ha
   refine step 0 ?_
   rw [jI]
   show (0 : Int) = Lk ws (lg ws [])
   rw [show lg ws [] = [] from rfl, Sd hW.hn hW.h0]
   rfl
 ·have hc : c = 256 := by simp at hge; omega
  subst hc
  exact Ok.up (Ok.ret ⟨ss, rfl, h4⟩)
theorem jN.enter {ss : List Al} {s : Al} {l : List Int} (h : jN p ws dn (a :: qu) ss) (hW : Wk p ws) (hd : a ∉ dn) (ha : ws[a]? = some w) (hs : ss[a]? = some s) (hl : Np p w l) (hss : ∀ ss', ss' = ss.set a ⟨s.next, s.back, l⟩ \/ (ss' = ss /\ s.ends = l) -> True) :
  ∀ ss', ss' = ss.set a ⟨s.next, s.back, l⟩ \/ (ss' = ss /\ s.ends = l) -> Zh p ws dn qu a w 0 ss' := by
 intro ss' hss'
 have hlen : ss'.length = ws.length := by
  rcases hss' with rfl | ⟨rfl, -⟩
  ·simp [h.len]
  ·exact h.len
 refine ⟨hlen, fun i t v ht hv => ?_⟩
 have hm : (if i ∈ dn then 256 else if i = a then 0 else 0) = (if i ∈ dn then 256 else 0) := by split <;> simp
 simp only [hm]
 have hk : i ∈ Iy ws w 0 ↔ False := by simp [Iy]
 simp only [hk, aA9]
 by_cases hia : i = a
 ·subst hia
  rw [ha] at hv
  injection hv with hv
  subst hv
  obtain ⟨h1, h2, h3, h4, h5⟩ := h.st i s w hs ha
  have ht' : t.next = s.next /\ t.back = s.back /\ t.ends = l := by
   rcases hss' with rfl | ⟨rfl, he⟩
   ·rw [zD (xM.1 hs).1] at ht
    injection ht with ht
    subst ht
    exact ⟨rfl, rfl, rfl⟩
   ·rw [hs] at ht
    injection ht with ht
    subst ht
    exact ⟨rfl, rfl, he⟩
  rw [ht'.1, ht'.2.1, ht'.2.2]
  exact ⟨h1, h2, h3, fun _ => hl, fun hn => (hn (.inr rfl)).elim⟩
 ·have ht' : ss[i]? = some t := by
   rcases hss' with rfl | ⟨rfl, -⟩
   ·rwa [zK (fun e => hia e.symm)] at ht
   ·exact ht
  obtain ⟨h1, h2, h3, h4, h5⟩ := h.st i t v ht' hv
  exact ⟨h1, h2, h3, fun hi => h4 (hi.resolve_right hia), fun hi => h5 fun h => hi (.inl h)⟩
theorem Zh.leave {ss : List Al} (h : Zh p ws dn qu a w 256 ss) : jN p ws (dn ++ [a]) (qu ++ Iy ws w 256) ss := by
 refine ⟨h.len, fun i t v ht hv => ?_⟩
 obtain ⟨h1, h2, h3, h4, h5⟩ := h.st i t v ht hv
 have hm : (if i ∈ dn then 256 else if i = a then 256 else 0) = (if i ∈ dn ++ [a] then 256 else 0) := by
  simp only [yQ, xQ]
  by_cases h1 : i ∈ dn
  ·simp [h1]
  ·by_cases h2 : i = a
   ·simp [h1, h2]
   ·simp [h1, h2]
 simp only [hm] at h2
 refine ⟨h1, h2, fun hi => h3 ?_, fun hi => h4 ?_, fun hi => h5 fun h => hi ?_⟩
 ·simp only [yQ, yI, zH, aA9] at hi ⊢
  rcases hi with (hi | hi) | hi | hi
  ·exact .inl (.inl hi)
  ·exact .inl (.inr (.inl hi))
  ·exact .inl (.inr (.inr hi))
  ·exact .inr hi
 ·simpa using hi
 ·simpa using h
theorem U7 {l : List Int} (h : Np p w l) (hp : p.length <= 32) : l.length <= 32 := by
 have := aAb (l₂ := (List.range p.length).map fun k : Nat => (k : Int)) h.1 (fun x hx => by
  obtain ⟨k, q, rfl, h2, -⟩ := (h.2 x).1 hx
  exact yW.2 ⟨k, zR.2 (xM.1 h2).1, rfl⟩)
 simp at this
 omega
theorem jS {ι S R : Type} {body : S -> Option (Lp S R)} (Inv : ι -> S -> Prop) (μ : ι -> Nat) {Q : R -> Prop} (h : ∀ i s, Inv i s -> Ok (body s) (gG (fun s' => ∃ i', Inv i' s' /\ μ i' < μ i) Q)) : ∀ (n : Nat) (i : ι) (s : S), μ i = n -> Inv i s -> Ok (B6 body s) Q := by
 intro n
 induction n using Nat.strongRecOn with
 | _ n ih =>
  intro i s hm hs
  obtain ⟨o, h1, h2⟩ := h i s hs
  rw [Gf, h1]
  cases o with
  | done r => exact ⟨r, rfl, h2⟩
  | next s' =>
   obtain ⟨i', h3, h4⟩ := h2
   exact ih (μ i') (by omega) i' s' rfl h3
theorem U1 (hp : lM p) : Ok (Bf p) (fun ss => ∃ ws, Pt p ws ss) := by
 unfold Bf
 refine Ok.bind (mM hp) ?_
 rintro y ⟨ws, hT, hsz⟩
 have hsz : ws.length <= 2049 := by have := hp.1; omega
 have hW : Wk p ws := ⟨hT.hn, hT.hc, hT.h0, fun k q hq => hT.pats k q (xM.1 hq).1 hq⟩
 have h0lt := (xM.1 hT.h0).1
 refine jS (fun (i : List Nat × List Nat) (t : List Al × List Int) => t.2 = i.2.map (fun i : Nat => (i : Int)) /\ Od ws i.1 i.2 /\ jN p ws i.1 i.2 t.1) (fun i => ws.length - i.1.length) ?_ _ ([], [0]) _ rfl ⟨rfl, ?_, ?_⟩
 ·rintro ⟨dn, qu⟩ ⟨ss, q⟩ ⟨h1, h2, h3⟩
  simp only at h1 h2 h3 ⊢
  subst h1
  unfold Bf.l1
  cases qu with
  | nil =>
   refine Ok.cond (fun hlt => by simp at hlt) fun hge => ?_
   refine Ok.up (Ok.ret ⟨ws, hW, h3.len, fun i s w hs hw => ?_⟩)
   have hall : ∀ (n i : Nat) w, w.length = n -> ws[i]? = some w -> i ∈ dn := by
    intro n
    induction n with
    | zero =>
     intro i w hl hi
     have : w = [] := xZ hl
     subst this
     have := I2 hT.hn hi hT.h0
     subst this
     simpa using h2.z
    | succ n ih =>
     intro i w hl hi
     rcases aBt w with rfl | ⟨v, c, rfl⟩
     ·simp at hl
     ·rw [aBu] at *
      obtain ⟨j, hj⟩ := aCo (hT.hc.2 v c (xW hi))
      have := h2.ch i j v c (ih j v (by simpa using hl) hj) hj hi
      simpa using this
   have hi := hall _ i w rfl hw
   obtain ⟨n1, n2, n3, n4, -⟩ := h3.st i s w hs hw
   refine ⟨n1, fun c => ?_, n4 hi⟩
   have := n2 c.toNat c.toNat_lt
   simp only [if_pos hi] at this
   rw [this]
   unfold nx
   rw [if_pos c.toNat_lt, dM]
  | cons a qu =>
   refine Ok.cond (fun hlt => ?_) fun hge => by simp at hge
   have hal : a < ws.length := h2.lt a (by simp)
   have ha : ws[a]? = some ws[a] := xK hal
   generalize ws[a] = w at ha
   have hd : a ∉ dn := fun hm => (aAa.1 h2.nd).2.2 a hm a (by simp) rfl
   have hs : ss[a]? = some (ss[a]'(by rw [h3.len]; exact hal)) := xK _
   generalize (ss[a]'(by rw [h3.len]; exact hal)) = s at hs
   refine Ok.bindE (a := (a : Int)) (by rw [iY]; rfl) ?_
   refine Ok.bindE (a := qu.map fun i : Nat => (i : Int)) (by
    unfold Si
    rw [if_pos (by simp; omega)]
    simp
    exact yG (by simp)) ?_
   refine Ok.bindE (by rw [Bw]; exact hs) ?_
   obtain ⟨n1, n2, n3, n4, n5⟩ := h3.st a s w hs ha
   have n7 := n3 (by simp)
   have n6 := n5 hd
   have fin : ∀ ss', Zh p ws dn qu a w 0 ss' -> Ok (Bf.j2 (a : Int) (qu.map fun i : Nat => (i : Int)) s ss') (gG (fun s' => ∃ i' : List Nat × List Nat, (s'.2 = i'.2.map (fun i : Nat => (i : Int)) /\ Od ws i'.1 i'.2 /\ jN p ws i'.1 i'.2 s'.1) /\ ws.length - i'.1.length < ws.length - dn.length) fun ss => ∃ ws, Pt p ws ss) := fun ss' h => by
    refine (jX hW (by omega) h2 ha n7 h).mono fun o ho => ?_
    cases o with
    | done r => exact ho.elim
    | next s' =>
     obtain ⟨s2, rfl, h5⟩ := ho
     refine ⟨(dn ++ [a], qu ++ Iy ws w 256), ⟨rfl, h2.next hT.hn ha, h5.leave⟩, ?_⟩
     have hlen := aAb (l₂ := List.range ws.length) h2.nd (fun i hi => zR.2 (h2.lt i hi))
     simp at hlen ⊢
     omega
   refine Ok.cond (fun hne => ?_) fun heq => ?_
   ·have hw : w ≠ [] := by
     rintro rfl
     have := I2 hT.hn ha hT.h0
     subst this
     simp at hne
    obtain ⟨b, hb1, hb2⟩ := Pl hT.hn (Rp hT.hc.1 w.tail)
    rw [n7, hb2]
    have hbl := (xM.1 hb1).1
    have hsb : ss[b]? = some (ss[b]'(by rw [h3.len]; exact hbl)) := xK _
    generalize (ss[b]'(by rw [h3.len]; exact hbl)) = sb at hsb
    refine Ok.bindE (by rw [Bw]; exact hsb) ?_
    have hbd : b ∈ dn := by
     refine h2.less hT.hc hT.hn hT.h0 _ b _ rfl hb1 ?_
     rw [Th ha]
     have := (Mu (ws := ws) w.tail).length_le
     have h2 : 0 < w.length := aCr.2 hw
     rw [List.length_tail] at this
     omega
    have m4 := (h3.st b sb _ hsb hb1).2.2.2.1 hbd
    have hl := jK hW hw m4
    rw [<- n6] at hl
    have hl1 := U7 hl hp.1
    rw [xS] at hl1
    refine Ok.bindE (Ey (by omega)) ?_
    rw [yA, <- hb2, <- n7]
    exact fin _ (h3.enter hW hd ha hs hl (fun _ _ => trivial) _ (.inl rfl))
   ·have ha0 : a = 0 := by simp at heq; omega
    subst ha0
    have hw : w = [] := by
     rw [hT.h0] at ha
     injection ha with ha
     exact ha.symm
    subst hw
    have hl := dY hW
    rw [<- n6] at hl
    exact fin _ (h3.enter hW hd ha hs hl (fun _ _ => trivial) _ (.inr ⟨rfl, rfl⟩))
 ·refine ⟨fun i hi => ?_, by simp, by simp, by simp, fun i j w c hj => by simp at hj, fun i w c hi hiw => ?_⟩
  ·simp at hi
   subst hi
   exact h0lt
  ·simp at hi
   subst hi
   rw [hT.h0] at hiw
   simp at hiw
 ·refine ⟨hT.len, fun i s w hs hw => ?_⟩
  obtain ⟨n1, n2, n3, n4⟩ := hT.st i s w hs hw
  refine ⟨n1, fun c hc => ?_, fun hi => ?_, fun h => by simp at h, fun _ => n4⟩
  ·rw [n2 c hc]
   simp [nx]
  ·have hi : i = 0 := by simpa using hi
   subst hi
   rw [hT.h0] at hw
   injection hw with hw
   subst hw
   rw [n3]
   show (0 : Int) = Lk ws (lg ws [])
   rw [show lg ws [] = [] from rfl, Sd hT.hn hT.h0]
   rfl
end
end
end Go.Proofs.Ytfkgbfhpibiheaa
