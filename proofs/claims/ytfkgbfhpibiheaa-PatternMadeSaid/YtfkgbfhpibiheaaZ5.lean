import Derived.Test.YtfkgbfhpibiheaaZ4
set_option linter.unusedVariables false
set_option linter.unusedSimpArgs false
set_option maxRecDepth 100000
namespace Go.Proofs.Ytfkgbfhpibiheaa
open Go
def At (q b : Fm) (i : Nat) : Bool := decide (q.length + i <= b.length /\ (b.drop i).take q.length = q)
theorem Rg {q b : Fm} {e : Nat} (he : e <= b.length) : q <:+ b.take e ↔ q.length <= e /\ (b.drop (e - q.length)).take q.length = q := by
 have hl : (b.take e).length = e := by rw [xY]; omega
 rw [List.suffix_iff_eq_drop, hl, aBm]
 constructor
 ·intro h
  have h1 : q.length <= e := by
   have := congrArg List.length h
   simp at this
   omega
  refine ⟨h1, ?_⟩
  rw [show e - (e - q.length) = q.length by omega] at h
  exact h.symm
 ·rintro ⟨h1, h2⟩
  rw [show e - (e - q.length) = q.length by omega]
  exact h2.symm
theorem lI {q b : Fm} {i : Nat} (hi : q.length + i <= b.length) : q <:+ b.take (q.length + i) ↔ At q b i = true := by
 rw [Rg hi, show q.length + i - q.length = i by omega]
 unfold At
 simp only [aBh]
 exact ⟨fun h => ⟨hi, h.2⟩, fun h => ⟨by omega, h.2⟩⟩
theorem Zy {q b : Fm} {i : Nat} (h : At q b i = true) : q.length + i <= b.length := by
 unfold At at h
 simp only [aBh] at h
 exact h.1
def Px (p : List Ai) (b : Fm) (h : Ab) : Prop := ∃ (k : Nat) (q : Ai) (i : Nat), p[k]? = some q /\ h = ⟨(k : Int), (i : Int)⟩ /\ At q.Bytes b i = true
def en (ss : List Al) (ws : List Fm) (t : Fm) : List Int := (ss.getD (Lk ws (lg ws t)).toNat default).ends
section
variable {p : List Ai} {ws : List Fm} {ss : List Al} {b : Fm}
theorem Pt.at_ (h : Pt p ws ss) (t : Fm) : ∃ (i : Nat) (s : Al), Lk ws (lg ws t) = (i : Int) /\ ss[i]? = some s /\ ws[i]? = some (lg ws t) /\ en ss ws t = s.ends := by
 obtain ⟨i, h1, h2⟩ := Pl h.wk.hn (Rp h.wk.hc.1 t)
 have hl := (xM.1 h1).1
 have hs : ss[i]? = some (ss[i]'(by rw [h.len]; exact hl)) := xK _
 refine ⟨i, _, h2, hs, h1, ?_⟩
 unfold en
 rw [h2, yA, zA, hs]
 rfl
theorem Pt.ends (h : Pt p ws ss) (t : Fm) : Np p t (en ss ws t) := by
 obtain ⟨i, s, -, h2, h3, h4⟩ := h.at_ t
 obtain ⟨-, -, h5⟩ := h.st i s _ h2 h3
 rw [h4]
 refine ⟨h5.1, fun x => (h5.2 x).trans ?_⟩
 constructor
 ·rintro ⟨k, q, a1, a2, a3⟩
  exact ⟨k, q, a1, a2, (bA (h.wk.pats k q a2)).1 a3⟩
 ·rintro ⟨k, q, a1, a2, a3⟩
  exact ⟨k, q, a1, a2, (bA (h.wk.pats k q a2)).2 a3⟩
def M3 (p : List Ai) (i : Nat) (x : Int) : Ab := ⟨x, (i : Int) + 1 - ((p.getD x.toNat default).Bytes.length : Int)⟩
def S3 (p : List Ai) (ss : List Al) (ws : List Fm) (b : Fm) (i : Nat) : List Ab := (en ss ws (b.take (i + 1))).map (M3 p i)
def HS (p : List Ai) (ss : List Al) (ws : List Fm) (b : Fm) (n : Nat) : List Ab := (List.range n).flatMap (S3 p ss ws b)
theorem K8 {n : Nat} : HS p ss ws b (n + 1) = HS p ss ws b n ++ S3 p ss ws b n := by
 unfold HS
 rw [aBj, aBk]
 simp
theorem aX : ∀ {m n : Nat}, m <= n -> HS p ss ws b m <+: HS p ss ws b n
 | m, 0, h => by rw [show m = 0 by omega]; exact List.prefix_refl _
 | m, n + 1, h => by
  rcases yY m (n + 1) with h' | h'
  ·rw [K8]
   exact (aX (m := m) (n := n) (by omega)).trans (List.prefix_append _ _)
  ·rw [show m = n + 1 by omega]; exact List.prefix_refl _
theorem Pz {i k : Nat} {q : Ai} (hq : p[k]? = some q) : M3 p i (k : Int) = ⟨(k : Int), (i : Int) + 1 - (q.Bytes.length : Int)⟩ := by
 unfold M3
 rw [yA, zA, hq]
 rfl
theorem Og (hD : Pt p ws ss) {i : Nat} (hi : i < b.length) {h : Ab} : h ∈ S3 p ss ws b i ↔ ∃ (k : Nat) (q : Ai) (j : Nat), p[k]? = some q /\ h = ⟨(k : Int), (j : Int)⟩ /\ At q.Bytes b j = true /\ q.Bytes.length + j = i + 1 := by
 unfold S3
 rw [yW]
 have hE := hD.ends (b.take (i + 1))
 constructor
 ·rintro ⟨x, hx, rfl⟩
  obtain ⟨k, q, rfl, h2, h3⟩ := (hE.2 x).1 hx
  have h4 := (Rg (by omega)).1 h3
  refine ⟨k, q, i + 1 - q.Bytes.length, h2, ?_, ?_, by omega⟩
  ·rw [Pz h2]
   congr 1
   omega
  ·rw [<- lI (by omega), show q.Bytes.length + (i + 1 - q.Bytes.length) = i + 1 by omega]
   exact h3
 ·rintro ⟨k, q, j, h2, rfl, h4, h5⟩
  refine ⟨(k : Int), (hE.2 _).2 ⟨k, q, rfl, h2, ?_⟩, ?_⟩
  ·rw [<- h5]
   exact (lI (Zy h4)).2 h4
  ·rw [Pz h2]
   congr 1
   omega
theorem aK (hD : Pt p ws ss) : ∀ {n : Nat}, n <= b.length -> ∀ {h : Ab}, h ∈ HS p ss ws b n ↔ ∃ (k : Nat) (q : Ai) (j : Nat), p[k]? = some q /\ h = ⟨(k : Int), (j : Int)⟩ /\ At q.Bytes b j = true /\ 1 <= q.Bytes.length + j /\ q.Bytes.length + j <= n
 | 0, _, h => by
  constructor
  ·intro h; simp [HS] at h
  ·rintro ⟨k, q, j, -, -, -, h1, h2⟩; omega
 | n + 1, hn, h => by
  rw [K8, yQ, aK hD (n := n) (by omega), Og hD (by omega)]
  constructor
  ·rintro (⟨k, q, j, h1, h2, h3, h4, h5⟩ | ⟨k, q, j, h1, h2, h3, h4⟩)
   ·exact ⟨k, q, j, h1, h2, h3, h4, by omega⟩
   ·exact ⟨k, q, j, h1, h2, h3, by omega, by omega⟩
  ·rintro ⟨k, q, j, h1, h2, h3, h4, h5⟩
   rcases yY (q.Bytes.length + j) (n + 1) with h6 | h6
   ·exact .inl ⟨k, q, j, h1, h2, h3, h4, by omega⟩
   ·exact .inr ⟨k, q, j, h1, h2, h3, by omega⟩
theorem qB (hD : Pt p ws ss) (hp : lM p) {h : Ab} : h ∈ HS p ss ws b b.length ↔ Px p b h := by
 rw [aK hD (xX _)]
 constructor
 ·rintro ⟨k, q, j, h1, h2, h3, -⟩
  exact ⟨k, q, j, h1, h2, h3⟩
 ·rintro ⟨k, q, j, h1, h2, h3⟩
  have := (hp.2 q (xW h1)).1
  exact ⟨k, q, j, h1, h2, h3, by omega, Zy h3⟩
theorem fF (hD : Pt p ws ss) {i : Nat} : (S3 p ss ws b i).Nodup := by
 unfold S3
 rw [List.Nodup, List.pairwise_map]
 exact (hD.ends _).1.imp fun h e => h (by unfold M3 at e; injection e)
theorem Zg (hD : Pt p ws ss) : ∀ {n : Nat}, n <= b.length -> (HS p ss ws b n).Nodup
 | 0, _ => by simp [HS]
 | n + 1, hn => by
  rw [K8, aAa]
  refine ⟨Zg hD (by omega), fF hD, fun x hx y hy => ?_⟩
  rintro rfl
  obtain ⟨k, q, j, h1, h2, -, -, h5⟩ := (aK hD (by omega)).1 hx
  obtain ⟨k', q', j', h1', h2', -, h5'⟩ := (Og hD (by omega)).1 hy
  rw [h2] at h2'
  injection h2' with e1 e2
  have e1 := zZ e1
  have e2 := zZ e2
  subst e1 e2
  rw [h1] at h1'
  injection h1' with h1'
  subst h1'
  omega
theorem Nf {Inv Stop : List Ab -> List Ab -> Prop} {yield : Ab -> List Ab -> Option (Bool × List Ab)} {s0 : List Ab} (hp : lM p) (hb : b.length <= 4096) (hy : ∀ l h s, Inv l s -> Px p b h -> Ok (yield h s) (fun y => (y.1 = true -> Inv (l ++ [h]) y.2) /\ (y.1 = false -> Stop (l ++ [h]) y.2))) (h0 : Inv [] s0) :
  Ok (Be p b yield s0) (fun s => ∃ ws ss, Pt p ws ss /\ (Inv (HS p ss ws b b.length) s \/ ∃ l, l <+: HS p ss ws b b.length /\ Stop l s)) := by
 unfold Be
 refine Ok.bind (U1 hp) ?_
 rintro ss ⟨ws, hD⟩
 refine Ok.loop (fun t => ∃ i : Nat, t.2.1 = (i : Int) /\ i <= b.length /\ t.1 = Lk ws (lg ws (b.take i)) /\ Inv (HS p ss ws b i) t.2.2) (fun t => b.length - t.2.1.toNat) ?_ ⟨0, rfl, yL _, by
  show (0 : Int) = Lk ws (lg ws [])
  rw [show lg ws [] = [] from rfl, Sd hD.wk.hn hD.wk.h0]
  rfl, by simpa [HS] using h0⟩
 rintro ⟨at', x, s⟩ ⟨i, h1, h2, h3, h4⟩
 simp only at h1 h3 h4 ⊢
 subst h1
 unfold Be.l1
 refine Ok.cond (fun hlt => ?_) fun hge => ?_
 ·have hi : i < b.length := by simp at hlt; exact hlt
  have hc : b[i]? = some b[i] := xK hi
  generalize b[i] = c at hc
  refine Ok.bindE (by rw [Bw]; exact hc) ?_
  obtain ⟨j, st, a1, a2, a3, a4⟩ := hD.at_ (b.take i)
  obtain ⟨n1, n2, -⟩ := hD.st j st _ a2 a3
  rw [h3, a1]
  refine Ok.bindE (by rw [Bw]; exact a2) ?_
  have hstep : Lk ws (lg ws (lg ws (b.take i) ++ [c])) = Lk ws (lg ws (b.take (i + 1))) := by rw [<- Xo hD.wk.hc, E6 hc]
  refine Ok.bindE (by rw [Jm n1, Bw]; exact (n2 c).trans (by rw [hstep])) ?_
  obtain ⟨j', st', b1, b2, b3, b4⟩ := hD.at_ (b.take (i + 1))
  rw [b1]
  refine Ok.bindE (by rw [Bw]; exact b2) ?_
  have hE := hD.ends (b.take (i + 1))
  rw [b4] at hE
  have hel : st'.ends.length <= 32 := U7 hE hp.1
  have hHi : S3 p ss ws b i = st'.ends.map (M3 p i) := by unfold S3; rw [b4]
  refine Ok.loop (fun t => ∃ m : Nat, t.1 = (m : Int) /\ m <= st'.ends.length /\ Inv (HS p ss ws b i ++ (S3 p ss ws b i).take m) t.2) (fun t => st'.ends.length - t.1.toNat) ?_ ⟨0, rfl, yL _, by simpa using h4⟩
  rintro ⟨y, s'⟩ ⟨m, c1, c2, c3⟩
  simp only at c1 c3 ⊢
  subst c1
  unfold Be.l2
  refine Ok.cond (fun hlt2 => ?_) fun hge2 => ?_
  ·have hm : m < st'.ends.length := by simp at hlt2; exact hlt2
   have he : st'.ends[m]? = some st'.ends[m] := xK hm
   generalize st'.ends[m] = x at he
   refine Ok.bindE (by rw [Bw]; exact he) ?_
   obtain ⟨k, q, rfl, d2, d3⟩ := (hE.2 x).1 (xW he)
   refine Ok.bindE (by rw [Bw]; exact d2) ?_
   have d4 := (Rg (by omega)).1 d3
   have hql := (hp.2 q (xW d2))
   have hW : W (W ((i : Int) + 1) - (q.Bytes.length : Int)) = (i : Int) + 1 - (q.Bytes.length : Int) := by
    rw [Cl (by omega), Do (by omega)]
    omega
   rw [hW, <- Pz (i := i) d2]
   clear hW
   have hH : (S3 p ss ws b i)[m]? = some (M3 p i (k : Int)) := by rw [hHi, zF, he]; rfl
   have hhit : Px p b (M3 p i (k : Int)) := by
    obtain ⟨k2, q2, j2, e1, e2, e3, -⟩ := (Og hD hi).1 (xW hH)
    exact ⟨k2, q2, j2, e1, e2, e3⟩
   have happ : HS p ss ws b i ++ (S3 p ss ws b i).take m ++ [M3 p i (k : Int)] = HS p ss ws b i ++ (S3 p ss ws b i).take (m + 1) := by
    rw [E6 hH, yV]
   refine Ok.bind (hy _ _ _ c3 hhit) ?_
   rintro ⟨y1, y2⟩ ⟨f1, f2⟩
   rw [happ] at f1 f2
   refine Ok.cond (fun hn => ?_) fun hn => ?_
   ·have hn : y1 = false := by simpa using hn
    refine Ok.up (Ok.up (Ok.ret ⟨ws, ss, hD, .inr ⟨_, ?_, f2 hn⟩⟩))
    refine (List.IsPrefix.trans ?_ (aX (m := i + 1) (n := b.length) hi))
    rw [K8]
    exact (List.prefix_append_right_inj _).2 (List.take_prefix _ _)
   ·have hn : y1 = true := by simpa using hn
    refine Ok.ret ⟨⟨m + 1, Cl (by omega), hm, f1 hn⟩, ?_⟩
    show st'.ends.length - (W ((m : Int) + 1)).toNat < _
    rw [Cl (by omega)]
    omega
  ·have hm : m = st'.ends.length := by simp at hge2; omega
   subst hm
   refine Ok.up (Ok.ret ⟨⟨i + 1, Cl (by omega), hi, b1.symm, ?_⟩, ?_⟩)
   ·rw [K8]
    rw [yG (by rw [hHi, zU]; exact xX _)] at c3
    exact c3
   ·show b.length - (W ((i : Int) + 1)).toNat < _
    rw [Cl (by omega)]
    omega
 ·have hi : i = b.length := by simp at hge; omega
  subst hi
  exact Ok.up (Ok.ret ⟨ws, ss, hD, .inl h4⟩)
theorem Rc {Inv Stop : List Ab -> List Int -> Prop} {yield : Ab -> List Int -> Option (Bool × List Int)} {s0 : List Int} (hp : lM p) (hb : b.length <= 4096) (hy : ∀ l h s, Inv l s -> Px p b h -> Ok (yield h s) (fun y => (y.1 = true -> Inv (l ++ [h]) y.2) /\ (y.1 = false -> Stop (l ++ [h]) y.2))) (h0 : Inv [] s0) :
  Ok (Bp p b yield s0) (fun s => ∃ ws ss, Pt p ws ss /\ (Inv (HS p ss ws b b.length) s \/ ∃ l, l <+: HS p ss ws b b.length /\ Stop l s)) := by
 unfold Bp
 refine Ok.bind (U1 hp) ?_
 rintro ss ⟨ws, hD⟩
 refine Ok.loop (fun t => ∃ i : Nat, t.2.1 = (i : Int) /\ i <= b.length /\ t.1 = Lk ws (lg ws (b.take i)) /\ Inv (HS p ss ws b i) t.2.2) (fun t => b.length - t.2.1.toNat) ?_ ⟨0, rfl, yL _, by
  show (0 : Int) = Lk ws (lg ws [])
  rw [show lg ws [] = [] from rfl, Sd hD.wk.hn hD.wk.h0]
  rfl, by simpa [HS] using h0⟩
 rintro ⟨at', x, s⟩ ⟨i, h1, h2, h3, h4⟩
 simp only at h1 h3 h4 ⊢
 subst h1
 unfold Bp.l1
 refine Ok.cond (fun hlt => ?_) fun hge => ?_
 ·have hi : i < b.length := by simp at hlt; exact hlt
  have hc : b[i]? = some b[i] := xK hi
  generalize b[i] = c at hc
  refine Ok.bindE (by rw [Bw]; exact hc) ?_
  obtain ⟨j, st, a1, a2, a3, a4⟩ := hD.at_ (b.take i)
  obtain ⟨n1, n2, -⟩ := hD.st j st _ a2 a3
  rw [h3, a1]
  refine Ok.bindE (by rw [Bw]; exact a2) ?_
  have hstep : Lk ws (lg ws (lg ws (b.take i) ++ [c])) = Lk ws (lg ws (b.take (i + 1))) := by rw [<- Xo hD.wk.hc, E6 hc]
  refine Ok.bindE (by rw [Jm n1, Bw]; exact (n2 c).trans (by rw [hstep])) ?_
  obtain ⟨j', st', b1, b2, b3, b4⟩ := hD.at_ (b.take (i + 1))
  rw [b1]
  refine Ok.bindE (by rw [Bw]; exact b2) ?_
  have hE := hD.ends (b.take (i + 1))
  rw [b4] at hE
  have hel : st'.ends.length <= 32 := U7 hE hp.1
  have hHi : S3 p ss ws b i = st'.ends.map (M3 p i) := by unfold S3; rw [b4]
  refine Ok.loop (fun t => ∃ m : Nat, t.1 = (m : Int) /\ m <= st'.ends.length /\ Inv (HS p ss ws b i ++ (S3 p ss ws b i).take m) t.2) (fun t => st'.ends.length - t.1.toNat) ?_ ⟨0, rfl, yL _, by simpa using h4⟩
  rintro ⟨y, s'⟩ ⟨m, c1, c2, c3⟩
  simp only at c1 c3 ⊢
  subst c1
  unfold Bp.l2
  refine Ok.cond (fun hlt2 => ?_) fun hge2 => ?_
  ·have hm : m < st'.ends.length := by simp at hlt2; exact hlt2
   have he : st'.ends[m]? = some st'.ends[m] := xK hm
   generalize st'.ends[m] = x at he
   refine Ok.bindE (by rw [Bw]; exact he) ?_
   obtain ⟨k, q, rfl, d2, d3⟩ := (hE.2 x).1 (xW he)
   refine Ok.bindE (by rw [Bw]; exact d2) ?_
   have d4 := (Rg (by omega)).1 d3
   have hql := (hp.2 q (xW d2))
   have hW : W (W ((i : Int) + 1) - (q.Bytes.length : Int)) = (i : Int) + 1 - (q.Bytes.length : Int) := by
    rw [Cl (by omega), Do (by omega)]
    omega
   rw [hW, <- Pz (i := i) d2]
   clear hW
   have hH : (S3 p ss ws b i)[m]? = some (M3 p i (k : Int)) := by rw [hHi, zF, he]; rfl
   have hhit : Px p b (M3 p i (k : Int)) := by
    obtain ⟨k2, q2, j2, e1, e2, e3, -⟩ := (Og hD hi).1 (xW hH)
    exact ⟨k2, q2, j2, e1, e2, e3⟩
   have happ : HS p ss ws b i ++ (S3 p ss ws b i).take m ++ [M3 p i (k : Int)] = HS p ss ws b i ++ (S3 p ss ws b i).take (m + 1) := by
    rw [E6 hH, yV]
   refine Ok.bind (hy _ _ _ c3 hhit) ?_
   rintro ⟨y1, y2⟩ ⟨f1, f2⟩
   rw [happ] at f1 f2
   refine Ok.cond (fun hn => ?_) fun hn => ?_
   ·have hn : y1 = false := by simpa using hn
    refine Ok.up (Ok.up (Ok.ret ⟨ws, ss, hD, .inr ⟨_, ?_, f2 hn⟩⟩))
    refine (List.IsPrefix.trans ?_ (aX (m := i + 1) (n := b.length) hi))
    rw [K8]
    exact (List.prefix_append_right_inj _).2 (List.take_prefix _ _)
   ·have hn : y1 = true := by simpa using hn
    refine Ok.ret ⟨⟨m + 1, Cl (by omega), hm, f1 hn⟩, ?_⟩
    show st'.ends.length - (W ((m : Int) + 1)).toNat < _
    rw [Cl (by omega)]
    omega
  ·have hm : m = st'.ends.length := by simp at hge2; omega
   subst hm
   refine Ok.up (Ok.ret ⟨⟨i + 1, Cl (by omega), hi, b1.symm, ?_⟩, ?_⟩)
   ·rw [K8]
    rw [yG (by rw [hHi, zU]; exact xX _)] at c3
    exact c3
   ·show b.length - (W ((i : Int) + 1)).toNat < _
    rw [Cl (by omega)]
    omega
 ·have hi : i = b.length := by simp at hge; omega
  subst hi
  exact Ok.up (Ok.ret ⟨ws, ss, hD, .inl h4⟩)
end
end Go.Proofs.Ytfkgbfhpibiheaa
