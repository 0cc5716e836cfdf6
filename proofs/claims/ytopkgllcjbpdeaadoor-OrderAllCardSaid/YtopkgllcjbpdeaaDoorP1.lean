import Derived.Test.YtopkgllcjbpdeaaDoorPF
set_option linter.unusedVariables false
set_option linter.unusedSimpArgs false
namespace Go.Proofs.YtopkgllcjbpdeaaDoor
noncomputable section
def aB : List UInt8 := [0, 1, 28, 2, 29, 14, 24, 3, 30, 22, 20, 15, 25, 17, 4, 8, 31, 27, 13, 23, 21, 19, 16, 7, 26, 12, 18, 6, 11, 5, 10, 9]
structure Aa where
 First : Int
 Then : Int
 deriving DecidableEq, Inhabited
structure Ai where
 L : (List Int)
 At : Int
 deriving DecidableEq, Inhabited
structure Ap where
 n : Int
 before : (List Int)
 after : (List Int)
 deriving DecidableEq, Inhabited
def D9 (l : (List Int)) : Option (Bool) :=
 some (decide ((l.length : Int) <= 400))
def Gw (x' : Int) : Option (Bool) :=
 some (!decide (x' = x'))
def Fb (x' : Int) (y : Int) : Option (Int) :=
 (Gw x').bind fun y_2 =>
 (Gw y).bind fun y_3 =>
 cond (y_2)
  (cond (y_3)
   (some 0)
   (some (-1)))
  (cond (y_3)
   (some 1)
   (cond (decide (x' < y))
    (some (-1))
    (cond (decide (y < x'))
     (some 1)
     (some 0))))
def Dk.l1 (vals : (List Int)) (x8_1 : Int) : Option (Lp (Int) (Int)) :=
 cond (decide (x8_1 < (vals.length : Int)))
  ((Bz vals x8_1).bind fun e =>
  cond (!decide (e = 0))
   (up (some e))
   (some (.next (W (x8_1 + 1)))))
  (up (
   some 0))
def Dk (vals : (List Int)) : Option (Int) :=
 B2 (fun q' => Dk.l1 vals q') 0
def Gy (a : Aa) (b : Aa) : Option (Int) :=
 (Fb a.First b.First).bind fun y =>
 (Fb a.Then b.Then).bind fun y_2 =>
 (Dk ([y, y_2] : List Int)).bind fun y_3 =>
 some y_3
def Ev (s : Int) (i : Int) : Option (Bool) :=
 (Kb .u32 s i).bind fun q =>
 some (decide ((Oa .u32 q 1) = 1))
def C7 (s : Int) : Option (Int) :=
 some s
def Ci (x' : Int) : Option (Int) :=
 cond (decide (x' = 0))
  (some 32)
  ((Kb .u32 (IntKind.wrap .u32 ((Oa .u32 x' (IntKind.wrap .u32 (-x'))) * 125613361)) 27).bind fun q =>
  (Bz aB q).bind fun e =>
  some (e.toNat : Int))
def A1.l1 {S : Type} (yield' : Int -> (Nat × S) -> Option (Bool × (Nat × S))) (q_1 : (Nat × S)) (b_1 : Int) : Option (Lp ((Nat × S) × Int) (Int × (Nat × S))) :=
 cond (!decide (b_1 = 0))
  ((Ci b_1).bind fun y =>
  (L6 .u32 1 y).bind fun q_2 =>
  (yield' y q_1).bind fun y_2 =>
  cond (!y_2.1)
   (up (some (G4 .u32 b_1 q_2, y_2.2)))
   (some (.next (y_2.2, G4 .u32 b_1 q_2))))
  (up (some (b_1, q_1)))
def A1 {S : Type} (yield' : Int -> (Nat × S) -> Option (Bool × (Nat × S))) (c0 : Int) (q : (Nat × S)) : Option (Int × (Nat × S)) :=
 B2 (fun q' => A1.l1 yield' q'.1 q'.2) (q, c0)
def Aw.j4 (x44_3 : Int) (l_4 : List Int) : Option (Lp (Int × List Int) (Lp (Int × List Int) (Ap))) :=
 some (.next (W (x44_3 + 1), l_4))
def Aw.l3 (n : Int) (x40_2 : Int) (x44_3 : Int) (l_3 : List Int) : Option (Lp (Int × List Int) (Lp (Int × List Int) (Ap))) :=
 cond (decide (x44_3 < n))
  ((Bz l_3 x44_3).bind fun e_3 =>
  (Ev e_3 x40_2).bind fun y =>
  cond (y)
   ((Bz l_3 x40_2).bind fun e_4 =>
   Aw.j4 x44_3 (Cg l_3 ((x44_3).toNat) (Ry .u32 e_3 e_4)))
   (Aw.j4 x44_3 l_3))
  (up (
   some (.next (W (x40_2 + 1), l_3))))
def Aw.r6 (x75_5 : Int) (a : Int) (l_6 : List Int) : Option (Nat × (List Int)) :=
 (Bz l_6 a).bind fun e_6 =>
 (L6 .u32 1 x75_5).bind fun q_2 =>
 some (0, Cg l_6 ((a).toNat) (Ry .u32 e_6 q_2))
def Aw.l5 (n : Int) (l_2 : List Int) (x75_5 : Int) (l_5 : List Int) : Option (Lp (Int × List Int) (Ap)) :=
 cond (decide (x75_5 < n))
  ((Bz l_2 x75_5).bind fun e_5 =>
  (C7 e_5).bind fun y_2 =>
  (A1 (fun a0' q' => Y5 (fun s' => Aw.r6 x75_5 a0' s') q') y_2 (0, l_5)).bind fun y_3 =>
  cond (Nat.beq y_3.2.1 0)
   (some (.next (W (x75_5 + 1), y_3.2.2)))
   (none))
  (up (
   some (Ap.mk n l_2 l_5)))
def Aw.l2 (n : Int) (m_2 : List Int) (x40_2 : Int) (l_2 : List Int) : Option (Lp (Int × List Int) (Ap)) :=
 cond (decide (x40_2 < n))
  (B2 (fun q' => Aw.l3 n x40_2 q'.1 q'.2) (0, l_2))
  (up (
   B2 (fun q' => Aw.l5 n l_2 q'.1 q'.2) (0, m_2)))
def Aw.l1 (n : Int) (l : (List Aa)) (m_2 : List Int) (x21_1 : Int) (l_1 : List Int) : Option (Lp (Int × List Int) (Ap)) :=
 cond (decide (x21_1 < (l.length : Int)))
  ((Bz l x21_1).bind fun e =>
  (Bz l_1 e.Then).bind fun e_2 =>
  (L6 .u32 1 e.First).bind fun q =>
  some (.next (W (x21_1 + 1), Cg l_1 ((e.Then).toNat) (Ry .u32 e_2 q))))
  (up (
   B2 (fun q' => Aw.l2 n m_2 q'.1 q'.2) (0, l_1)))
def Aw (n : Int) (l : (List Aa)) : Option (Ap) :=
 (Uz 4 n (0 : Int)).bind fun m =>
 (Uz 4 n (0 : Int)).bind fun m_2 =>
 B2 (fun q' => Aw.l1 n l m_2 q'.1 q'.2) (0, m)
def Ay.j3 (x20_2 : Int) (x50_3 : Bool) : Option (Lp (Int) (Option Ap × Int)) :=
 cond (x50_3)
  (up (some (none, 44)))
  (some (.next (W (x20_2 + 1))))
def Ay.j5 (x54_4 : Int) (x71_5 : Bool) : Option (Lp (Int) (Option Ap × Int)) :=
 cond (x71_5)
  (up (some (none, 6)))
  (some (.next (W (x54_4 + 1))))
def Ay.l6 (y_2 : Ap) (x81_6 : Int) : Option (Lp (Int) (Option Ap × Int)) :=
 cond (decide (x81_6 < (y_2.before.length : Int)))
  ((Bz y_2.before x81_6).bind fun e_4 =>
  (Ev e_4 x81_6).bind fun y_3 =>
  cond (y_3)
   (up (some (none, 45)))
   (some (.next (W (x81_6 + 1)))))
  (up (
   some (some y_2, 0)))
def Ay.l4 (n : Int) (l : (List Aa)) (x54_4 : Int) : Option (Lp (Int) (Option Ap × Int)) :=
 cond (decide (x54_4 < (l.length : Int)))
  (cond (decide (0 < x54_4))
   ((Bz l (W (x54_4 - 1))).bind fun e_2 =>
   (Bz l x54_4).bind fun e_3 =>
   (Gy e_2 e_3).bind fun y =>
   Ay.j5 x54_4 (decide (0 <= y)))
   (Ay.j5 x54_4 false))
  (up (
   (Aw n l).bind fun y_2 =>
   B2 (fun q' => Ay.l6 y_2 q') 0))
def Ay.l2 (n : Int) (l : (List Aa)) (x20_2 : Int) : Option (Lp (Int) (Option Ap × Int)) :=
 cond (decide (x20_2 < (l.length : Int)))
  ((Bz l x20_2).bind fun e =>
  cond (decide (e.First < 0))
   (Ay.j3 x20_2 true)
   (cond (decide (n <= e.First))
    (Ay.j3 x20_2 true)
    (cond (decide (e.Then < 0))
     (Ay.j3 x20_2 true)
     (cond (decide (n <= e.Then))
      (Ay.j3 x20_2 true)
      (Ay.j3 x20_2 (decide (e.First = e.Then)))))))
  (up (
   B2 (fun q' => Ay.l4 n l q') 0))
def Ay.j1 (n : Int) (l : (List Aa)) (x17_1 : Bool) : Option (Option Ap × Int) :=
 cond (x17_1)
  (some (none, 2))
  (B2 (fun q' => Ay.l2 n l q') 0)
def Ay (n : Int) (l : (List Aa)) : Option (Option Ap × Int) :=
 cond (decide (n < 0))
  (Ay.j1 n l true)
  (Ay.j1 n l (decide (24 < n)))
def Bb.j3 (x11_1 : Int) (out_3 : Int) : Option (Lp (Int × Int) (Int × Ap)) :=
 some (.next (out_3, W (x11_1 + 1)))
def Bb.j2 (out_1 : Int) (x11_1 : Int) (x29_2 : Bool) : Option (Lp (Int × Int) (Int × Ap)) :=
 cond (x29_2)
  ((L6 .u32 1 x11_1).bind fun q =>
  Bb.j3 x11_1 (Ry .u32 out_1 q))
  (Bb.j3 x11_1 out_1)
def Bb.l1 (o : Ap) (s : Int) (out_1 : Int) (x11_1 : Int) : Option (Lp (Int × Int) (Int × Ap)) :=
 cond (decide (x11_1 < o.n))
  ((Ev s x11_1).bind fun y =>
  cond (!y)
   ((Bz o.before x11_1).bind fun e =>
   Bb.j2 out_1 x11_1 (decide ((G4 .u32 e s) = 0)))
   (Bb.j2 out_1 x11_1 false))
  (up (
   some (out_1, o)))
def Bb (o : Ap) (s : Int) : Option (Int × Ap) :=
 B2 (fun q' => Bb.l1 o s q'.1 q'.2) (0, 0)
def Bh.j3 (x_3 : Int) (n_3 : Int) : Option (Int) :=
 (idxT (⟨#[0, 1, 2, 2, 3, 3, 3, 3, 4, 4, 4, 4, 4, 4, 4, 4, 5, 5, 5, 5, 5, 5, 5, 5, 5, 5, 5, 5, 5, 5, 5, 5, 6, 6, 6, 6, 6, 6, 6, 6, 6, 6, 6, 6, 6, 6, 6, 6, 6, 6, 6, 6, 6, 6, 6, 6, 6, 6, 6, 6, 6, 6, 6, 6, 7, 7, 7, 7, 7, 7, 7, 7, 7, 7, 7, 7, 7, 7, 7, 7, 7, 7, 7, 7, 7, 7, 7, 7, 7, 7, 7, 7, 7, 7, 7, 7, 7, 7, 7, 7, 7, 7, 7, 7, 7, 7, 7, 7, 7, 7, 7, 7, 7, 7, 7, 7, 7, 7, 7, 7, 7, 7, 7, 7, 7, 7, 7, 7, 8, 8, 8, 8, 8, 8, 8, 8, 8, 8, 8, 8, 8, 8, 8, 8, 8, 8, 8, 8, 8, 8, 8, 8, 8, 8, 8, 8, 8, 8, 8, 8, 8, 8, 8, 8, 8, 8, 8, 8, 8, 8, 8, 8, 8, 8, 8, 8, 8, 8, 8, 8, 8, 8, 8, 8, 8, 8, 8, 8, 8, 8, 8, 8, 8, 8, 8, 8, 8, 8, 8, 8, 8, 8, 8, 8, 8, 8, 8, 8, 8, 8, 8, 8, 8, 8, 8, 8, 8, 8, 8, 8, 8, 8, 8, 8, 8, 8, 8, 8, 8, 8, 8, 8, 8, 8, 8, 8, 8, 8, 8, 8, 8, 8, 8, 8, 8, 8, 8, 8, 8, 8, 8, 8, 8, 8, 8, 8]⟩ : ByteArray) ((u8 x_3).toNat : Int)).bind fun c =>
 some (W (n_3 + (c.toNat : Int)))
def Bh.j2 (x_2 : Int) (n_2 : Int) : Option (Int) :=
 cond (decide (256 <= x_2))
  ((Kb .u64 x_2 8).bind fun q_3 =>
  Bh.j3 q_3 (W (n_2 + 8)))
  (Bh.j3 x_2 n_2)
def Bh.j1 (x_1 : Int) (n_1 : Int) : Option (Int) :=
 cond (decide (65536 <= x_1))
  ((Kb .u64 x_1 16).bind fun q_2 =>
  Bh.j2 q_2 (W (n_1 + 16)))
  (Bh.j2 x_1 n_1)
def Bh (x' : Int) : Option (Int) :=
 cond (decide (4294967296 <= x'))
  ((Kb .u64 x' 32).bind fun q =>
  Bh.j1 q 32)
  (Bh.j1 x' 0)
def Fg (x' : Int) : Option (Int) :=
 (Bh x').bind fun y =>
 some y
def Ey (x' : Int) : Option (Bool) :=
 some (!decide (x' = x'))
def Ee (x' : Int) (y : Int) : Option (Int) :=
 (Ey x').bind fun y_2 =>
 (Ey y).bind fun y_3 =>
 cond (y_2)
  (cond (y_3)
   (some 0)
   (some (-1)))
  (cond (y_3)
   (some 1)
   (cond (decide (x' < y))
    (some (-1))
    (cond (decide (y < x'))
     (some 1)
     (some 0))))
def Eu (a : Int) (b : Int) : Option (Int) :=
 (Ci (Oz .u32 a b)).bind fun y =>
 (Kb .u32 b y).bind fun q =>
 (Kb .u32 a y).bind fun q_2 =>
 (Ee (Oa .u32 q 1) (Oa .u32 q_2 1)).bind fun y_2 =>
 some y_2
def Al.j3 (i_1 : Int) (j_2 : Int) (data_2 : List Int) (x34_3 : Bool) : Option (Lp (Int × List Int) (Lp (Int × List Int) ((List Int)))) :=
 cond (x34_3)
  ((Bz data_2 (W (j_2 - 1))).bind fun e_3 =>
  (Bz data_2 j_2).bind fun e_4 =>
  (Bz (Cg data_2 ((j_2).toNat) e_3) (W (j_2 - 1))).bind fun e_5 =>
  some (.next (W (j_2 - 1), Cg (Cg data_2 ((j_2).toNat) e_3) ((W (j_2 - 1)).toNat) e_4)))
  (up (
   some (.next (W (i_1 + 1), data_2))))
def Al.l2 (a : Int) (cmp : Int -> Int -> Option (Int)) (i_1 : Int) (j_2 : Int) (data_2 : List Int) : Option (Lp (Int × List Int) (Lp (Int × List Int) ((List Int)))) :=
 cond (decide (a < j_2))
  ((Bz data_2 j_2).bind fun e =>
  (Bz data_2 (W (j_2 - 1))).bind fun e_2 =>
  (cmp e e_2).bind fun y =>
  Al.j3 i_1 j_2 data_2 (decide (y < 0)))
  (Al.j3 i_1 j_2 data_2 false)
def Al.l1 (a : Int) (b : Int) (cmp : Int -> Int -> Option (Int)) (i_1 : Int) (data_1 : List Int) : Option (Lp (Int × List Int) ((List Int))) :=
 cond (decide (i_1 < b))
  (B2 (fun q' => Al.l2 a cmp i_1 q'.1 q'.2) (i_1, data_1))
  (up (some data_1))
def Al (data : List Int) (a : Int) (b : Int) (cmp : Int -> Int -> Option (Int)) : Option ((List Int)) :=
 B2 (fun q' => Al.l1 a b cmp q'.1 q'.2) (W (a + 1), data)
def Am.j3 (first : Int) (cmp : Int -> Int -> Option (Int)) (root_1 : Int) (data_1 : List Int) (child_3 : Int) : Option (Lp (Int × List Int) ((List Int))) :=
 (Bz data_1 (W (first + root_1))).bind fun e_3 =>
 (Bz data_1 (W (first + child_3))).bind fun e_4 =>
 (cmp e_3 e_4).bind fun y_2 =>
 cond (!(decide (y_2 < 0)))
  (up (some data_1))
  ((Bz (Cg data_1 ((W (first + root_1)).toNat) e_4) (W (first + child_3))).bind fun e_5 =>
  some (.next (child_3, Cg (Cg data_1 ((W (first + root_1)).toNat) e_4) ((W (first + child_3)).toNat) e_3)))
def Am.j2 (first : Int) (cmp : Int -> Int -> Option (Int)) (root_1 : Int) (data_1 : List Int) (x40_2 : Bool) : Option (Lp (Int × List Int) ((List Int))) :=
 cond (x40_2)
  (Am.j3 first cmp root_1 data_1 (W ((W ((W (2 * root_1)) + 1)) + 1)))
  (Am.j3 first cmp root_1 data_1 (W ((W (2 * root_1)) + 1)))
def Am.l1 (hi : Int) (first : Int) (cmp : Int -> Int -> Option (Int)) (root_1 : Int) (data_1 : List Int) : Option (Lp (Int × List Int) ((List Int))) :=
 cond (decide (hi <= (W ((W (2 * root_1)) + 1))))
  (up (some data_1))
  (cond (decide ((W ((W ((W (2 * root_1)) + 1)) + 1)) < hi))
   ((Bz data_1 (W (first + (W ((W (2 * root_1)) + 1))))).bind fun e =>
   (Bz data_1 (W ((W (first + (W ((W (2 * root_1)) + 1)))) + 1))).bind fun e_2 =>
   (cmp e e_2).bind fun y =>
   Am.j2 first cmp root_1 data_1 (decide (y < 0)))
   (Am.j2 first cmp root_1 data_1 false))
def Am (data : List Int) (lo : Int) (hi : Int) (first : Int) (cmp : Int -> Int -> Option (Int)) : Option ((List Int)) :=
 B2 (fun q' => Am.l1 hi first cmp q'.1 q'.2) (lo, data)
def Au.l2 (a : Int) (cmp : Int -> Int -> Option (Int)) (i_2 : Int) (data_2 : List Int) : Option (Lp (Int × List Int) ((List Int))) :=
 cond (decide (0 <= i_2))
  ((Bz data_2 (W (a + i_2))).bind fun e =>
  (Bz data_2 a).bind fun e_2 =>
  (Bz (Cg data_2 ((a).toNat) e) (W (a + i_2))).bind fun e_3 =>
  (Am (Cg (Cg data_2 ((a).toNat) e) ((W (a + i_2)).toNat) e_2) 0 i_2 a cmp).bind fun y_2 =>
  some (.next (W (i_2 - 1), y_2)))
  (up (some data_2))
def Au.l1 (a : Int) (b : Int) (cmp : Int -> Int -> Option (Int)) (i_1 : Int) (data_1 : List Int) : Option (Lp (Int × List Int) ((List Int))) :=
 cond (decide (0 <= i_1))
  ((Am data_1 i_1 (W (b - a)) a cmp).bind fun y =>
  some (.next (W (i_1 - 1), y)))
  (up (
   B2 (fun q' => Au.l2 a cmp q'.1 q'.2) (W ((W (b - a)) - 1), data_1)))
def Au (data : List Int) (a : Int) (b : Int) (cmp : Int -> Int -> Option (Int)) : Option ((List Int)) :=
 (Mr (W ((W (b - a)) - 1)) 2).bind fun q =>
 B2 (fun q' => Au.l1 a b cmp q'.1 q'.2) (q, data)
def Eh (length : Int) : Option (Int) :=
 (Fg (IntKind.wrap .u64 length)).bind fun y =>
 (L6 .u64 1 y).bind fun q =>
 some q
def En (r' : Int) : Option (Int × Int) :=
 (L6 .u64 r' 13).bind fun q =>
 (Kb .u64 (Oz .u64 r' q) 7).bind fun q_2 =>
 (L6 .u64 (Oz .u64 (Oz .u64 r' q) q_2) 17).bind fun q_3 =>
 some (Oz .u64 (Oz .u64 (Oz .u64 r' q) q_2) q_3, Oz .u64 (Oz .u64 (Oz .u64 r' q) q_2) q_3)
def As.j2 (a : Int) (idx_1 : Int) (data_1 : List Int) (y_2 : Int × Int) (other_2 : Int) : Option (Lp (Int × List Int × Int) ((List Int))) :=
 (Bz data_1 (W (a + other_2))).bind fun e =>
 (Bz data_1 idx_1).bind fun e_2 =>
 (Bz (Cg data_1 ((idx_1).toNat) e) (W (a + other_2))).bind fun e_3 =>
 some (.next (W (idx_1 + 1), Cg (Cg data_1 ((idx_1).toNat) e) ((W (a + other_2)).toNat) e_2, y_2.2))
def As.l1 (a : Int) (b : Int) (y : Int) (idx_1 : Int) (data_1 : List Int) (random_1 : Int) : Option (Lp (Int × List Int × Int) ((List Int))) :=
 (Mr (W (b - a)) 4).bind fun q_2 =>
 cond (decide (idx_1 <= (W ((W (a + (W (q_2 * 2)))) + 1))))
  ((En random_1).bind fun y_2 =>
  cond (decide ((W (b - a)) <= (W (Oa .u64 y_2.1 (IntKind.wrap .u64 (y - 1))))))
   (As.j2 a idx_1 data_1 y_2 (W ((W (Oa .u64 y_2.1 (IntKind.wrap .u64 (y - 1)))) - (W (b - a)))))
   (As.j2 a idx_1 data_1 y_2 (W (Oa .u64 y_2.1 (IntKind.wrap .u64 (y - 1))))))
  (up (some data_1))
def As (data : List Int) (a : Int) (b : Int) (cmp : Int -> Int -> Option (Int)) : Option ((List Int)) :=
 cond (decide (8 <= (W (b - a))))
  ((Eh (W (b - a))).bind fun y =>
  (Mr (W (b - a)) 4).bind fun q =>
  B2 (fun q' => As.l1 a b y q'.1 q'.2.1 q'.2.2) (W ((W (a + (W (q * 2)))) - 1), data, IntKind.wrap .u64 (W (b - a))))
  (some data)
def Cm (data : (List Int)) (a : Int) (b : Int) (swaps : Int) (cmp : Int -> Int -> Option (Int)) : Option (Int × Int × Int) :=
 (Bz data b).bind fun e =>
 (Bz data a).bind fun e_2 =>
 (cmp e e_2).bind fun y =>
 cond (decide (y < 0))
  (some (b, a, W (swaps + 1)))
  (some (a, b, swaps))
def Cw (data : (List Int)) (a : Int) (b : Int) (c : Int) (swaps : Int) (cmp : Int -> Int -> Option (Int)) : Option (Int × Int) :=
 (Cm data a b swaps cmp).bind fun y =>
 (Cm data y.2.1 c y.2.2 cmp).bind fun y_2 =>
 (Cm data y.1 y_2.1 y_2.2.2 cmp).bind fun y_3 =>
 some (y_3.2.1, y_3.2.2)
def Cb (data : (List Int)) (a : Int) (swaps : Int) (cmp : Int -> Int -> Option (Int)) : Option (Int × Int) :=
 (Cw data (W (a - 1)) a (W (a + 1)) swaps cmp).bind fun y =>
 some (y.1, y.2)
def Av.j2 (j_2 : Int) (swaps_2 : Int) : Option (Int × Int) :=
 cond (decide (swaps_2 = 0))
  (some (j_2, 1))
  (cond (decide (swaps_2 = 12))
   (some (j_2, 2))
   (some (j_2, 0)))
def Av.j1 (data : (List Int)) (cmp : Int -> Int -> Option (Int)) (i_1 : Int) (j_1 : Int) (k_1 : Int) (swaps_1 : Int) : Option (Int × Int) :=
 (Cw data i_1 j_1 k_1 swaps_1 cmp).bind fun y_4 =>
 Av.j2 y_4.1 y_4.2
def Av (data : (List Int)) (a : Int) (b : Int) (cmp : Int -> Int -> Option (Int)) : Option (Int × Int) :=
 (Mr (W (b - a)) 4).bind fun q =>
 (Mr (W (b - a)) 4).bind fun q_2 =>
 (Mr (W (b - a)) 4).bind fun q_3 =>
 cond (decide (8 <= (W (b - a))))
  (cond (decide (50 <= (W (b - a))))
   ((Cb data (W (a + (W (q * 1)))) 0 cmp).bind fun y =>
   (Cb data (W (a + (W (q_2 * 2)))) y.2 cmp).bind fun y_2 =>
   (Cb data (W (a + (W (q_3 * 3)))) y_2.2 cmp).bind fun y_3 =>
   Av.j1 data cmp y.1 y_2.1 y_3.1 y_3.2)
   (Av.j1 data cmp (W (a + (W (q * 1)))) (W (a + (W (q_2 * 2)))) (W (a + (W (q_3 * 3)))) 0))
  (Av.j2 (W (a + (W (q_2 * 2)))) 0)
def A8.l1 (i_1 : Int) (j_1 : Int) (data_1 : List Int) : Option (Lp (Int × Int × List Int) ((List Int))) :=
 cond (decide (i_1 < j_1))
  ((Bz data_1 j_1).bind fun e =>
  (Bz data_1 i_1).bind fun e_2 =>
  (Bz (Cg data_1 ((i_1).toNat) e) j_1).bind fun e_3 =>
  some (.next (W (i_1 + 1), W (j_1 - 1), Cg (Cg data_1 ((i_1).toNat) e) ((j_1).toNat) e_2)))
  (up (some data_1))
def A8 (data : List Int) (a : Int) (b : Int) (cmp : Int -> Int -> Option (Int)) : Option ((List Int)) :=
 B2 (fun q' => A8.l1 q'.1 q'.2.1 q'.2.2) (a, W (b - 1), data)
def Ac.j7 (j_1 : Int) (i_7 : Int) (data_7 : List Int) : Option (Lp (Int × Int × List Int) (Bool × (List Int))) :=
 some (.next (i_7, W (j_1 + 1), data_7))
def Ac.l6 (b : Int) (cmp : Int -> Int -> Option (Int)) (j_1 : Int) (i_2 : Int) (j_6 : Int) (data_6 : List Int) : Option (Lp (Int × List Int) (Lp (Int × Int × List Int) (Bool × (List Int)))) :=
 cond (decide (j_6 < b))
  ((Bz data_6 j_6).bind fun e_9 =>
  (Bz data_6 (W (j_6 - 1))).bind fun e_10 =>
  (cmp e_9 e_10).bind fun y_3 =>
  cond (!(decide (y_3 < 0)))
   (up (
    Ac.j7 j_1 i_2 data_6))
   ((Bz (Cg data_6 ((j_6).toNat) e_10) (W (j_6 - 1))).bind fun e_11 =>
   some (.next (W (j_6 + 1), Cg (Cg data_6 ((j_6).toNat) e_10) ((W (j_6 - 1)).toNat) e_9))))
  (up (
   Ac.j7 j_1 i_2 data_6))
def Ac.j5 (b : Int) (cmp : Int -> Int -> Option (Int)) (j_1 : Int) (i_2 : Int) (data_5 : List Int) : Option (Lp (Int × Int × List Int) (Bool × (List Int))) :=
 cond (decide (2 <= (W (b - i_2))))
  (B2 (fun q' => Ac.l6 b cmp j_1 i_2 q'.1 q'.2) (W (i_2 + 1), data_5))
  (Ac.j7 j_1 i_2 data_5)
def Ac.l4 (b : Int) (cmp : Int -> Int -> Option (Int)) (j_1 : Int) (i_2 : Int) (j_4 : Int) (data_4 : List Int) : Option (Lp (Int × List Int) (Lp (Int × Int × List Int) (Bool × (List Int)))) :=
 cond (decide (1 <= j_4))
  ((Bz data_4 j_4).bind fun e_6 =>
  (Bz data_4 (W (j_4 - 1))).bind fun e_7 =>
  (cmp e_6 e_7).bind fun y_2 =>
  cond (!(decide (y_2 < 0)))
   (up (
    Ac.j5 b cmp j_1 i_2 data_4))
   ((Bz (Cg data_4 ((j_4).toNat) e_7) (W (j_4 - 1))).bind fun e_8 =>
   some (.next (W (j_4 - 1), Cg (Cg data_4 ((j_4).toNat) e_7) ((W (j_4 - 1)).toNat) e_6))))
  (up (
   Ac.j5 b cmp j_1 i_2 data_4))
def Ac.j3 (a : Int) (b : Int) (cmp : Int -> Int -> Option (Int)) (j_1 : Int) (data_1 : List Int) (i_2 : Int) (x36_3 : Bool) : Option (Lp (Int) (Lp (Int × Int × List Int) (Bool × (List Int)))) :=
 cond (x36_3)
  (some (.next (W (i_2 + 1))))
  (up (
   cond (decide (i_2 = b))
    (up (some (true, data_1)))
    (cond (decide ((W (b - a)) < 50))
     (up (some (false, data_1)))
     ((Bz data_1 (W (i_2 - 1))).bind fun e_3 =>
     (Bz data_1 i_2).bind fun e_4 =>
     (Bz (Cg data_1 ((i_2).toNat) e_3) (W (i_2 - 1))).bind fun e_5 =>
     cond (decide (2 <= (W (i_2 - a))))
      (B2 (fun q' => Ac.l4 b cmp j_1 i_2 q'.1 q'.2) (W (i_2 - 1), Cg (Cg data_1 ((i_2).toNat) e_3) ((W (i_2 - 1)).toNat) e_4))
      (Ac.j5 b cmp j_1 i_2 (Cg (Cg data_1 ((i_2).toNat) e_3) ((W (i_2 - 1)).toNat) e_4))))))
def Ac.l2 (a : Int) (b : Int) (cmp : Int -> Int -> Option (Int)) (j_1 : Int) (data_1 : List Int) (i_2 : Int) : Option (Lp (Int) (Lp (Int × Int × List Int) (Bool × (List Int)))) :=
 cond (decide (i_2 < b))
  ((Bz data_1 i_2).bind fun e =>
  (Bz data_1 (W (i_2 - 1))).bind fun e_2 =>
  (cmp e e_2).bind fun y =>
  Ac.j3 a b cmp j_1 data_1 i_2 (!(decide (y < 0))))
  (Ac.j3 a b cmp j_1 data_1 i_2 false)
def Ac.l1 (a : Int) (b : Int) (cmp : Int -> Int -> Option (Int)) (i_1 : Int) (j_1 : Int) (data_1 : List Int) : Option (Lp (Int × Int × List Int) (Bool × (List Int))) :=
 cond (decide (j_1 < 5))
  (B2 (fun q' => Ac.l2 a b cmp j_1 data_1 q') i_1)
  (up (
   some (false, data_1)))
def Ac (data : List Int) (a : Int) (b : Int) (cmp : Int -> Int -> Option (Int)) : Option (Bool × (List Int)) :=
 B2 (fun q' => Ac.l1 a b cmp q'.1 q'.2.1 q'.2.2) (W (a + 1), 0, data)
def Ah.j5 (data_1 : List Int) (i_2 : Int) (j_4 : Int) (x65_5 : Bool) : Option (Lp (Int) (Lp (Int × Int × List Int) (Int × (List Int)))) :=
 cond (x65_5)
  (some (.next (W (j_4 - 1))))
  (up (
   cond (decide (j_4 < i_2))
    (up (
     some (i_2, data_1)))
    ((Bz data_1 j_4).bind fun e_8 =>
    (Bz data_1 i_2).bind fun e_9 =>
    (Bz (Cg data_1 ((i_2).toNat) e_8) j_4).bind fun e_10 =>
    some (.next (W (i_2 + 1), W (j_4 - 1), Cg (Cg data_1 ((i_2).toNat) e_8) ((j_4).toNat) e_9)))))
def Ah.l4 (a : Int) (cmp : Int -> Int -> Option (Int)) (data_1 : List Int) (i_2 : Int) (j_4 : Int) : Option (Lp (Int) (Lp (Int × Int × List Int) (Int × (List Int)))) :=
 cond (decide (i_2 <= j_4))
  ((Bz data_1 a).bind fun e_6 =>
  (Bz data_1 j_4).bind fun e_7 =>
  (cmp e_6 e_7).bind fun y_2 =>
  Ah.j5 data_1 i_2 j_4 (decide (y_2 < 0)))
  (Ah.j5 data_1 i_2 j_4 false)
def Ah.j3 (a : Int) (cmp : Int -> Int -> Option (Int)) (j_1 : Int) (data_1 : List Int) (i_2 : Int) (x47_3 : Bool) : Option (Lp (Int) (Lp (Int × Int × List Int) (Int × (List Int)))) :=
 cond (x47_3)
  (some (.next (W (i_2 + 1))))
  (up (
   B2 (fun q' => Ah.l4 a cmp data_1 i_2 q') j_1))
def Ah.l2 (a : Int) (cmp : Int -> Int -> Option (Int)) (j_1 : Int) (data_1 : List Int) (i_2 : Int) : Option (Lp (Int) (Lp (Int × Int × List Int) (Int × (List Int)))) :=
 cond (decide (i_2 <= j_1))
  ((Bz data_1 a).bind fun e_4 =>
  (Bz data_1 i_2).bind fun e_5 =>
  (cmp e_4 e_5).bind fun y =>
  Ah.j3 a cmp j_1 data_1 i_2 (!(decide (y < 0))))
  (Ah.j3 a cmp j_1 data_1 i_2 false)
def Ah.l1 (a : Int) (cmp : Int -> Int -> Option (Int)) (i_1 : Int) (j_1 : Int) (data_1 : List Int) : Option (Lp (Int × Int × List Int) (Int × (List Int))) :=
 B2 (fun q' => Ah.l2 a cmp j_1 data_1 q') i_1
def Ah (data : List Int) (a : Int) (b : Int) (pivot : Int) (cmp : Int -> Int -> Option (Int)) : Option (Int × (List Int)) :=
 (Bz data pivot).bind fun e =>
 (Bz data a).bind fun e_2 =>
 (Bz (Cg data ((a).toNat) e) pivot).bind fun e_3 =>
 B2 (fun q' => Ah.l1 a cmp q'.1 q'.2.1 q'.2.2) (W (a + 1), W (b - 1), Cg (Cg data ((a).toNat) e) ((pivot).toNat) e_2)
def Ad.j9 (a : Int) (data_5 : List Int) (i_6 : Int) (j_8 : Int) (x139_9 : Bool) : Option (Lp (Int) (Lp (Int × Int × List Int) (Int × Bool × (List Int)))) :=
 cond (x139_9)
  (some (.next (W (j_8 - 1))))
  (up (
   cond (decide (j_8 < i_6))
    (up (
     (Bz data_5 a).bind fun e_21 =>
     (Bz data_5 j_8).bind fun e_22 =>
     (Bz (Cg data_5 ((j_8).toNat) e_21) a).bind fun e_23 =>
     some (j_8, false, Cg (Cg data_5 ((j_8).toNat) e_21) ((a).toNat) e_22)))
    ((Bz data_5 j_8).bind fun e_18 =>
    (Bz data_5 i_6).bind fun e_19 =>
    (Bz (Cg data_5 ((i_6).toNat) e_18) j_8).bind fun e_20 =>
    some (.next (W (i_6 + 1), W (j_8 - 1), Cg (Cg data_5 ((i_6).toNat) e_18) ((j_8).toNat) e_19)))))
def Ad.l8 (a : Int) (cmp : Int -> Int -> Option (Int)) (data_5 : List Int) (i_6 : Int) (j_8 : Int) : Option (Lp (Int) (Lp (Int × Int × List Int) (Int × Bool × (List Int)))) :=
 cond (decide (i_6 <= j_8))
  ((Bz data_5 j_8).bind fun e_16 =>
  (Bz data_5 a).bind fun e_17 =>
  (cmp e_16 e_17).bind fun y_4 =>
  Ad.j9 a data_5 i_6 j_8 (!(decide (y_4 < 0))))
  (Ad.j9 a data_5 i_6 j_8 false)
def Ad.j7 (a : Int) (cmp : Int -> Int -> Option (Int)) (j_5 : Int) (data_5 : List Int) (i_6 : Int) (x120_7 : Bool) : Option (Lp (Int) (Lp (Int × Int × List Int) (Int × Bool × (List Int)))) :=
 cond (x120_7)
  (some (.next (W (i_6 + 1))))
  (up (
   B2 (fun q' => Ad.l8 a cmp data_5 i_6 q') j_5))
def Ad.l6 (a : Int) (cmp : Int -> Int -> Option (Int)) (j_5 : Int) (data_5 : List Int) (i_6 : Int) : Option (Lp (Int) (Lp (Int × Int × List Int) (Int × Bool × (List Int)))) :=
 cond (decide (i_6 <= j_5))
  ((Bz data_5 i_6).bind fun e_14 =>
  (Bz data_5 a).bind fun e_15 =>
  (cmp e_14 e_15).bind fun y_3 =>
  Ad.j7 a cmp j_5 data_5 i_6 (decide (y_3 < 0)))
  (Ad.j7 a cmp j_5 data_5 i_6 false)
def Ad.l5 (a : Int) (cmp : Int -> Int -> Option (Int)) (i_5 : Int) (j_5 : Int) (data_5 : List Int) : Option (Lp (Int × Int × List Int) (Int × Bool × (List Int))) :=
 B2 (fun q' => Ad.l6 a cmp j_5 data_5 q') i_5
def Ad.j4 (data : List Int) (a : Int) (pivot : Int) (cmp : Int -> Int -> Option (Int)) (e : Int) (e_2 : Int) (i_1 : Int) (j_3 : Int) (x66_4 : Bool) : Option (Lp (Int) (Int × Bool × (List Int))) :=
 cond (x66_4)
  (some (.next (W (j_3 - 1))))
  (up (
   cond (decide (j_3 < i_1))
    ((Bz (Cg (Cg data ((a).toNat) e) ((pivot).toNat) e_2) a).bind fun e_8 =>
    (Bz (Cg (Cg data ((a).toNat) e) ((pivot).toNat) e_2) j_3).bind fun e_9 =>
    (Bz (Cg (Cg (Cg data ((a).toNat) e) ((pivot).toNat) e_2) ((j_3).toNat) e_8) a).bind fun e_10 =>
    some (j_3, true, Cg (Cg (Cg (Cg data ((a).toNat) e) ((pivot).toNat) e_2) ((j_3).toNat) e_8) ((a).toNat) e_9))
    ((Bz (Cg (Cg data ((a).toNat) e) ((pivot).toNat) e_2) j_3).bind fun e_11 =>
    (Bz (Cg (Cg data ((a).toNat) e) ((pivot).toNat) e_2) i_1).bind fun e_12 =>
    (Bz (Cg (Cg (Cg data ((a).toNat) e) ((pivot).toNat) e_2) ((i_1).toNat) e_11) j_3).bind fun e_13 =>
    B2 (fun q' => Ad.l5 a cmp q'.1 q'.2.1 q'.2.2) (W (i_1 + 1), W (j_3 - 1), Cg (Cg (Cg (Cg data ((a).toNat) e) ((pivot).toNat) e_2) ((i_1).toNat) e_11) ((j_3).toNat) e_12))))
def Ad.l3 (data : List Int) (a : Int) (pivot : Int) (cmp : Int -> Int -> Option (Int)) (e : Int) (e_2 : Int) (i_1 : Int) (j_3 : Int) : Option (Lp (Int) (Int × Bool × (List Int))) :=
 cond (decide (i_1 <= j_3))
  ((Bz (Cg (Cg data ((a).toNat) e) ((pivot).toNat) e_2) j_3).bind fun e_6 =>
  (Bz (Cg (Cg data ((a).toNat) e) ((pivot).toNat) e_2) a).bind fun e_7 =>
  (cmp e_6 e_7).bind fun y_2 =>
  Ad.j4 data a pivot cmp e e_2 i_1 j_3 (!(decide (y_2 < 0))))
  (Ad.j4 data a pivot cmp e e_2 i_1 j_3 false)
def Ad.j2 (data : List Int) (a : Int) (b : Int) (pivot : Int) (cmp : Int -> Int -> Option (Int)) (e : Int) (e_2 : Int) (i_1 : Int) (x47_2 : Bool) : Option (Lp (Int) (Int × Bool × (List Int))) :=
 cond (x47_2)
  (some (.next (W (i_1 + 1))))
  (up (
   B2 (fun q' => Ad.l3 data a pivot cmp e e_2 i_1 q') (W (b - 1))))
def Ad.l1 (data : List Int) (a : Int) (b : Int) (pivot : Int) (cmp : Int -> Int -> Option (Int)) (e : Int) (e_2 : Int) (i_1 : Int) : Option (Lp (Int) (Int × Bool × (List Int))) :=
 cond (decide (i_1 <= (W (b - 1))))
  ((Bz (Cg (Cg data ((a).toNat) e) ((pivot).toNat) e_2) i_1).bind fun e_4 =>
  (Bz (Cg (Cg data ((a).toNat) e) ((pivot).toNat) e_2) a).bind fun e_5 =>
  (cmp e_4 e_5).bind fun y =>
  Ad.j2 data a b pivot cmp e e_2 i_1 (decide (y < 0)))
  (Ad.j2 data a b pivot cmp e e_2 i_1 false)
def Ad (data : List Int) (a : Int) (b : Int) (pivot : Int) (cmp : Int -> Int -> Option (Int)) : Option (Int × Bool × (List Int)) :=
 (Bz data pivot).bind fun e =>
 (Bz data a).bind fun e_2 =>
 (Bz (Cg data ((a).toNat) e) pivot).bind fun e_3 =>
 B2 (fun q' => Ad.l1 data a b pivot cmp e e_2 q') (W (a + 1))
def Ae.j6 (rec : (List Int) -> Int -> Int -> Int -> Option ((List Int))) (cmp : Int -> Int -> Option (Int)) (a_1 : Int) (b_1 : Int) (wasBalanced_1 : Bool) (wasPartitioned_1 : Bool) (limit_2 : Int) (pivot_3 : Int) (data_5 : List Int) (x97_6 : Bool) : Option (Lp (Int × Int × Int × Bool × Bool × List Int) ((List Int))) :=
 cond (x97_6)
  ((Ah data_5 a_1 b_1 pivot_3 cmp).bind fun y_8 =>
  some (.next (y_8.1, b_1, limit_2, wasBalanced_1, wasPartitioned_1, y_8.2)))
  ((Ad data_5 a_1 b_1 pivot_3 cmp).bind fun y_9 =>
  (Mr (W (b_1 - a_1)) 8).bind fun q =>
  cond (decide ((W (y_9.1 - a_1)) < (W (b_1 - y_9.1))))
   ((rec y_9.2.2 a_1 y_9.1 limit_2).bind fun y_10 =>
   some (.next (W (y_9.1 + 1), b_1, limit_2, decide (q <= (W (y_9.1 - a_1))), y_9.2.1, y_10)))
   ((rec y_9.2.2 (W (y_9.1 + 1)) b_1 limit_2).bind fun y_11 =>
   some (.next (a_1, y_9.1, limit_2, decide (q <= (W (b_1 - y_9.1))), y_9.2.1, y_11))))
def Ae.j5 (rec : (List Int) -> Int -> Int -> Int -> Option ((List Int))) (cmp : Int -> Int -> Option (Int)) (a_1 : Int) (b_1 : Int) (wasBalanced_1 : Bool) (wasPartitioned_1 : Bool) (limit_2 : Int) (pivot_3 : Int) (data_5 : List Int) : Option (Lp (Int × Int × Int × Bool × Bool × List Int) ((List Int))) :=
 cond (decide (0 < a_1))
  ((Bz data_5 (W (a_1 - 1))).bind fun e =>
  (Bz data_5 pivot_3).bind fun e_2 =>
  (cmp e e_2).bind fun y_7 =>
  Ae.j6 rec cmp a_1 b_1 wasBalanced_1 wasPartitioned_1 limit_2 pivot_3 data_5 (!(decide (y_7 < 0))))
  (Ae.j6 rec cmp a_1 b_1 wasBalanced_1 wasPartitioned_1 limit_2 pivot_3 data_5 false)
def Ae.j4 (rec : (List Int) -> Int -> Int -> Int -> Option ((List Int))) (cmp : Int -> Int -> Option (Int)) (a_1 : Int) (b_1 : Int) (wasBalanced_1 : Bool) (wasPartitioned_1 : Bool) (limit_2 : Int) (pivot_3 : Int) (data_3 : List Int) (x75_4 : Bool) : Option (Lp (Int × Int × Int × Bool × Bool × List Int) ((List Int))) :=
 cond (x75_4)
  ((Ac data_3 a_1 b_1 cmp).bind fun y_6 =>
  cond (y_6.1)
   (up (some y_6.2))
   (Ae.j5 rec cmp a_1 b_1 wasBalanced_1 wasPartitioned_1 limit_2 pivot_3 y_6.2))
  (Ae.j5 rec cmp a_1 b_1 wasBalanced_1 wasPartitioned_1 limit_2 pivot_3 data_3)
def Ae.j3 (rec : (List Int) -> Int -> Int -> Int -> Option ((List Int))) (cmp : Int -> Int -> Option (Int)) (a_1 : Int) (b_1 : Int) (wasBalanced_1 : Bool) (wasPartitioned_1 : Bool) (limit_2 : Int) (pivot_3 : Int) (hint_3 : Int) (data_3 : List Int) : Option (Lp (Int × Int × Int × Bool × Bool × List Int) ((List Int))) :=
 cond (wasBalanced_1)
  (cond (wasPartitioned_1)
   (Ae.j4 rec cmp a_1 b_1 wasBalanced_1 wasPartitioned_1 limit_2 pivot_3 data_3 (decide (hint_3 = 1)))
   (Ae.j4 rec cmp a_1 b_1 wasBalanced_1 wasPartitioned_1 limit_2 pivot_3 data_3 false))
  (Ae.j4 rec cmp a_1 b_1 wasBalanced_1 wasPartitioned_1 limit_2 pivot_3 data_3 false)
def Ae.j2 (rec : (List Int) -> Int -> Int -> Int -> Option ((List Int))) (cmp : Int -> Int -> Option (Int)) (a_1 : Int) (b_1 : Int) (wasBalanced_1 : Bool) (wasPartitioned_1 : Bool) (limit_2 : Int) (data_2 : List Int) : Option (Lp (Int × Int × Int × Bool × Bool × List Int) ((List Int))) :=
 (Av data_2 a_1 b_1 cmp).bind fun y_4 =>
 cond (decide (y_4.2 = 2))
  ((A8 data_2 a_1 b_1 cmp).bind fun y_5 =>
  Ae.j3 rec cmp a_1 b_1 wasBalanced_1 wasPartitioned_1 limit_2 (W ((W (b_1 - 1)) - (W (y_4.1 - a_1)))) 1 y_5)
  (Ae.j3 rec cmp a_1 b_1 wasBalanced_1 wasPartitioned_1 limit_2 y_4.1 y_4.2 data_2)
def Ae.l1 (rec : (List Int) -> Int -> Int -> Int -> Option ((List Int))) (cmp : Int -> Int -> Option (Int)) (a_1 : Int) (b_1 : Int) (limit_1 : Int) (wasBalanced_1 : Bool) (wasPartitioned_1 : Bool) (data_1 : List Int) : Option (Lp (Int × Int × Int × Bool × Bool × List Int) ((List Int))) :=
 cond (decide ((W (b_1 - a_1)) <= 12))
  ((Al data_1 a_1 b_1 cmp).bind fun y =>
  up (some y))
  (cond (decide (limit_1 = 0))
   ((Au data_1 a_1 b_1 cmp).bind fun y_2 =>
   up (some y_2))
   (cond (!wasBalanced_1)
    ((As data_1 a_1 b_1 cmp).bind fun y_3 =>
    Ae.j2 rec cmp a_1 b_1 wasBalanced_1 wasPartitioned_1 (W (limit_1 - 1)) y_3)
    (Ae.j2 rec cmp a_1 b_1 wasBalanced_1 wasPartitioned_1 limit_1 data_1)))
def Ae.F (rec : (List Int) -> Int -> Int -> Int -> Option ((List Int))) (data : List Int) (a : Int) (b : Int) (limit : Int) (cmp : Int -> Int -> Option (Int)) : Option ((List Int)) :=
 B2 (fun q' => Ae.l1 rec cmp q'.1 q'.2.1 q'.2.2.1 q'.2.2.2.1 q'.2.2.2.2.1 q'.2.2.2.2.2) (a, b, limit, true, true, data)
def Ae (data : List Int) (a : Int) (b : Int) (limit : Int) (cmp : Int -> Int -> Option (Int)) : Option ((List Int)) := Z0 (fun rec (x : List Int × Int × Int × Int) => Ae.F (fun data a b limit => rec (data, a, b, limit)) x.1 x.2.1 x.2.2.1 x.2.2.2 cmp) (data, a, b, limit)
def C3 (x' : List Int) (cmp : Int -> Int -> Option (Int)) : Option ((List Int)) :=
 (Fg (IntKind.wrap .u64 (x'.length : Int))).bind fun y =>
 (Ae x' 0 (x'.length : Int) y cmp).bind fun y_2 =>
 some y_2
def Cy.r1 (a : Int) (l_1 : List Int) : Option (Nat × (List Int)) :=
 (G8 8 l_1 ([a] : List Int)).bind fun l =>
 some (0, l)
def Cy (s : Int) : Option ((List Int)) :=
 (C7 s).bind fun y =>
 (A1 (fun a0' q' => Y5 (fun s' => Cy.r1 a0' s') q') y (0, ([] : List Int))).bind fun y_2 =>
 cond (Nat.beq y_2.2.1 0)
  (some y_2.2.2)
  (none)
def Be.r3 (e : Int) (a : Int) (m_3 : (List (Int × Bool))) (l_3 : List Int) : Option (Nat × ((List (Int × Bool)) × List Int)) :=
 (L6 .u32 1 a).bind fun q =>
 cond (!(Ff m_3 (Ry .u32 e q) false))
  ((G8 4 l_3 ([Ry .u32 e q] : List Int)).bind fun l_4 =>
  some (0, (Hw m_3 (Ry .u32 e q) true, l_4)))
  (some (0, (m_3, l_3)))
def Be.l4 (o_2 : Ap) (y_5 : (List Int)) (x69_4 : Int) (out_4 : List (List Int)) : Option (Lp (Int × List (List Int)) (Lp (Ap × List (List Int) × List Int) ((List (List Int)) × Int))) :=
 cond (decide (x69_4 < (y_5.length : Int)))
  ((Bz y_5 x69_4).bind fun e_2 =>
  (Cy e_2).bind fun y_6 =>
  (G8 24 out_4 ([y_6] : List (List Int))).bind fun l_5 =>
  some (.next (W (x69_4 + 1), l_5)))
  (up (
   some (.next (o_2, out_4, y_5))))
def Be.l2 (out_1 : List (List Int)) (row_1 : List Int) (x35_2 : Int) (o_2 : Ap) (m_2 : (List (Int × Bool))) (l_2 : List Int) : Option (Lp (Int × Ap × (List (Int × Bool)) × List Int) (Lp (Ap × List (List Int) × List Int) ((List (List Int)) × Int))) :=
 cond (decide (x35_2 < (row_1.length : Int)))
  ((Bz row_1 x35_2).bind fun e =>
  (Bb o_2 e).bind fun y_2 =>
  (C7 y_2.1).bind fun y_3 =>
  (A1 (fun a0' q' => Y5 (fun s' => Be.r3 e a0' s'.1 s'.2) q') y_3 (0, (m_2, l_2))).bind fun y_4 =>
  cond (Nat.beq y_4.2.1 0)
   (cond (decide (4096 < (W ((out_1.length : Int) + (y_4.2.2.2.length : Int)))))
    (up (up (some (([] : (List (List Int))), 3))))
    (some (.next (W (x35_2 + 1), y_2.2, y_4.2.2.1, y_4.2.2.2))))
   (none))
  (up (
   (C3 l_2 (fun x0 x1 => Eu x0 x1)).bind fun y_5 =>
   B2 (fun q' => Be.l4 o_2 y_5 q'.1 q'.2) (0, out_1)))
def Be.l1 (o_1 : Ap) (out_1 : List (List Int)) (row_1 : List Int) : Option (Lp (Ap × List (List Int) × List Int) ((List (List Int)) × Int)) :=
 cond (decide (0 < (row_1.length : Int)))
  (B2 (fun q' => Be.l2 out_1 row_1 q'.1 q'.2.1 q'.2.2.1 q'.2.2.2) (0, o_1, ([] : (List (Int × Bool))), ([] : List Int)))
  (up (
   some (out_1, 0)))
def Be (n : Int) (l : (List Aa)) : Option ((List (List Int)) × Int) :=
 (Ay n l).bind fun y =>
 Vd y.1
  (cond (!decide (y.2 = 0))
   (some (([] : (List (List Int))), y.2))
   (none))
  (fun o =>
  cond (!decide (y.2 = 0))
   (some (([] : (List (List Int))), y.2))
   (B2 (fun q' => Be.l1 q'.1 q'.2.1 q'.2.2) (o, ([([] : (List Int))] : List (List Int)), ([0] : List Int))))
def Bc.j2 (o : Ap) (s_1 : Int) (x12_1 : Int) (e : Int) (x26_2 : Bool) : Option (Lp (Int × Int × Int) (Int × Bool × Ap)) :=
 cond (x26_2)
  (up (some (0, false, o)))
  ((L6 .u32 1 e).bind fun q =>
  some (.next (Ry .u32 s_1 q, e, W (x12_1 + 1))))
def Bc.l1 (o : Ap) (l : (List Int)) (s_1 : Int) (last_1 : Int) (x12_1 : Int) : Option (Lp (Int × Int × Int) (Int × Bool × Ap)) :=
 cond (decide (x12_1 < (l.length : Int)))
  ((Bz l x12_1).bind fun e =>
  cond (decide (e <= last_1))
   (Bc.j2 o s_1 x12_1 e true)
   (Bc.j2 o s_1 x12_1 e (decide (o.n <= e))))
  (up (
   some (s_1, true, o)))
def Bc (o : Ap) (l : (List Int)) : Option (Int × Bool × Ap) :=
 B2 (fun q' => Bc.l1 o l q'.1 q'.2.1 q'.2.2) (0, -1, 0)
def Bq.r1 (o : Ap) (s : Int) (a : Int) : Option (Nat × (Unit)) :=
 (Bz o.before a).bind fun e =>
 cond (!decide ((G4 .u32 e s) = 0))
  (some (1, ()))
  (some (0, ()))
def Bq (o : Ap) (s : Int) : Option (Bool × Ap) :=
 (C7 s).bind fun y =>
 (A1 (fun a0' q' => Y5 (fun s' => Bq.r1 o s a0') q') y (0, ())).bind fun y_2 =>
 cond (Nat.beq y_2.2.1 0)
  (some (true, o))
  (cond (Nat.beq y_2.2.1 1)
   (some (false, o))
   (none))
def Da (n : Int) (l : (List Aa)) (s : (List Int)) : Option (Bool × Int) :=
 (Ay n l).bind fun y =>
 Vd y.1
  (cond (!decide (y.2 = 0))
   (some (false, y.2))
   (none))
  (fun o =>
  cond (!decide (y.2 = 0))
   (some (false, y.2))
   ((Bc o s).bind fun y_2 =>
   cond (!y_2.2.1)
    (some (false, 46))
    ((Bq y_2.2.2 y_2.1).bind fun y_3 =>
    some (y_3.1, 0))))
def Ek (n : Int) (l : (List Aa)) : Option (Int) :=
 (Ay n l).bind fun y =>
 Vd y.1
  (some y.2)
  (fun o =>
  some y.2)
def C5 : Option (Bool) :=
 (Be 3 ([(Aa.mk 0 1)] : List Aa)).bind fun y =>
 (Da 3 ([(Aa.mk 0 1)] : List Aa) ([1] : List Int)).bind fun y_2 =>
 cond (decide (y.2 = 0))
  (cond (decide (y_2.2 = 0))
   (cond (decide ((y.1.length : Int) = 6))
    (cond (!y_2.1)
     ((Ek 1 ([(Aa.mk 0 1)] : List Aa)).bind fun y_3 =>
     some (decide (y_3 = 44)))
     (some false))
    (some false))
   (some false))
  (some false)
def Gl (l : (List Int)) : Option (Ai) :=
 some (Ai.mk l 0)
def I8 (n : Int) (k : Int) : Option (Int) :=
 cond (decide (k < 1))
  (some 0)
  ((dD n k).bind fun q =>
  (dD (W (q + k)) k).bind fun q_2 =>
  some q_2)
def Ed (d : Ai) (n : Int) : Option (Int × Ai) :=
 cond (decide ((d.L.length : Int) <= d.At))
  (some (0, d))
  ((Bz d.L (W ((W (d.At + 1)) - 1))).bind fun e =>
  (I8 e n).bind fun y =>
  some (y, (Ai.mk d.L (W (d.At + 1)))))
def Hi (a : Aa) (b : Aa) : Option (Bool) :=
 cond (!decide (a.First = b.First))
  (some (decide (a.First < b.First)))
  (some (decide (a.Then < b.Then)))
def B7.j3 (l : (List Aa)) (r' : Aa) (at_1 : Int) (x32_3 : Bool) : Option ((List Aa)) :=
 cond (x32_3)
  (some l)
  ((kF l 0 at_1).bind fun l_2 =>
  (G8 32 ([] : List Aa) l_2).bind fun l_3 =>
  (G8 32 l_3 ([r'] : List Aa)).bind fun l_4 =>
  (kF l at_1 (l.length : Int)).bind fun l_5 =>
  (G8 32 l_4 l_5).bind fun l_6 =>
  some l_6)
def B7.j2 (l : (List Aa)) (r' : Aa) (at_1 : Int) (x18_2 : Bool) : Option (Lp (Int) ((List Aa))) :=
 cond (x18_2)
  (some (.next (W (at_1 + 1))))
  (up (
   cond (decide (at_1 < (l.length : Int)))
    ((Bz l at_1).bind fun e_2 =>
    B7.j3 l r' at_1 (decide (e_2 = r')))
    (B7.j3 l r' at_1 false)))
def B7.l1 (l : (List Aa)) (r' : Aa) (at_1 : Int) : Option (Lp (Int) ((List Aa))) :=
 cond (decide (at_1 < (l.length : Int)))
  ((Bz l at_1).bind fun e =>
  (Hi e r').bind fun y =>
  B7.j2 l r' at_1 y)
  (B7.j2 l r' at_1 false)
def B7 (l : (List Aa)) (r' : Aa) : Option ((List Aa)) :=
 B2 (fun q' => B7.l1 l r' q') 0
def B5.l2 (b : (List Aa)) (out_2 : List Aa) (x22_2 : Int) : Option (Lp (List Aa × Int) ((List Aa))) :=
 cond (decide (x22_2 < (b.length : Int)))
  ((Bz b x22_2).bind fun e_2 =>
  (B7 out_2 e_2).bind fun y_2 =>
  some (.next (y_2, W (x22_2 + 1))))
  (up (
   some out_2))
def B5.l1 (a : (List Aa)) (b : (List Aa)) (out_1 : List Aa) (x12_1 : Int) : Option (Lp (List Aa × Int) ((List Aa))) :=
 cond (decide (x12_1 < (a.length : Int)))
  ((Bz a x12_1).bind fun e =>
  (B7 out_1 e).bind fun y =>
  some (.next (y, W (x12_1 + 1))))
  (up (
   B2 (fun q' => B5.l2 b q'.1 q'.2) (out_1, 0)))
def B5 (a : (List Aa)) (b : (List Aa)) : Option ((List Aa)) :=
 B2 (fun q' => B5.l1 a b q'.1 q'.2) (([] : List Aa), 0)
def B9.j3 (k_1 : Int) (l_3 : List Aa) (d_3 : Ai) : Option (Lp (List Aa × Int × Ai) ((List Aa) × Ai)) :=
 some (.next (l_3, W (k_1 - 1), d_3))
def B9.j2 (n : Int) (l_1 : List Aa) (k_1 : Int) (d_1 : Ai) (x19_2 : Bool) : Option (Lp (List Aa × Int × Ai) ((List Aa) × Ai)) :=
 cond (x19_2)
  ((Ed d_1 n).bind fun y_2 =>
  (Ed y_2.2 n).bind fun y_3 =>
  cond (decide (y_2.1 < y_3.1))
   ((B5 l_1 ([(Aa.mk y_2.1 y_3.1)] : List Aa)).bind fun y_4 =>
   B9.j3 k_1 y_4 y_3.2)
   (B9.j3 k_1 l_1 y_3.2))
  (up (
   some (l_1, d_1)))
def B9.l1 (n : Int) (l_1 : List Aa) (k_1 : Int) (d_1 : Ai) : Option (Lp (List Aa × Int × Ai) ((List Aa) × Ai)) :=
 cond (decide (0 < k_1))
  (B9.j2 n l_1 k_1 d_1 (decide (1 < n)))
  (B9.j2 n l_1 k_1 d_1 false)
def B9 (d : Ai) (n : Int) : Option ((List Aa) × Ai) :=
 (Ed d (W ((W (2 * n)) + 1))).bind fun y =>
 B2 (fun q' => B9.l1 n q'.1 q'.2.1 q'.2.2) (([] : List Aa), y.1, y.2)
def B4.r2 (x21_1 : Int) (a : Int) (l_2 : List Aa) : Option (Nat × (List Aa)) :=
 (G8 32 l_2 ([(Aa.mk x21_1 a)] : List Aa)).bind fun l_3 =>
 some (0, l_3)
def B4.l1 (n : Int) (o : Ap) (x21_1 : Int) (l_1 : List Aa) : Option (Lp (Int × List Aa) ((List Aa) × Int)) :=
 cond (decide (x21_1 < n))
  ((Bz o.after x21_1).bind fun e =>
  (C7 e).bind fun y_2 =>
  (A1 (fun a0' q' => Y5 (fun s' => B4.r2 x21_1 a0' s') q') y_2 (0, l_1)).bind fun y_3 =>
  cond (Nat.beq y_3.2.1 0)
   (some (.next (W (x21_1 + 1), y_3.2.2)))
   (none))
  (up (
   some (l_1, 0)))
def B4 (n : Int) (l : (List Aa)) : Option ((List Aa) × Int) :=
 (Ay n l).bind fun y =>
 Vd y.1
  (cond (!decide (y.2 = 0))
   (some (([] : (List Aa)), y.2))
   (none))
  (fun o =>
  cond (!decide (y.2 = 0))
   (some (([] : (List Aa)), y.2))
   (B2 (fun q' => B4.l1 n o q'.1 q'.2) (0, ([] : List Aa))))
def A7.j8 (x44_6 : Int) (out_8 : List (List Bool)) : Option (Lp (Int × List (List Bool)) (Lp (Int × List (List Bool)) (Lp (Int × List (List Bool)) ((List (List Bool)))))) :=
 some (.next (W (x44_6 + 1), out_8))
def A7.j7 (x40_5 : Int) (x44_6 : Int) (out_6 : List (List Bool)) (x62_7 : Bool) : Option (Lp (Int × List (List Bool)) (Lp (Int × List (List Bool)) (Lp (Int × List (List Bool)) ((List (List Bool)))))) :=
 cond (x62_7)
  ((Bz out_6 x40_5).bind fun e_8 =>
  (Bz e_8 x44_6).bind fun e_9 =>
  A7.j8 x44_6 (Cg out_6 ((x40_5).toNat) (Cg e_8 ((x44_6).toNat) true)))
  (A7.j8 x44_6 out_6)
def A7.l6 (n : Int) (x36_4 : Int) (x40_5 : Int) (x44_6 : Int) (out_6 : List (List Bool)) : Option (Lp (Int × List (List Bool)) (Lp (Int × List (List Bool)) (Lp (Int × List (List Bool)) ((List (List Bool)))))) :=
 cond (decide (x44_6 < n))
  ((Bz out_6 x40_5).bind fun e_4 =>
  (Bz e_4 x36_4).bind fun e_5 =>
  cond (e_5)
   ((Bz out_6 x36_4).bind fun e_6 =>
   (Bz e_6 x44_6).bind fun e_7 =>
   A7.j7 x40_5 x44_6 out_6 e_7)
   (A7.j7 x40_5 x44_6 out_6 false))
  (up (
   some (.next (W (x40_5 + 1), out_6))))
def A7.l5 (n : Int) (x36_4 : Int) (x40_5 : Int) (out_5 : List (List Bool)) : Option (Lp (Int × List (List Bool)) (Lp (Int × List (List Bool)) ((List (List Bool))))) :=
 cond (decide (x40_5 < n))
  (B2 (fun q' => A7.l6 n x36_4 x40_5 q'.1 q'.2) (0, out_5))
  (up (
   some (.next (W (x36_4 + 1), out_5))))
def A7.l4 (n : Int) (x36_4 : Int) (out_4 : List (List Bool)) : Option (Lp (Int × List (List Bool)) ((List (List Bool)))) :=
 cond (decide (x36_4 < n))
  (B2 (fun q' => A7.l5 n x36_4 q'.1 q'.2) (0, out_4))
  (up (
   some out_4))
def A7.l3 (n : Int) (l : (List Aa)) (x22_3 : Int) (out_3 : List (List Bool)) : Option (Lp (Int × List (List Bool)) ((List (List Bool)))) :=
 cond (decide (x22_3 < (l.length : Int)))
  ((Bz l x22_3).bind fun e =>
  (Bz out_3 e.First).bind fun e_2 =>
  (Bz e_2 e.Then).bind fun e_3 =>
  some (.next (W (x22_3 + 1), Cg out_3 ((e.First).toNat) (Cg e_2 ((e.Then).toNat) true))))
  (up (
   B2 (fun q' => A7.l4 n q'.1 q'.2) (0, out_3)))
def A7.l2 (n : Int) (l : (List Aa)) (x12_2 : Int) (out_2 : List (List Bool)) : Option (Lp (Int × List (List Bool)) ((List (List Bool)))) :=
 cond (decide (x12_2 < n))
  ((Uz 1 n (false : Bool)).bind fun m =>
  (G8 24 out_2 ([m] : List (List Bool))).bind fun l_2 =>
  some (.next (W (x12_2 + 1), l_2)))
  (up (
   B2 (fun q' => A7.l3 n l q'.1 q'.2) (0, out_2)))
def A7 (n : Int) (l : (List Aa)) : Option ((List (List Bool))) :=
 B2 (fun q' => A7.l2 n l q'.1 q'.2) (0, ([] : List (List Bool)))
def Bf.j3 (x18_2 : Int) (x48_3 : Bool) : Option (Lp (Int) (Int)) :=
 cond (x48_3)
  (up (some 44))
  (some (.next (W (x18_2 + 1))))
def Bf.l5 (n : Int) (y_2 : (List (List Bool))) (x71_5 : Int) : Option (Lp (Int) (Int)) :=
 cond (decide (x71_5 < n))
  ((Bz y_2 x71_5).bind fun e_4 =>
  (Bz e_4 x71_5).bind fun e_5 =>
  cond (e_5)
   (up (some 45))
   (some (.next (W (x71_5 + 1)))))
  (up (
   some 0))
def Bf.l4 (n : Int) (l : (List Aa)) (i_4 : Int) : Option (Lp (Int) (Int)) :=
 cond (decide (i_4 < (l.length : Int)))
  ((Bz l (W (i_4 - 1))).bind fun e_2 =>
  (Bz l i_4).bind fun e_3 =>
  (Hi e_2 e_3).bind fun y =>
  cond (!y)
   (up (some 6))
   (some (.next (W (i_4 + 1)))))
  (up (
   (A7 n l).bind fun y_2 =>
   B2 (fun q' => Bf.l5 n y_2 q') 0))
def Bf.l2 (n : Int) (l : (List Aa)) (x18_2 : Int) : Option (Lp (Int) (Int)) :=
 cond (decide (x18_2 < (l.length : Int)))
  ((Bz l x18_2).bind fun e =>
  cond (decide (e.First < 0))
   (Bf.j3 x18_2 true)
   (cond (decide (e.Then < 0))
    (Bf.j3 x18_2 true)
    (cond (decide (n <= e.First))
     (Bf.j3 x18_2 true)
     (cond (decide (n <= e.Then))
      (Bf.j3 x18_2 true)
      (Bf.j3 x18_2 (decide (e.First = e.Then)))))))
  (up (
   B2 (fun q' => Bf.l4 n l q') 1))
def Bf.j1 (n : Int) (l : (List Aa)) (x15_1 : Bool) : Option (Int) :=
 cond (x15_1)
  (some 2)
  (B2 (fun q' => Bf.l2 n l q') 0)
def Bf (n : Int) (l : (List Aa)) : Option (Int) :=
 cond (decide (n < 0))
  (Bf.j1 n l true)
  (Bf.j1 n l (decide (24 < n)))
def E0 (n : Int) (l : (List Aa)) : Option (Int) :=
 (Bf n l).bind fun y =>
 some y
def Bp.j3 (x25_2 : Int) (out_3 : List Aa) : Option (Lp (Int × List Aa) (Lp (Int × List Aa) ((List Aa) × Int))) :=
 some (.next (W (x25_2 + 1), out_3))
def Bp.l2 (n : Int) (y_2 : (List (List Bool))) (x21_1 : Int) (x25_2 : Int) (out_2 : List Aa) : Option (Lp (Int × List Aa) (Lp (Int × List Aa) ((List Aa) × Int))) :=
 cond (decide (x25_2 < n))
  ((Bz y_2 x21_1).bind fun e =>
  (Bz e x25_2).bind fun e_2 =>
  cond (e_2)
   ((G8 32 out_2 ([(Aa.mk x21_1 x25_2)] : List Aa)).bind fun l_2 =>
   Bp.j3 x25_2 l_2)
   (Bp.j3 x25_2 out_2))
  (up (
   some (.next (W (x21_1 + 1), out_2))))
def Bp.l1 (n : Int) (y_2 : (List (List Bool))) (x21_1 : Int) (out_1 : List Aa) : Option (Lp (Int × List Aa) ((List Aa) × Int)) :=
 cond (decide (x21_1 < n))
  (B2 (fun q' => Bp.l2 n y_2 x21_1 q'.1 q'.2) (0, out_1))
  (up (
   some (out_1, 0)))
def Bp (n : Int) (l : (List Aa)) : Option ((List Aa) × Int) :=
 (E0 n l).bind fun y =>
 cond (!decide (y = 0))
  (some (([] : (List Aa)), y))
  ((A7 n l).bind fun y_2 =>
  B2 (fun q' => Bp.l1 n y_2 q'.1 q'.2) (0, ([] : List Aa)))
def Ct.l1 (n : Int) (s_1 : Int) (x21_1 : Int) (o_1 : Ap) (out_1 : List Int) : Option (Lp (Int × Int × Ap × List Int) ((List Int) × Int)) :=
 cond (decide (x21_1 < n))
  ((Bb o_1 s_1).bind fun y_2 =>
  (Ci y_2.1).bind fun y_3 =>
  (L6 .u32 1 y_3).bind fun q =>
  (G8 8 out_1 ([y_3] : List Int)).bind fun l_2 =>
  some (.next (Ry .u32 s_1 q, W (x21_1 + 1), y_2.2, l_2)))
  (up (
   some (out_1, 0)))
def Ct (n : Int) (l : (List Aa)) : Option ((List Int) × Int) :=
 (Ay n l).bind fun y =>
 Vd y.1
  (cond (!decide (y.2 = 0))
   (some (([] : (List Int)), y.2))
   (none))
  (fun o =>
  cond (!decide (y.2 = 0))
   (some (([] : (List Int)), y.2))
   (B2 (fun q' => Ct.l1 n q'.1 q'.2.1 q'.2.2.1 q'.2.2.2) (0, 0, o, ([] : List Int))))
def Ec.l1 (s : (List Int)) (n : Int) (x9_1 : Int) : Option (Lp (Int) (Bool)) :=
 cond (decide (x9_1 < (s.length : Int)))
  ((Bz s x9_1).bind fun e =>
  cond (decide (e = n))
   (up (some true))
   (some (.next (W (x9_1 + 1)))))
  (up (
   some false))
def Ec (s : (List Int)) (n : Int) : Option (Bool) :=
 B2 (fun q' => Ec.l1 s n q') 0
def Bg.j4 (x13_1 : Int) (put_4 : Bool) (out_4 : List Int) : Option (Lp (Bool × Int × List Int) ((List Int))) :=
 some (.next (put_4, W (x13_1 + 1), out_4))
def Bg.j3 (n : Int) (x13_1 : Int) (e : Int) (put_3 : Bool) (out_3 : List Int) : Option (Lp (Bool × Int × List Int) ((List Int))) :=
 cond (!decide (e = n))
  ((G8 8 out_3 ([e] : List Int)).bind fun l_2 =>
  Bg.j4 x13_1 put_3 l_2)
  (Bg.j4 x13_1 put_3 out_3)
def Bg.j2 (n : Int) (put_1 : Bool) (x13_1 : Int) (out_1 : List Int) (e : Int) (x26_2 : Bool) : Option (Lp (Bool × Int × List Int) ((List Int))) :=
 cond (x26_2)
  ((G8 8 out_1 ([n] : List Int)).bind fun l =>
  Bg.j3 n x13_1 e true l)
  (Bg.j3 n x13_1 e put_1 out_1)
def Bg.j5 (n : Int) (out_1 : List Int) (x43_5 : Bool) : Option ((List Int)) :=
 cond (x43_5)
  ((G8 8 out_1 ([n] : List Int)).bind fun l_3 =>
  some l_3)
  (some out_1)
def Bg.l1 (s : (List Int)) (n : Int) (has : Bool) (put_1 : Bool) (x13_1 : Int) (out_1 : List Int) : Option (Lp (Bool × Int × List Int) ((List Int))) :=
 cond (decide (x13_1 < (s.length : Int)))
  ((Bz s x13_1).bind fun e =>
  cond (has)
   (cond (!put_1)
    (Bg.j2 n put_1 x13_1 out_1 e (decide (n < e)))
    (Bg.j2 n put_1 x13_1 out_1 e false))
   (Bg.j2 n put_1 x13_1 out_1 e false))
  (up (
   cond (has)
    (Bg.j5 n out_1 (!put_1))
    (Bg.j5 n out_1 false)))
def Bg (s : (List Int)) (n : Int) (has : Bool) : Option ((List Int)) :=
 B2 (fun q' => Bg.l1 s n has q'.1 q'.2.1 q'.2.2) (false, 0, ([] : List Int))
def Cj.j2 (x9_1 : Int) (x23_2 : Bool) : Option (Lp (Int) (Bool)) :=
 cond (x23_2)
  (up (some false))
  (some (.next (W (x9_1 + 1))))
def Cj.l1 (l : (List Aa)) (s : (List Int)) (x9_1 : Int) : Option (Lp (Int) (Bool)) :=
 cond (decide (x9_1 < (l.length : Int)))
  ((Bz l x9_1).bind fun e =>
  (Ec s e.Then).bind fun y =>
  cond (y)
   ((Ec s e.First).bind fun y_2 =>
   Cj.j2 x9_1 (!y_2))
   (Cj.j2 x9_1 false))
  (up (
   some true))
def Cj (l : (List Aa)) (s : (List Int)) : Option (Bool) :=
 B2 (fun q' => Cj.l1 l s q') 0
def Bo.j3 (x12_1 : Int) (out_3 : List Int) : Option (Lp (Int × List Int) ((List Int))) :=
 some (.next (W (x12_1 + 1), out_3))
def Bo.j2 (x12_1 : Int) (out_1 : List Int) (x27_2 : Bool) : Option (Lp (Int × List Int) ((List Int))) :=
 cond (x27_2)
  ((G8 8 out_1 ([x12_1] : List Int)).bind fun l_2 =>
  Bo.j3 x12_1 l_2)
  (Bo.j3 x12_1 out_1)
def Bo.l1 (n : Int) (l : (List Aa)) (s : (List Int)) (add : Bool) (x12_1 : Int) (out_1 : List Int) : Option (Lp (Int × List Int) ((List Int))) :=
 cond (decide (x12_1 < n))
  ((Ec s x12_1).bind fun y =>
  cond (!decide (y = add))
   ((Bg s x12_1 add).bind fun y_2 =>
   (Cj l y_2).bind fun y_3 =>
   Bo.j2 x12_1 out_1 y_3)
   (Bo.j2 x12_1 out_1 false))
  (up (
   some out_1))
def Bo (n : Int) (l : (List Aa)) (s : (List Int)) (add : Bool) : Option ((List Int)) :=
 B2 (fun q' => Bo.l1 n l s add q'.1 q'.2) (0, ([] : List Int))
def C4.l1 (n : Int) (l : (List Aa)) (done_1 : List Int) (out_1 : List Int) : Option (Lp (List Int × List Int) ((List Int) × Int)) :=
 cond (decide ((out_1.length : Int) < n))
  ((Bo n l done_1 true).bind fun y_2 =>
  (Bz y_2 0).bind fun e =>
  (G8 8 out_1 ([e] : List Int)).bind fun l_2 =>
  (Bg done_1 e true).bind fun y_3 =>
  some (.next (y_3, l_2)))
  (up (
   some (out_1, 0)))
def C4 (n : Int) (l : (List Aa)) : Option ((List Int) × Int) :=
 (E0 n l).bind fun y =>
 cond (!decide (y = 0))
  (some (([] : (List Int)), y))
  (B2 (fun q' => C4.l1 n l q'.1 q'.2) (([] : List Int), ([] : List Int)))
def Di.l1 (a : (List Aa)) (b : (List Aa)) (x13_1 : Int) : Option (Lp (Int) (Bool)) :=
 cond (decide (x13_1 < (a.length : Int)))
  ((Bz a x13_1).bind fun e =>
  (Bz b x13_1).bind fun e_2 =>
  cond (!decide (e = e_2))
   (up (some false))
   (some (.next (W (x13_1 + 1)))))
  (up (
   some true))
def Di (a : (List Aa)) (b : (List Aa)) : Option (Bool) :=
 cond (!decide ((a.length : Int) = (b.length : Int)))
  (some false)
  (B2 (fun q' => Di.l1 a b q') 0)
def Co.l1 (a : (List Int)) (b : (List Int)) (x13_1 : Int) : Option (Lp (Int) (Bool)) :=
 cond (decide (x13_1 < (a.length : Int)))
  ((Bz a x13_1).bind fun e =>
  (Bz b x13_1).bind fun e_2 =>
  cond (!decide (e = e_2))
   (up (some false))
   (some (.next (W (x13_1 + 1)))))
  (up (
   some true))
def Co (a : (List Int)) (b : (List Int)) : Option (Bool) :=
 cond (!decide ((a.length : Int) = (b.length : Int)))
  (some false)
  (B2 (fun q' => Co.l1 a b q') 0)
def De.j2 (i_1 : Int) (d_2 : Ai) (s_2 : List Int) : Option (Lp (Int × Ai × List Int) ((List Int) × Ai)) :=
 some (.next (W (i_1 + 1), d_2, s_2))
def De.l1 (n : Int) (i_1 : Int) (d_1 : Ai) (s_1 : List Int) : Option (Lp (Int × Ai × List Int) ((List Int) × Ai)) :=
 cond (decide (i_1 < n))
  ((Ed d_1 2).bind fun y =>
  cond (decide (y.1 = 0))
   ((G8 8 s_1 ([i_1] : List Int)).bind fun l =>
   De.j2 i_1 y.2 l)
   (De.j2 i_1 y.2 s_1))
  (up (
   some (s_1, d_1)))
def De (d : Ai) (n : Int) : Option ((List Int) × Ai) :=
 B2 (fun q' => De.l1 n q'.1 q'.2.1 q'.2.2) (0, d, ([] : List Int))
def Fo.l1 (l : (List Int)) (n : Int) (x9_1 : Int) : Option (Lp (Int) (Bool)) :=
 cond (decide (x9_1 < (l.length : Int)))
  ((Bz l x9_1).bind fun e =>
  cond (decide (e = n))
   (up (some true))
   (some (.next (W (x9_1 + 1)))))
  (up (
   some false))
def Fo (l : (List Int)) (n : Int) : Option (Bool) :=
 B2 (fun q' => Fo.l1 l n q') 0
def B8.j4 (x17_1 : Int) (out_4 : List Int) : Option (Lp (Int × List Int) ((List Int))) :=
 some (.next (W (x17_1 + 1), out_4))
def B8.j3 (x25_2 : Int) (in_3 : Bool) : Option (Lp (Bool × Int) (Lp (Int × List Int) ((List Int)))) :=
 some (.next (in_3, W (x25_2 + 1)))
def B8.l2 (s : (List Int)) (y : (List (List Bool))) (x17_1 : Int) (out_1 : List Int) (in_2 : Bool) (x25_2 : Int) : Option (Lp (Bool × Int) (Lp (Int × List Int) ((List Int)))) :=
 cond (decide (x25_2 < (s.length : Int)))
  ((Bz s x25_2).bind fun e =>
  cond (in_2)
   (B8.j3 x25_2 true)
   ((Bz y x17_1).bind fun e_2 =>
   (Bz e_2 e).bind fun e_3 =>
   B8.j3 x25_2 e_3))
  (up (
   cond (in_2)
    ((G8 8 out_1 ([x17_1] : List Int)).bind fun l_2 =>
    B8.j4 x17_1 l_2)
    (B8.j4 x17_1 out_1)))
def B8.l1 (n : Int) (s : (List Int)) (y : (List (List Bool))) (x17_1 : Int) (out_1 : List Int) : Option (Lp (Int × List Int) ((List Int))) :=
 cond (decide (x17_1 < n))
  ((Fo s x17_1).bind fun y_2 =>
  B2 (fun q' => B8.l2 s y x17_1 out_1 q'.1 q'.2) (y_2, 0))
  (up (
   some out_1))
def B8 (n : Int) (l : (List Aa)) (s : (List Int)) : Option ((List Int)) :=
 (A7 n l).bind fun y =>
 B2 (fun q' => B8.l1 n s y q'.1 q'.2) (0, ([] : List Int))
def Bm.j2 (x9_1 : Int) (x33_2 : Bool) : Option (Lp (Int) (Bool)) :=
 cond (x33_2)
  (up (some false))
  (some (.next (W (x9_1 + 1))))
def Bm.l1 (s : (List Int)) (n : Int) (x9_1 : Int) : Option (Lp (Int) (Bool)) :=
 cond (decide (x9_1 < (s.length : Int)))
  ((Bz s x9_1).bind fun e =>
  cond (decide (e < 0))
   (Bm.j2 x9_1 true)
   (cond (decide (n <= e))
    (Bm.j2 x9_1 true)
    (cond (decide (0 < x9_1))
     ((Bz s (W (x9_1 - 1))).bind fun e_2 =>
     Bm.j2 x9_1 (decide (e <= e_2)))
     (Bm.j2 x9_1 false))))
  (up (
   some true))
def Bm (s : (List Int)) (n : Int) : Option (Bool) :=
 B2 (fun q' => Bm.l1 s n q') 0
def D1 (n : Int) (l : (List Aa)) (s : (List Int)) : Option (Bool × Int) :=
 (E0 n l).bind fun y =>
 cond (!decide (y = 0))
  (some (false, y))
  ((Bm s n).bind fun y_2 =>
  cond (!y_2)
   (some (false, 46))
   ((Cj l s).bind fun y_3 =>
   some (y_3, 0)))
def C0.j1 (y_2 : Int × Bool × Ap) (x36_1 : Bool) (o_1 : Ap) : Option ((List Int) × Int) :=
 cond (x36_1)
  (some (([] : (List Int)), 46))
  ((Bb o_1 y_2.1).bind fun y_4 =>
  (Cy y_4.1).bind fun y_5 =>
  some (y_5, 0))
def C0 (n : Int) (l : (List Aa)) (s : (List Int)) : Option ((List Int) × Int) :=
 (Ay n l).bind fun y =>
 Vd y.1
  (cond (!decide (y.2 = 0))
   (some (([] : (List Int)), y.2))
   (none))
  (fun o =>
  cond (!decide (y.2 = 0))
   (some (([] : (List Int)), y.2))
   ((Bc o s).bind fun y_2 =>
   cond (!y_2.2.1)
    (C0.j1 y_2 true y_2.2.2)
    ((Bq y_2.2.2 y_2.1).bind fun y_3 =>
    C0.j1 y_2 (!y_3.1) y_3.2)))
def D2 (n : Int) (l : (List Aa)) (s : (List Int)) : Option ((List Int) × Int) :=
 (C0 n l s).bind fun y =>
 some (y.1, y.2)
def E2 (n : Int) (l : (List Aa)) (s : (List Int)) (add : Bool) : Option ((List Int) × Int) :=
 (D1 n l s).bind fun y =>
 cond (!decide (y.2 = 0))
  (some (([] : (List Int)), y.2))
  (cond (!y.1)
   (some (([] : (List Int)), 46))
   ((Bo n l s add).bind fun y_2 =>
   some (y_2, 0)))
def El (n : Int) (l : (List Aa)) (s : (List Int)) : Option ((List Int) × Int) :=
 (E2 n l s true).bind fun y =>
 some (y.1, y.2)
def Bt.r1 (o : Ap) (s : Int) (a : Int) (out_1 : Int) : Option (Nat × (Int)) :=
 (Bz o.after a).bind fun e =>
 cond (decide ((Oa .u32 e s) = 0))
  ((L6 .u32 1 a).bind fun q =>
  some (0, Ry .u32 out_1 q))
  (some (0, out_1))
def Bt (o : Ap) (s : Int) : Option (Int × Ap) :=
 (C7 s).bind fun y =>
 (A1 (fun a0' q' => Y5 (fun s' => Bt.r1 o s a0' s') q') y (0, 0)).bind fun y_2 =>
 cond (Nat.beq y_2.2.1 0)
  (some (y_2.2.2, o))
  (none)
def Cz.j1 (y_2 : Int × Bool × Ap) (x36_1 : Bool) (o_1 : Ap) : Option ((List Int) × Int) :=
 cond (x36_1)
  (some (([] : (List Int)), 46))
  ((Bt o_1 y_2.1).bind fun y_4 =>
  (Cy y_4.1).bind fun y_5 =>
  some (y_5, 0))
def Cz (n : Int) (l : (List Aa)) (s : (List Int)) : Option ((List Int) × Int) :=
 (Ay n l).bind fun y =>
 Vd y.1
  (cond (!decide (y.2 = 0))
   (some (([] : (List Int)), y.2))
   (none))
  (fun o =>
  cond (!decide (y.2 = 0))
   (some (([] : (List Int)), y.2))
   ((Bc o s).bind fun y_2 =>
   cond (!y_2.2.1)
    (Cz.j1 y_2 true y_2.2.2)
    ((Bq y_2.2.2 y_2.1).bind fun y_3 =>
    Cz.j1 y_2 (!y_3.1) y_3.2)))
def C8 (n : Int) (l : (List Aa)) (s : (List Int)) : Option ((List Int) × Int) :=
 (Cz n l s).bind fun y =>
 some (y.1, y.2)
def Dl (n : Int) (l : (List Aa)) (s : (List Int)) : Option ((List Int) × Int) :=
 (E2 n l s false).bind fun y =>
 some (y.1, y.2)
def Bx.j3 (x43_2 : Int) (out_3 : List Aa) : Option (Lp (Int × List Aa) (Lp (Int × List Aa) ((List Aa) × Int))) :=
 some (.next (W (x43_2 + 1), out_3))
def Bx.l2 (s : (List Int)) (y_2 : Int × Bool × Ap) (x36_1 : Int) (e : Int) (x43_2 : Int) (out_2 : List Aa) : Option (Lp (Int × List Aa) (Lp (Int × List Aa) ((List Aa) × Int))) :=
 cond (decide (x43_2 < (s.length : Int)))
  ((Bz s x43_2).bind fun e_2 =>
  (Bz y_2.2.2.after e).bind fun e_3 =>
  (Ev e_3 e_2).bind fun y_3 =>
  cond (y_3)
   ((G8 32 out_2 ([(Aa.mk x36_1 x43_2)] : List Aa)).bind fun l_2 =>
   Bx.j3 x43_2 l_2)
   (Bx.j3 x43_2 out_2))
  (up (
   some (.next (W (x36_1 + 1), out_2))))
def Bx.l1 (s : (List Int)) (y_2 : Int × Bool × Ap) (x36_1 : Int) (out_1 : List Aa) : Option (Lp (Int × List Aa) ((List Aa) × Int)) :=
 cond (decide (x36_1 < (s.length : Int)))
  ((Bz s x36_1).bind fun e =>
  B2 (fun q' => Bx.l2 s y_2 x36_1 e q'.1 q'.2) (0, out_1))
  (up (
   some (out_1, 0)))
def Bx (n : Int) (l : (List Aa)) (s : (List Int)) : Option ((List Aa) × Int) :=
 (Ay n l).bind fun y =>
 Vd y.1
  (cond (!decide (y.2 = 0))
   (some (([] : (List Aa)), y.2))
   (none))
  (fun o =>
  cond (!decide (y.2 = 0))
   (some (([] : (List Aa)), y.2))
   ((Bc o s).bind fun y_2 =>
   cond (!y_2.2.1)
    (some (([] : (List Aa)), 46))
    (B2 (fun q' => Bx.l1 s y_2 q'.1 q'.2) (0, ([] : List Aa)))))
def B3.j3 (x37_2 : Int) (out_3 : List Aa) : Option (Lp (Int × List Aa) (Lp (Int × List Aa) ((List Aa) × Int))) :=
 some (.next (W (x37_2 + 1), out_3))
def B3.l2 (s : (List Int)) (y_3 : (List (List Bool))) (x30_1 : Int) (e : Int) (x37_2 : Int) (out_2 : List Aa) : Option (Lp (Int × List Aa) (Lp (Int × List Aa) ((List Aa) × Int))) :=
 cond (decide (x37_2 < (s.length : Int)))
  ((Bz s x37_2).bind fun e_2 =>
  (Bz y_3 e).bind fun e_3 =>
  (Bz e_3 e_2).bind fun e_4 =>
  cond (e_4)
   ((G8 32 out_2 ([(Aa.mk x30_1 x37_2)] : List Aa)).bind fun l_2 =>
   B3.j3 x37_2 l_2)
   (B3.j3 x37_2 out_2))
  (up (
   some (.next (W (x30_1 + 1), out_2))))
def B3.l1 (s : (List Int)) (y_3 : (List (List Bool))) (x30_1 : Int) (out_1 : List Aa) : Option (Lp (Int × List Aa) ((List Aa) × Int)) :=
 cond (decide (x30_1 < (s.length : Int)))
  ((Bz s x30_1).bind fun e =>
  B2 (fun q' => B3.l2 s y_3 x30_1 e q'.1 q'.2) (0, out_1))
  (up (
   some (out_1, 0)))
def B3 (n : Int) (l : (List Aa)) (s : (List Int)) : Option ((List Aa) × Int) :=
 (E0 n l).bind fun y =>
 cond (!decide (y = 0))
  (some (([] : (List Aa)), y))
  ((Bm s n).bind fun y_2 =>
  cond (!y_2)
   (some (([] : (List Aa)), 46))
   ((A7 n l).bind fun y_3 =>
   B2 (fun q' => B3.l1 s y_3 q'.1 q'.2) (0, ([] : List Aa))))
def Dp.l1 (a : (List Int)) (b : (List Int)) (x8_1 : Int) : Option (Lp (Int) (Bool)) :=
 cond (decide (x8_1 < (a.length : Int)))
  ((Bz a x8_1).bind fun e =>
  (Bz b x8_1).bind fun e_2 =>
  cond (!decide (e = e_2))
   (up (some (decide (e < e_2))))
   (some (.next (W (x8_1 + 1)))))
  (up (
   some false))
def Dp (a : (List Int)) (b : (List Int)) : Option (Bool) :=
 B2 (fun q' => Dp.l1 a b q') 0
def Hk (a : (List Int)) (b : (List Int)) : Option (Bool) :=
 cond (decide ((a.length : Int) = (b.length : Int)))
  ((Dp a b).bind fun y =>
  cond (!y)
   ((Dp b a).bind fun y_2 =>
   some (!y_2))
   (some false))
  (some false)
def C1.j2 (l : (List (List Int))) (s : (List Int)) (lo_1 : Int) (x38_2 : Bool) : Option ((List (List Int))) :=
 cond (x38_2)
  (some l)
  ((kF l 0 lo_1).bind fun l_2 =>
  (G8 24 ([] : List (List Int)) l_2).bind fun l_3 =>
  (G8 24 l_3 ([s] : List (List Int))).bind fun l_4 =>
  (kF l lo_1 (l.length : Int)).bind fun l_5 =>
  (G8 24 l_4 l_5).bind fun l_6 =>
  some l_6)
def C1.l1 (l : (List (List Int))) (s : (List Int)) (lo_1 : Int) (hi_1 : Int) : Option (Lp (Int × Int) ((List (List Int)))) :=
 cond (decide (lo_1 < hi_1))
  ((Mr (W (lo_1 + hi_1)) 2).bind fun q =>
  (Bz l q).bind fun e =>
  (Dp e s).bind fun y =>
  cond (y)
   (some (.next (W (q + 1), hi_1)))
   (some (.next (lo_1, q))))
  (up (
   cond (decide (lo_1 < (l.length : Int)))
    ((Bz l lo_1).bind fun e_2 =>
    (Hk e_2 s).bind fun y_2 =>
    C1.j2 l s lo_1 y_2)
    (C1.j2 l s lo_1 false)))
def C1 (l : (List (List Int))) (s : (List Int)) : Option ((List (List Int))) :=
 B2 (fun q' => C1.l1 l s q'.1 q'.2) (0, (l.length : Int))
def By.l3 (out_1 : List (List Int)) (x27_2 : Int) (e : (List Int)) (y_2 : (List Int)) (next_3 : List (List Int)) (x36_3 : Int) : Option (Lp (List (List Int) × Int) (Lp (List (List Int) × Int) (Lp (List (List Int) × List (List Int)) ((List (List Int)) × Int)))) :=
 cond (decide (x36_3 < (y_2.length : Int)))
  ((Bz y_2 x36_3).bind fun e_2 =>
  (Bg e e_2 true).bind fun y_3 =>
  (C1 next_3 y_3).bind fun y_4 =>
  cond (decide (4096 < (W ((out_1.length : Int) + (y_4.length : Int)))))
   (up (up (up (some (([] : (List (List Int))), 3)))))
   (some (.next (y_4, W (x36_3 + 1)))))
  (up (
   some (.next (next_3, W (x27_2 + 1)))))
def By.l2 (n : Int) (l : (List Aa)) (level_1 : List (List Int)) (out_1 : List (List Int)) (next_2 : List (List Int)) (x27_2 : Int) : Option (Lp (List (List Int) × Int) (Lp (List (List Int) × List (List Int)) ((List (List Int)) × Int))) :=
 cond (decide (x27_2 < (level_1.length : Int)))
  ((Bz level_1 x27_2).bind fun e =>
  (Bo n l e true).bind fun y_2 =>
  B2 (fun q' => By.l3 out_1 x27_2 e y_2 q'.1 q'.2) (next_2, 0))
  (up (
   (G8 24 out_1 next_2).bind fun l_2 =>
   some (.next (next_2, l_2))))
def By.l1 (n : Int) (l : (List Aa)) (level_1 : List (List Int)) (out_1 : List (List Int)) : Option (Lp (List (List Int) × List (List Int)) ((List (List Int)) × Int)) :=
 cond (decide (0 < (level_1.length : Int)))
  (B2 (fun q' => By.l2 n l level_1 out_1 q'.1 q'.2) (([] : List (List Int)), 0))
  (up (
   some (out_1, 0)))
def By (n : Int) (l : (List Aa)) : Option ((List (List Int)) × Int) :=
 (E0 n l).bind fun y =>
 cond (!decide (y = 0))
  (some (([] : (List (List Int))), y))
  (B2 (fun q' => By.l1 n l q'.1 q'.2) (([([] : (List Int))] : List (List Int)), ([([] : (List Int))] : List (List Int))))
def C6.l1 (a : (List (List Int))) (b : (List (List Int))) (x13_1 : Int) : Option (Lp (Int) (Bool)) :=
 cond (decide (x13_1 < (a.length : Int)))
  ((Bz a x13_1).bind fun e =>
  (Bz b x13_1).bind fun e_2 =>
  (Co e e_2).bind fun y =>
  cond (!y)
   (up (some false))
   (some (.next (W (x13_1 + 1)))))
  (up (
   some true))
def C6 (a : (List (List Int))) (b : (List (List Int))) : Option (Bool) :=
 cond (!decide ((a.length : Int) = (b.length : Int)))
  (some false)
  (B2 (fun q' => C6.l1 a b q') 0)
def Aq.j6 (x148_5 : Int) (x248_6 : Bool) : Option (Lp (Int) (Lp (Int × Ai) (Lp (Int × Ai) (Bool)))) :=
 cond (x248_6)
  (up (up (up (some false))))
  (some (.next (W (x148_5 + 1))))
def Aq.l5 (s : (List Int)) (e : Int) (x84_3 : Int) (e_2 : (List Aa)) (y_14 : (List Int) × Ai) (y_15 : (List Int) × Ai) (y_16 : (List Int)) (x148_5 : Int) : Option (Lp (Int) (Lp (Int × Ai) (Lp (Int × Ai) (Bool)))) :=
 cond (decide (x148_5 < (([s, y_14.1, y_16, ([] : (List Int))] : List (List Int)).length : Int)))
  ((Bz ([s, y_14.1, y_16, ([] : (List Int))] : List (List Int)) x148_5).bind fun e_3 =>
  (Da e e_2 e_3).bind fun y_17 =>
  (D1 e e_2 e_3).bind fun y_18 =>
  (D2 e e_2 e_3).bind fun y_19 =>
  (El e e_2 e_3).bind fun y_20 =>
  (C8 e e_2 e_3).bind fun y_21 =>
  (Dl e e_2 e_3).bind fun y_22 =>
  (Bx e e_2 e_3).bind fun y_23 =>
  (B3 e e_2 e_3).bind fun y_24 =>
  cond (!decide (y_17.1 = y_18.1))
   (Aq.j6 x148_5 true)
   (cond (!decide (y_17.2 = y_18.2))
    (Aq.j6 x148_5 true)
    (cond (!decide (y_19.2 = y_20.2))
     (Aq.j6 x148_5 true)
     (cond (!decide (y_21.2 = y_22.2))
      (Aq.j6 x148_5 true)
      (cond (!decide (y_23.2 = y_24.2))
       (Aq.j6 x148_5 true)
       ((Co y_19.1 y_20.1).bind fun y_25 =>
       cond (!y_25)
        (Aq.j6 x148_5 true)
        ((Co y_21.1 y_22.1).bind fun y_26 =>
        cond (!y_26)
         (Aq.j6 x148_5 true)
         ((Di y_23.1 y_24.1).bind fun y_27 =>
         Aq.j6 x148_5 (!y_27)))))))))
  (up (
   some (.next (W (x84_3 + 1), y_15.2))))
def Aq.j4 (s : (List Int)) (y_4 : (List Aa) × Ai) (e : Int) (x84_3 : Int) (d_3 : Ai) (e_2 : (List Aa)) (x138_4 : Bool) : Option (Lp (Int × Ai) (Lp (Int × Ai) (Bool))) :=
 cond (x138_4)
  (up (up (some false)))
  ((De d_3 6).bind fun y_14 =>
  (De y_14.2 6).bind fun y_15 =>
  (B8 6 y_4.1 y_15.1).bind fun y_16 =>
  B2 (fun q' => Aq.l5 s e x84_3 e_2 y_14 y_15 y_16 q') 0)
def Aq.l3 (raw : (List Aa)) (s : (List Int)) (y_4 : (List Aa) × Ai) (x73_2 : Int) (e : Int) (y_6 : (List Aa)) (x84_3 : Int) (d_3 : Ai) : Option (Lp (Int × Ai) (Lp (Int × Ai) (Bool))) :=
 cond (decide (x84_3 < (([y_4.1, raw, y_6] : List (List Aa)).length : Int)))
  ((Bz ([y_4.1, raw, y_6] : List (List Aa)) x84_3).bind fun e_2 =>
  (B4 e e_2).bind fun y_7 =>
  (Bp e e_2).bind fun y_8 =>
  (Ct e e_2).bind fun y_9 =>
  (C4 e e_2).bind fun y_10 =>
  cond (!decide (y_7.2 = y_8.2))
   (Aq.j4 s y_4 e x84_3 d_3 e_2 true)
   (cond (!decide (y_9.2 = y_10.2))
    (Aq.j4 s y_4 e x84_3 d_3 e_2 true)
    ((Ek e e_2).bind fun y_11 =>
    cond (!decide (y_11 = y_8.2))
     (Aq.j4 s y_4 e x84_3 d_3 e_2 true)
     ((Di y_7.1 y_8.1).bind fun y_12 =>
     cond (!y_12)
      (Aq.j4 s y_4 e x84_3 d_3 e_2 true)
      ((Co y_9.1 y_10.1).bind fun y_13 =>
      Aq.j4 s y_4 e x84_3 d_3 e_2 (!y_13))))))
  (up (
   some (.next (W (x73_2 + 1), d_3))))
def Aq.j7 (y_4 : (List Aa) × Ai) (x270_7 : Bool) : Option (Bool) :=
 cond (x270_7)
  (some false)
  ((Be 24 y_4.1).bind fun y_31 =>
  (By 24 y_4.1).bind fun y_32 =>
  cond (decide (y_31.2 = y_32.2))
   ((C5).bind fun y_33 =>
   some y_33)
   (some false))
def Aq.l2 (raw : (List Aa)) (s : (List Int)) (n : Int) (y_4 : (List Aa) × Ai) (y_5 : Int) (x73_2 : Int) (d_2 : Ai) : Option (Lp (Int × Ai) (Bool)) :=
 cond (decide (x73_2 < (([6, n, W (y_5 - 1)] : List Int).length : Int)))
  ((Bz ([6, n, W (y_5 - 1)] : List Int) x73_2).bind fun e =>
  (B5 y_4.1 raw).bind fun y_6 =>
  B2 (fun q' => Aq.l3 raw s y_4 x73_2 e y_6 q'.1 q'.2) (0, d_2))
  (up (
   (Be 6 y_4.1).bind fun y_28 =>
   (By 6 y_4.1).bind fun y_29 =>
   cond (!decide (y_28.2 = y_29.2))
    (Aq.j7 y_4 true)
    ((C6 y_28.1 y_29.1).bind fun y_30 =>
    Aq.j7 y_4 (!y_30))))
def Aq.j1 (t : (List Int)) (raw : (List Aa)) (s : (List Int)) (n : Int) (x61_1 : Bool) : Option (Bool) :=
 cond (x61_1)
  ((C5).bind fun y_2 =>
  some y_2)
  ((Gl t).bind fun y_3 =>
  (B9 y_3 6).bind fun y_4 =>
  (I8 n 12).bind fun y_5 =>
  B2 (fun q' => Aq.l2 raw s n y_4 y_5 q'.1 q'.2) (0, y_4.2))
def Aq (t : (List Int)) (raw : (List Aa)) (s : (List Int)) (n : Int) : Option (Bool) :=
 (D9 t).bind fun y =>
 cond (!y)
  (Aq.j1 t raw s n true)
  (cond (decide (60 < (raw.length : Int)))
   (Aq.j1 t raw s n true)
   (Aq.j1 t raw s n (decide (60 < (s.length : Int)))))
def Ao.j4 (m_1 : Int) (count_4 : Int) : Option (Lp (Int × Int) (Bool)) :=
 some (.next (count_4, W (m_1 + 1)))
def Ao.j3 (i_2 : Int) (s_3 : List Int) : Option (Lp (Int × List Int) (Lp (Int × Int) (Bool))) :=
 some (.next (W (i_2 + 1), s_3))
def Ao.l2 (y_4 : (List Aa) × Ai) (count_1 : Int) (m_1 : Int) (i_2 : Int) (s_2 : List Int) : Option (Lp (Int × List Int) (Lp (Int × Int) (Bool))) :=
 cond (decide (i_2 < 6))
  ((Kb .i64 m_1 i_2).bind fun q =>
  cond (decide ((Oa .i64 q 1) = 1))
   ((G8 8 s_2 ([i_2] : List Int)).bind fun l =>
   Ao.j3 i_2 l)
   (Ao.j3 i_2 s_2))
  (up (
   (Da 6 y_4.1 s_2).bind fun y_6 =>
   cond (y_6.1)
    (Ao.j4 m_1 (W (count_1 + 1)))
    (Ao.j4 m_1 count_1)))
def Ao.j8 (x131_7 : Int) (x150_8 : Bool) : Option (Lp (Int) (Lp (Int) (Bool))) :=
 cond (x150_8)
  (up (up (some false)))
  (some (.next (W (x131_7 + 1))))
def Ao.l7 (y_4 : (List Aa) × Ai) (x79_5 : Int) (e : (List Int)) (y_8 : (List Int) × Int) (x131_7 : Int) : Option (Lp (Int) (Lp (Int) (Bool))) :=
 cond (decide (x131_7 < (y_8.1.length : Int)))
  ((Bz y_8.1 x131_7).bind fun e_2 =>
  (Bg e e_2 true).bind fun y_10 =>
  (C8 6 y_4.1 y_10).bind fun y_11 =>
  cond (!decide (y_11.2 = 0))
   (Ao.j8 x131_7 true)
   ((Fo y_11.1 e_2).bind fun y_12 =>
   Ao.j8 x131_7 (!y_12)))
  (up (
   some (.next (W (x79_5 + 1)))))
def Ao.j6 (y_4 : (List Aa) × Ai) (x79_5 : Int) (e : (List Int)) (y_8 : (List Int) × Int) (x128_6 : Bool) : Option (Lp (Int) (Bool)) :=
 cond (x128_6)
  (up (some false))
  (B2 (fun q' => Ao.l7 y_4 x79_5 e y_8 q') 0)
def Ao.j10 (x160_9 : Int) (y_14 : (List Int)) (x178_10 : Bool) : Option (Lp (List Int × Int) (Bool)) :=
 cond (x178_10)
  (up (some false))
  (some (.next (y_14, W (x160_9 + 1))))
def Ao.l9 (y_4 : (List Aa) × Ai) (y_13 : (List Int) × Int) (s_9 : List Int) (x160_9 : Int) : Option (Lp (List Int × Int) (Bool)) :=
 cond (decide (x160_9 < (y_13.1.length : Int)))
  ((Bz y_13.1 x160_9).bind fun e_3 =>
  (Bg s_9 e_3 true).bind fun y_14 =>
  (Da 6 y_4.1 y_14).bind fun y_15 =>
  cond (!y_15.1)
   (Ao.j10 x160_9 y_14 true)
   (Ao.j10 x160_9 y_14 (!decide (y_15.2 = 0))))
  (up (
   cond (decide (y_13.2 = 0))
    (cond (decide ((y_13.1.length : Int) = 6))
     (cond (decide ((s_9.length : Int) = 6))
      ((C5).bind fun y_16 =>
      some y_16)
      (some false))
     (some false))
    (some false)))
def Ao.l5 (y_4 : (List Aa) × Ai) (y_5 : (List (List Int)) × Int) (x79_5 : Int) : Option (Lp (Int) (Bool)) :=
 cond (decide (x79_5 < (y_5.1.length : Int)))
  ((Bz y_5.1 x79_5).bind fun e =>
  (Da 6 y_4.1 e).bind fun y_7 =>
  (D2 6 y_4.1 e).bind fun y_8 =>
  (C8 6 y_4.1 e).bind fun y_9 =>
  cond (!y_7.1)
   (Ao.j6 y_4 x79_5 e y_8 true)
   (cond (!decide (y_8.2 = 0))
    (Ao.j6 y_4 x79_5 e y_8 true)
    (cond (!decide (y_9.2 = 0))
     (Ao.j6 y_4 x79_5 e y_8 true)
     (cond (!decide ((decide ((y_8.1.length : Int) = 0)) = (decide ((e.length : Int) = 6))))
      (Ao.j6 y_4 x79_5 e y_8 true)
      (Ao.j6 y_4 x79_5 e y_8 (!decide ((decide ((y_9.1.length : Int) = 0)) = (decide ((e.length : Int) = 0)))))))))
  (up (
   (Ct 6 y_4.1).bind fun y_13 =>
   B2 (fun q' => Ao.l9 y_4 y_13 q'.1 q'.2) (([] : List Int), 0)))
def Ao.l1 (y_4 : (List Aa) × Ai) (y_5 : (List (List Int)) × Int) (count_1 : Int) (m_1 : Int) : Option (Lp (Int × Int) (Bool)) :=
 cond (decide (m_1 < 64))
  (B2 (fun q' => Ao.l2 y_4 count_1 m_1 q'.1 q'.2) (0, ([] : List Int)))
  (up (
   cond (!decide (count_1 = (y_5.1.length : Int)))
    (some false)
    (B2 (fun q' => Ao.l5 y_4 y_5 q') 0)))
def Ao (t : (List Int)) : Option (Bool) :=
 (D9 t).bind fun y =>
 cond (!y)
  ((C5).bind fun y_2 =>
  some y_2)
  ((Gl t).bind fun y_3 =>
  (B9 y_3 6).bind fun y_4 =>
  (Be 6 y_4.1).bind fun y_5 =>
  cond (!decide (y_5.2 = 0))
   (some false)
   (B2 (fun q' => Ao.l1 y_4 y_5 q'.1 q'.2) (0, 0)))
def Gx (a : (List Int)) (b : (List Int)) : Option (Bool) :=
 (Hk a b).bind fun y =>
 some y
def Eo.l1 (l : (List (List Int))) (s : (List Int)) (x9_1 : Int) : Option (Lp (Int) (Bool)) :=
 cond (decide (x9_1 < (l.length : Int)))
  ((Bz l x9_1).bind fun e =>
  (Gx e s).bind fun y =>
  cond (y)
   (up (some true))
   (some (.next (W (x9_1 + 1)))))
  (up (
   some false))
def Eo (l : (List (List Int))) (s : (List Int)) : Option (Bool) :=
 B2 (fun q' => Eo.l1 l s q') 0
def Az.j5 (x56_1 : Int) (want_5 : List (List Int)) : Option (Lp (Int × List (List Int)) (Bool)) :=
 some (.next (W (x56_1 + 1), want_5))
def Az.j3 (x62_2 : Int) (y_3_2 : List Int) : Option (Lp (Int × List Int) (Lp (Int × List (List Int)) (Bool))) :=
 some (.next (W (x62_2 + 1), y_3_2))
def Az.l2 (y_5 : (List Int) × Ai) (x56_1 : Int) (want_1 : List (List Int)) (e : (List Int)) (x62_2 : Int) (y_2_2 : List Int) : Option (Lp (Int × List Int) (Lp (Int × List (List Int)) (Bool))) :=
 cond (decide (x62_2 < (y_5.1.length : Int)))
  ((Bz y_5.1 x62_2).bind fun e_2 =>
  (Fo e e_2).bind fun y_9 =>
  cond (y_9)
   ((G8 8 y_2_2 ([x62_2] : List Int)).bind fun l =>
   Az.j3 x62_2 l)
   (Az.j3 x62_2 y_2_2))
  (up (
   (Eo want_1 y_2_2).bind fun y_10 =>
   cond (!y_10)
    ((G8 24 want_1 ([y_2_2] : List (List Int))).bind fun l_2 =>
    Az.j5 x56_1 l_2)
    (Az.j5 x56_1 want_1)))
def Az.l6 (y_7 : (List (List Int)) × Int) (want_1 : List (List Int)) (x86_6 : Int) : Option (Lp (Int) (Bool)) :=
 cond (decide (x86_6 < (want_1.length : Int)))
  ((Bz want_1 x86_6).bind fun e_3 =>
  (Eo y_7.1 e_3).bind fun y_11 =>
  cond (!y_11)
   (up (some false))
   (some (.next (W (x86_6 + 1)))))
  (up (
   cond (decide ((want_1.length : Int) = (y_7.1.length : Int)))
    ((C5).bind fun y_12 =>
    some y_12)
    (some false)))
def Az.l1 (y_5 : (List Int) × Ai) (y_7 : (List (List Int)) × Int) (y_8 : (List (List Int)) × Int) (x56_1 : Int) (want_1 : List (List Int)) : Option (Lp (Int × List (List Int)) (Bool)) :=
 cond (decide (x56_1 < (y_8.1.length : Int)))
  ((Bz y_8.1 x56_1).bind fun e =>
  B2 (fun q' => Az.l2 y_5 x56_1 want_1 e q'.1 q'.2) (0, ([] : List Int)))
  (up (
   B2 (fun q' => Az.l6 y_7 want_1 q') 0))
def Az (t : (List Int)) : Option (Bool) :=
 (D9 t).bind fun y =>
 cond (!y)
  ((C5).bind fun y_2 =>
  some y_2)
  ((Gl t).bind fun y_3 =>
  (B9 y_3 6).bind fun y_4 =>
  (De y_4.2 6).bind fun y_5 =>
  (Bx 6 y_4.1 y_5.1).bind fun y_6 =>
  (Be (y_5.1.length : Int) y_6.1).bind fun y_7 =>
  (Be 6 y_4.1).bind fun y_8 =>
  cond (!decide ((W ((W (y_6.2 + y_7.2)) + y_8.2)) = 0))
   (some false)
   (B2 (fun q' => Az.l1 y_5 y_7 y_8 q'.1 q'.2) (0, ([] : List (List Int)))))
def D3.l1 (l : (List Aa)) (r' : Aa) (x9_1 : Int) : Option (Lp (Int) (Bool)) :=
 cond (decide (x9_1 < (l.length : Int)))
  ((Bz l x9_1).bind fun e =>
  cond (decide (e = r'))
   (up (some true))
   (some (.next (W (x9_1 + 1)))))
  (up (
   some false))
def D3 (l : (List Aa)) (r' : Aa) : Option (Bool) :=
 B2 (fun q' => D3.l1 l r' q') 0
def A4.j3 (x51_2 : Int) (x69_3 : Bool) : Option (Lp (Int) (Lp (Int) (Bool))) :=
 cond (x69_3)
  (up (up (some false)))
  (some (.next (W (x51_2 + 1))))
def A4.l2 (y_5 : (List Aa) × Int) (x34_1 : Int) (e : Aa) (x51_2 : Int) : Option (Lp (Int) (Lp (Int) (Bool))) :=
 cond (decide (x51_2 < (y_5.1.length : Int)))
  ((Bz y_5.1 x51_2).bind fun e_2 =>
  cond (decide (e.Then = e_2.First))
   ((D3 y_5.1 (Aa.mk e.First e_2.Then)).bind fun y_8 =>
   A4.j3 x51_2 (!y_8))
   (A4.j3 x51_2 false))
  (up (
   some (.next (W (x34_1 + 1)))))
def A4.j4 (y_10 : Int) (want_4 : Int) : Option (Bool) :=
 cond (decide (y_10 = want_4))
  ((C5).bind fun y_12 =>
  some y_12)
  (some false)
def A4.l1 (a : UInt8) (b : UInt8) (y_4 : (List Aa) × Ai) (y_5 : (List Aa) × Int) (x34_1 : Int) : Option (Lp (Int) (Bool)) :=
 cond (decide (x34_1 < (y_5.1.length : Int)))
  ((Bz y_5.1 x34_1).bind fun e =>
  (B5 y_4.1 ([(Aa.mk e.Then e.First)] : List Aa)).bind fun y_6 =>
  (Ek 7 y_6).bind fun y_7 =>
  cond (!decide (y_7 = 45))
   (up (some false))
   (B2 (fun q' => A4.l2 y_5 x34_1 e q') 0))
  (up (
   (Xd a (7 : UInt8)).bind fun q =>
   (Xd b (7 : UInt8)).bind fun q_2 =>
   (B5 y_4.1 ([(Aa.mk (q.toNat : Int) (q_2.toNat : Int))] : List Aa)).bind fun y_9 =>
   (Ek 7 y_9).bind fun y_10 =>
   cond (decide ((q.toNat : Int) = (q_2.toNat : Int)))
    (A4.j4 y_10 44)
    ((D3 y_5.1 (Aa.mk (q_2.toNat : Int) (q.toNat : Int))).bind fun y_11 =>
    cond (y_11)
     (A4.j4 y_10 45)
     (A4.j4 y_10 0))))
def A4 (t : (List Int)) (a : UInt8) (b : UInt8) : Option (Bool) :=
 (D9 t).bind fun y =>
 cond (!y)
  ((C5).bind fun y_2 =>
  some y_2)
  ((Gl t).bind fun y_3 =>
  (B9 y_3 7).bind fun y_4 =>
  (B4 7 y_4.1).bind fun y_5 =>
  cond (!decide (y_5.2 = 0))
   (some false)
   (B2 (fun q' => A4.l1 a b y_4 y_5 q') 0))
def A6.j3 (s_2 : List Int) (x43_2 : Int) (e : Int) (x66_3 : Bool) : Option (Lp (List Int × Int) (Bool)) :=
 cond (x66_3)
  (up (some false))
  ((Bg s_2 e true).bind fun y_7 =>
  some (.next (y_7, W (x43_2 + 1))))
def A6.l4 (y_9 : (List (List Int)) × Int) (y_10 : (List (List Int)) × Int) (x101_4 : Int) : Option (Lp (Int) (Bool)) :=
 cond (decide (x101_4 < (y_10.1.length : Int)))
  ((Bz y_10.1 x101_4).bind fun e_3 =>
  (Eo y_9.1 e_3).bind fun y_13 =>
  cond (!y_13)
   (up (some false))
   (some (.next (W (x101_4 + 1)))))
  (up (
   cond (decide (y_9.2 = 0))
    (cond (decide (y_10.2 = 0))
     (cond (decide ((y_10.1.length : Int) <= (y_9.1.length : Int)))
      (cond (decide (7 <= (y_10.1.length : Int)))
       ((C5).bind fun y_14 =>
       some y_14)
       (some false))
      (some false))
     (some false))
    (some false)))
def A6.l2 (a : UInt8) (b : UInt8) (y_4 : (List Aa) × Ai) (y_5 : (List Int) × Int) (s_2 : List Int) (x43_2 : Int) : Option (Lp (List Int × Int) (Bool)) :=
 cond (decide (x43_2 < (y_5.1.length : Int)))
  ((Bz y_5.1 x43_2).bind fun e =>
  (D2 6 y_4.1 s_2).bind fun y_6 =>
  cond (!decide (y_6.2 = 0))
   (A6.j3 s_2 x43_2 e true)
   (cond (decide ((y_6.1.length : Int) = 0))
    (A6.j3 s_2 x43_2 e true)
    ((Bz y_6.1 0).bind fun e_2 =>
    A6.j3 s_2 x43_2 e (!decide (e_2 = e)))))
  (up (
   (Xd a (6 : UInt8)).bind fun q =>
   (Xd b (6 : UInt8)).bind fun q_2 =>
   (B5 y_4.1 ([(Aa.mk (q.toNat : Int) (q_2.toNat : Int))] : List Aa)).bind fun y_8 =>
   (Be 6 y_4.1).bind fun y_9 =>
   (Be 6 y_8).bind fun y_10 =>
   (Ek 6 y_8).bind fun y_11 =>
   cond (!decide (y_11 = 0))
    (cond (!decide (y_10.2 = 0))
     ((C5).bind fun y_12 =>
     some y_12)
     (some false))
    (B2 (fun q' => A6.l4 y_9 y_10 q') 0)))
def A6.j1 (a : UInt8) (b : UInt8) (y_4 : (List Aa) × Ai) (y_5 : (List Int) × Int) (x40_1 : Bool) : Option (Bool) :=
 cond (x40_1)
  (some false)
  (B2 (fun q' => A6.l2 a b y_4 y_5 q'.1 q'.2) (([] : List Int), 0))
def A6 (t : (List Int)) (a : UInt8) (b : UInt8) : Option (Bool) :=
 (D9 t).bind fun y =>
 cond (!y)
  ((C5).bind fun y_2 =>
  some y_2)
  ((Gl t).bind fun y_3 =>
  (B9 y_3 6).bind fun y_4 =>
  (Ct 6 y_4.1).bind fun y_5 =>
  cond (!decide (y_5.2 = 0))
   (A6.j1 a b y_4 y_5 true)
   (A6.j1 a b y_4 y_5 (!decide ((y_5.1.length : Int) = 6))))
end
end Go.Proofs.YtopkgllcjbpdeaaDoor
