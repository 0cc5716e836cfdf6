import Derived.Test.YtopkgllcjbpdeaaDoorEG
import Derived.Test.YtopkgllcjbpdeaaDoorEM
import Derived.Test.YtopkgllcjbpdeaaDoorEK
import Derived.Test.YtopkgllcjbpdeaaDoorP1
import Derived.Test.YtopkgllcjbpdeaaDoorProg
set_option linter.unusedVariables false
set_option linter.unusedSimpArgs false
set_option maxRecDepth 100000
set_option maxHeartbeats 1600000
namespace Go.Proofs.YtopkgllcjbpdeaaDoor
open Go.RowKit
theorem gM {j : Nat} {e : UInt8} (h : aB[j]? = some e) : ([.int .u8 0, .int .u8 1, .int .u8 28, .int .u8 2, .int .u8 29, .int .u8 14, .int .u8 24, .int .u8 3, .int .u8 30, .int .u8 22, .int .u8 20, .int .u8 15, .int .u8 25, .int .u8 17, .int .u8 4, .int .u8 8, .int .u8 31, .int .u8 27, .int .u8 13, .int .u8 23, .int .u8 21, .int .u8 19, .int .u8 16, .int .u8 7, .int .u8 26, .int .u8 12, .int .u8 18, .int .u8 6, .int .u8 11, .int .u8 5, .int .u8 10, .int .u8 9] : List C)[j]? = some (.int .u8 (e.toNat : Int)) := by
 have h1 : ([.int .u8 0, .int .u8 1, .int .u8 28, .int .u8 2, .int .u8 29, .int .u8 14, .int .u8 24, .int .u8 3, .int .u8 30, .int .u8 22, .int .u8 20, .int .u8 15, .int .u8 25, .int .u8 17, .int .u8 4, .int .u8 8, .int .u8 31, .int .u8 27, .int .u8 13, .int .u8 23, .int .u8 21, .int .u8 19, .int .u8 16, .int .u8 7, .int .u8 26, .int .u8 12, .int .u8 18, .int .u8 6, .int .u8 11, .int .u8 5, .int .u8 10, .int .u8 9] : List C) = aB.map fun x => C.int .u8 (x.toNat : Int) := rfl
 rw [h1, List.getElem?_map, h]
 rfl
abbrev Aa.dv (x : Aa) : List DV := [.val (.int .i64 x.First), .val (.int .i64 x.Then)]
def Aa.enc (x : Aa) : List C := [.int .i64 x.First, .int .i64 x.Then]
theorem Aa.enc_len (x : Aa) : (Aa.enc x).length = 2 := rfl
abbrev Ai.dv (x : Ai) : List DV := [.sl 1 (An eI x.L), .val (.int .i64 x.At)]
def Ai.enc (x : Ai) : List C := [.sl 1 (An eI x.L), .int .i64 x.At]
theorem Ai.enc_len (x : Ai) : (Ai.enc x).length = 2 := rfl
abbrev Ap.dv (x : Ap) : List DV := [.val (.int .i64 x.n), .sl 1 (An (eK .u32) x.before), .sl 1 (An (eK .u32) x.after)]
def Ap.enc (x : Ap) : List C := [.int .i64 x.n, .sl 1 (An (eK .u32) x.before), .sl 1 (An (eK .u32) x.after)]
theorem Ap.enc_len (x : Ap) : (Ap.enc x).length = 3 := rfl
theorem Ve : Tryd.prog.underlying 3 = some (.int .i64) := by kernel_rfl
theorem lA : Tryd.prog.underlying 4 = some (.bool) := by kernel_rfl
theorem Zq : Tryd.prog.underlying 5 = some (.int .u8) := by kernel_rfl
theorem sE : Tryd.prog.underlying 9 = some (.string) := by kernel_rfl
theorem Mn : Tryd.prog.underlying 33 = some (.struct ((match Tryd.prog.underlying 33 with | some (.struct f) => f | _ => #[]))) := by kernel_rfl
theorem gC : Tryd.prog.underlying 61 = some (.struct ((match Tryd.prog.underlying 61 with | some (.struct f) => f | _ => #[]))) := by kernel_rfl
theorem lY : Tryd.prog.underlying 68 = some (.int .u32) := by kernel_rfl
theorem bL : Tryd.prog.underlying 71 = some (.struct ((match Tryd.prog.underlying 71 with | some (.struct f) => f | _ => #[]))) := by kernel_rfl
theorem Ze : Tryd.prog.underlying 100 = some (.int .u64) := by kernel_rfl
theorem mS : Tryd.prog.underlying 101 = some (.array 32 5) := by kernel_rfl
theorem nP : Tryd.prog.underlying 112 = some (.int .u64) := by kernel_rfl
theorem mE : Tryd.prog.underlying 113 = some (.int .u64) := by kernel_rfl
theorem mU : Fd Tryd.prog 33 0 0 3 := ⟨_, (match Tryd.prog.underlying 33 with | some (.struct f) => f | _ => #[])[0]!, Mn, by kernel_rfl, by kernel_rfl, by kernel_rfl⟩
theorem oN : Fd Tryd.prog 33 1 1 3 := ⟨_, (match Tryd.prog.underlying 33 with | some (.struct f) => f | _ => #[])[1]!, Mn, by kernel_rfl, by kernel_rfl, by kernel_rfl⟩
theorem nC : Fd Tryd.prog 61 0 0 22 := ⟨_, (match Tryd.prog.underlying 61 with | some (.struct f) => f | _ => #[])[0]!, gC, by kernel_rfl, by kernel_rfl, by kernel_rfl⟩
theorem mG : Fd Tryd.prog 61 1 1 3 := ⟨_, (match Tryd.prog.underlying 61 with | some (.struct f) => f | _ => #[])[1]!, gC, by kernel_rfl, by kernel_rfl, by kernel_rfl⟩
theorem oA : Fd Tryd.prog 71 0 0 3 := ⟨_, (match Tryd.prog.underlying 71 with | some (.struct f) => f | _ => #[])[0]!, bL, by kernel_rfl, by kernel_rfl, by kernel_rfl⟩
theorem nM : Fd Tryd.prog 71 1 1 69 := ⟨_, (match Tryd.prog.underlying 71 with | some (.struct f) => f | _ => #[])[1]!, bL, by kernel_rfl, by kernel_rfl, by kernel_rfl⟩
theorem mV : Fd Tryd.prog 71 2 2 69 := ⟨_, (match Tryd.prog.underlying 71 with | some (.struct f) => f | _ => #[])[2]!, bL, by kernel_rfl, by kernel_rfl, by kernel_rfl⟩
theorem Tt : ((match Tryd.prog.underlying 33 with | some (.struct f) => f | _ => #[]) : Array Field).toList.map (fun f => (Tryd.prog.info? f.type).map fun i => (f.offset, i.size)) = [(0, 1), (1, 1)].map some := by kernel_rfl
theorem rE : ((match Tryd.prog.underlying 61 with | some (.struct f) => f | _ => #[]) : Array Field).toList.map (fun f => (Tryd.prog.info? f.type).map fun i => (f.offset, i.size)) = [(0, 1), (1, 1)].map some := by kernel_rfl
theorem sD : ((match Tryd.prog.underlying 71 with | some (.struct f) => f | _ => #[]) : Array Field).toList.map (fun f => (Tryd.prog.info? f.type).map fun i => (f.offset, i.size)) = [(0, 1), (1, 1), (2, 1)].map some := by kernel_rfl
theorem nR : F4 Tryd.prog 22 3 1 8 := F4.mk' (z := (.int .i64 0)) (by kernel_rfl) (by kernel_rfl) rfl (by decide) (by decide)
theorem Md : F4 Tryd.prog 25 33 2 16 := F4.mk' (z := (.agg #[.int .i64 0, .int .i64 0])) (by kernel_rfl) (by kernel_rfl) rfl (by decide) (by decide)
theorem Ka : F4 Tryd.prog 38 3 1 8 := F4.mk' (z := (.int .i64 0)) (by kernel_rfl) (by kernel_rfl) rfl (by decide) (by decide)
theorem O2 : F4 Tryd.prog 41 38 1 24 := F4.mk' (z := (.slice none 0 0)) (by kernel_rfl) (by kernel_rfl) rfl (by decide) (by decide)
theorem pK : F4 Tryd.prog 53 25 1 24 := F4.mk' (z := (.slice none 0 0)) (by kernel_rfl) (by kernel_rfl) rfl (by decide) (by decide)
theorem cI : F4 Tryd.prog 69 68 1 4 := F4.mk' (z := (.int .u32 0)) (by kernel_rfl) (by kernel_rfl) rfl (by decide) (by decide)
theorem Zx : F4 Tryd.prog 87 89 1 24 := F4.mk' (z := (.slice none 0 0)) (by kernel_rfl) (by kernel_rfl) rfl (by decide) (by decide)
theorem cV : F4 Tryd.prog 89 4 1 1 := F4.mk' (z := (.bool false)) (by kernel_rfl) (by kernel_rfl) rfl (by decide) (by decide)
theorem qI : Ty Tryd.prog 113 false 1 := ⟨by kernel_rfl, by kernel_rfl⟩
theorem rT : Ty Tryd.prog 22 false 1 := ⟨by kernel_rfl, by kernel_rfl⟩
theorem qS : Ty Tryd.prog 25 false 1 := ⟨by kernel_rfl, by kernel_rfl⟩
theorem sL : Ty Tryd.prog 3 false 1 := ⟨by kernel_rfl, by kernel_rfl⟩
theorem sJ : Ty Tryd.prog 33 true 2 := ⟨by kernel_rfl, by kernel_rfl⟩
theorem Sq : Ty Tryd.prog 38 false 1 := ⟨by kernel_rfl, by kernel_rfl⟩
theorem pS : Ty Tryd.prog 4 false 1 := ⟨by kernel_rfl, by kernel_rfl⟩
theorem rS : Ty Tryd.prog 5 false 1 := ⟨by kernel_rfl, by kernel_rfl⟩
theorem sB : Ty Tryd.prog 62 false 1 := ⟨by kernel_rfl, by kernel_rfl⟩
theorem Cu : Ty Tryd.prog 68 false 1 := ⟨by kernel_rfl, by kernel_rfl⟩
theorem rH : Ty Tryd.prog 69 false 1 := ⟨by kernel_rfl, by kernel_rfl⟩
theorem rI : Ty Tryd.prog 77 false 1 := ⟨by kernel_rfl, by kernel_rfl⟩
theorem Wz : Ty Tryd.prog 89 false 1 := ⟨by kernel_rfl, by kernel_rfl⟩
theorem rU : Zt Tryd.prog 113 [.int .u64 0] := ⟨(.int .u64 0), by kernel_rfl, rfl, by decide⟩
theorem sP : Zt Tryd.prog 25 [.slice none 0 0] := ⟨(.slice none 0 0), by kernel_rfl, rfl, by decide⟩
theorem z3 : Zt Tryd.prog 3 [.int .i64 0] := ⟨(.int .i64 0), by kernel_rfl, rfl, by decide⟩
theorem Uv : Zt Tryd.prog 33 [.int .i64 0, .int .i64 0] := ⟨(.agg #[.int .i64 0, .int .i64 0]), by kernel_rfl, rfl, by decide⟩
theorem lN : Zt Tryd.prog 38 [.slice none 0 0] := ⟨(.slice none 0 0), by kernel_rfl, rfl, by decide⟩
theorem z4 : Zt Tryd.prog 4 [.bool false] := ⟨(.bool false), by kernel_rfl, rfl, by decide⟩
theorem sQ : Zt Tryd.prog 61 [.slice none 0 0, .int .i64 0] := ⟨(.agg #[.slice none 0 0, .int .i64 0]), by kernel_rfl, rfl, by decide⟩
theorem tE : Zt Tryd.prog 62 [.pointer none] := ⟨(.pointer none), by kernel_rfl, rfl, by decide⟩
theorem pX : Zt Tryd.prog 68 [.int .u32 0] := ⟨(.int .u32 0), by kernel_rfl, rfl, by decide⟩
theorem tG : Zt Tryd.prog 69 [.slice none 0 0] := ⟨(.slice none 0 0), by kernel_rfl, rfl, by decide⟩
theorem sS : Zt Tryd.prog 71 [.int .i64 0, .slice none 0 0, .slice none 0 0] := ⟨(.agg #[.int .i64 0, .slice none 0 0, .slice none 0 0]), by kernel_rfl, rfl, by decide⟩
theorem tB : Zt Tryd.prog 77 [.map none] := ⟨(.map none), by kernel_rfl, rfl, by decide⟩
theorem sM : Zt Tryd.prog 89 [.slice none 0 0] := ⟨(.slice none 0 0), by kernel_rfl, rfl, by decide⟩
theorem sA : Jz Tryd.prog 20 25 = [some 2] := by kernel_rfl
theorem aE : Jz Tryd.prog 20 3 = [none] := by kernel_rfl
theorem Vm : Jz Tryd.prog 20 33 = [none, none] := by kernel_rfl
theorem Zr : Jz Tryd.prog 20 38 = [some 1] := by kernel_rfl
theorem sW : Jz Tryd.prog 20 4 = [none] := by kernel_rfl
theorem G1 : Jz Tryd.prog 20 68 = [none] := by kernel_rfl
theorem qM : Tryd.prog.eqGuardType Tryd.prog.depth 33 = false := by kernel_rfl
theorem rP : Tryd.prog.underlying 33 = some (.struct (Tryd.prog.fieldsOf 33)) := by kernel_rfl
theorem rK : Tryd.prog.stoodInHeld 33 = false := by kernel_rfl
theorem pN (x y : Aa) (w : World) : (Op.equalIn 10000 33 (.agg #[.int .i64 x.First, .int .i64 x.Then]) (.agg #[.int .i64 y.First, .int .i64 y.Then])).run Tryd.prog w = .ok (decide (x = y)) w := by
 have u3 := Tryd.underlying3
 have a3 := Tryd.isAgg3
 have z3 := Tryd.sizeOf3
 rw [show (10000 : Nat) = 9999 + 1 from rfl, run_equalIn_agg w 9999 33 _ _ rP rK]
 simp only [Program.fieldsOf, Tryd.underlying33]
 go_simp
 rcases x with ⟨x0, x1⟩
 rcases y with ⟨y0, y1⟩
 by_cases h0 : x0 = y0 <;> by_cases h1 : x1 = y1 <;> simp [h0, h1]
theorem Tv (x y : Aa) {X Y : Operand} {tk : Nat} {yt ty : TypeId} {b1 b2 : Option LB} : Eb Tryd.prog tk (.binOp .eql 33 X Y yt) ty [(.agg [.val (.int .i64 x.First), .val (.int .i64 x.Then)], b1), (.agg [.val (.int .i64 y.First), .val (.int .i64 y.Then)], b2)] [] (v0 (.val (.bool (decide (x = y))))) :=
 .binOpA rfl rfl (fun _ _ => rfl) (fun w => by
  rw [Sem.run_bind, run_eqGuard_agg w _ 33 X Y _ _ qM]
  simp only [Result.andThen_ok, run_eql_struct]
  exact congrArg (fun r => Result.andThen r _) (pN x y w))
theorem Zz (x y : Aa) {X Y : Operand} {tk : Nat} {yt ty : TypeId} {b1 b2 : Option LB} : Eb Tryd.prog tk (.binOp .neq 33 X Y yt) ty [(.agg [.val (.int .i64 x.First), .val (.int .i64 x.Then)], b1), (.agg [.val (.int .i64 y.First), .val (.int .i64 y.Then)], b2)] [] (v0 (.val (.bool (!decide (x = y))))) :=
 .binOpA rfl rfl (fun _ _ => rfl) (fun w => by
  rw [Sem.run_bind, run_eqGuard_agg w _ 33 X Y _ _ qM]
  simp only [Result.andThen_ok, run_neq_struct]
  exact congrArg (fun r => Result.andThen r _) (pN x y w))
theorem fK : Tryd.prog.underlying 77 = some (.map 68 4) := by kernel_rfl
theorem tD (w : World) : (zeroValue 4).run Tryd.prog w = .ok (.bool false) w := qD (by kernel_rfl) w
instance : iT Tryd.prog 33 0 0 3 := ⟨mU⟩
instance : iT Tryd.prog 33 1 1 3 := ⟨oN⟩
instance : iT Tryd.prog 61 0 0 22 := ⟨nC⟩
instance : iT Tryd.prog 61 1 1 3 := ⟨mG⟩
instance : iT Tryd.prog 71 0 0 3 := ⟨oA⟩
instance : iT Tryd.prog 71 1 1 69 := ⟨nM⟩
instance : iT Tryd.prog 71 2 2 69 := ⟨mV⟩
instance : dS Tryd.prog 22 3 1 8 := ⟨nR⟩
instance : dS Tryd.prog 25 33 2 16 := ⟨Md⟩
instance : dS Tryd.prog 38 3 1 8 := ⟨Ka⟩
instance : dS Tryd.prog 41 38 1 24 := ⟨O2⟩
instance : dS Tryd.prog 53 25 1 24 := ⟨pK⟩
instance : dS Tryd.prog 69 68 1 4 := ⟨cI⟩
instance : dS Tryd.prog 87 89 1 24 := ⟨Zx⟩
instance : dS Tryd.prog 89 4 1 1 := ⟨cV⟩
instance : Up Tryd.prog 113 false 1 := ⟨qI⟩
instance : Up Tryd.prog 22 false 1 := ⟨rT⟩
instance : Up Tryd.prog 25 false 1 := ⟨qS⟩
instance : Up Tryd.prog 3 false 1 := ⟨sL⟩
instance : Up Tryd.prog 33 true 2 := ⟨sJ⟩
instance : Up Tryd.prog 38 false 1 := ⟨Sq⟩
instance : Up Tryd.prog 4 false 1 := ⟨pS⟩
instance : Up Tryd.prog 5 false 1 := ⟨rS⟩
instance : Up Tryd.prog 62 false 1 := ⟨sB⟩
instance : Up Tryd.prog 68 false 1 := ⟨Cu⟩
instance : Up Tryd.prog 69 false 1 := ⟨rH⟩
instance : Up Tryd.prog 77 false 1 := ⟨rI⟩
instance : Up Tryd.prog 89 false 1 := ⟨Wz⟩
instance : bP Tryd.prog 113 [.int .u64 0] := ⟨rU⟩
instance : bP Tryd.prog 25 [.slice none 0 0] := ⟨sP⟩
instance : bP Tryd.prog 3 [.int .i64 0] := ⟨z3⟩
instance : bP Tryd.prog 33 [.int .i64 0, .int .i64 0] := ⟨Uv⟩
instance : bP Tryd.prog 38 [.slice none 0 0] := ⟨lN⟩
instance : bP Tryd.prog 4 [.bool false] := ⟨z4⟩
instance : bP Tryd.prog 61 [.slice none 0 0, .int .i64 0] := ⟨sQ⟩
instance : bP Tryd.prog 62 [.pointer none] := ⟨tE⟩
instance : bP Tryd.prog 68 [.int .u32 0] := ⟨pX⟩
instance : bP Tryd.prog 69 [.slice none 0 0] := ⟨tG⟩
instance : bP Tryd.prog 71 [.int .i64 0, .slice none 0 0, .slice none 0 0] := ⟨sS⟩
instance : bP Tryd.prog 77 [.map none] := ⟨tB⟩
instance : bP Tryd.prog 89 [.slice none 0 0] := ⟨sM⟩
instance : Zk Aa.enc 2 := ⟨Aa.enc_len⟩
instance : Zk Ai.enc 2 := ⟨Ai.enc_len⟩
instance : Zk Ap.enc 3 := ⟨Ap.enc_len⟩
end Go.Proofs.YtopkgllcjbpdeaaDoor
