/- Encodings; what is known of types. -/
import Derived.Test.YtkpcbnnlefcebaaEG
import Derived.Test.YtkpcbnnlefcebaaP1
import Derived.Test.YtkpcbnnlefcebaaProg
set_option linter.unusedVariables false
set_option linter.unusedSimpArgs false
set_option maxRecDepth 100000
set_option maxHeartbeats 1600000
namespace Go.Proofs.Ytkpcbnnlefcebaa
open Go.RowKit
abbrev cipherplanmake_Dice.dv (x : cipherplanmake_Dice) : List DV := [.sl 1 (encL eI x.L), .val (.int .i64 x.At)]
def cipherplanmake_Dice.enc (x : cipherplanmake_Dice) : List C := [.sl 1 (encL eI x.L), .int .i64 x.At]
theorem cipherplanmake_Dice.enc_len (x : cipherplanmake_Dice) : (cipherplanmake_Dice.enc x).length = 2 := rfl
abbrev api_Required.dv (x : api_Required) : List DV := [.val (.int .i64 x.First), .val (.int .i64 x.Then)]
def api_Required.enc (x : api_Required) : List C := [.int .i64 x.First, .int .i64 x.Then]
theorem api_Required.enc_len (x : api_Required) : (api_Required.enc x).length = 2 := rfl
abbrev api_Use.dv (x : api_Use) : List DV := [.val (.int .i64 x.Alg), .val (.int .i64 x.Bits)]
def api_Use.enc (x : api_Use) : List C := [.int .i64 x.Alg, .int .i64 x.Bits]
theorem api_Use.enc_len (x : api_Use) : (api_Use.enc x).length = 2 := rfl
abbrev api_Seal.dv (x : api_Seal) : List DV := [.val (.int .i64 x.Key), .val (.int .i64 x.Sum)]
def api_Seal.enc (x : api_Seal) : List C := [.int .i64 x.Key, .int .i64 x.Sum]
theorem api_Seal.enc_len (x : api_Seal) : (api_Seal.enc x).length = 2 := rfl
abbrev api_Certificate.dv (x : api_Certificate) : List DV := [.val (.int .i64 x.Serial), .val (.string x.Issuer), .val (.string x.Subject), .val (.int .i64 x.Key.Alg), .val (.int .i64 x.Key.Bits), .val (.int .i64 x.KeyId), .val (.int .i64 x.Hash.Alg), .val (.int .i64 x.Hash.Bits), .val (.int .i64 x.From), .val (.int .i64 x.To), .val (.bool x.Authority), .val (.int .i64 x.Path), .sl 1 (encL eS x.Names), .val (.int .i64 x.Seal.Key), .val (.int .i64 x.Seal.Sum)]
def api_Certificate.enc (x : api_Certificate) : List C := [.int .i64 x.Serial, .str x.Issuer, .str x.Subject, .int .i64 x.Key.Alg, .int .i64 x.Key.Bits, .int .i64 x.KeyId, .int .i64 x.Hash.Alg, .int .i64 x.Hash.Bits, .int .i64 x.From, .int .i64 x.To, .bool x.Authority, .int .i64 x.Path, .sl 1 (encL eS x.Names), .int .i64 x.Seal.Key, .int .i64 x.Seal.Sum]
theorem api_Certificate.enc_len (x : api_Certificate) : (api_Certificate.enc x).length = 15 := rfl
abbrev api_Identity.dv (x : api_Identity) : List DV := [.val (.int .i64 x.Key.Alg), .val (.int .i64 x.Key.Bits), .val (.int .i64 x.KeyId), .sl 15 (encL api_Certificate.enc x.Chain)]
def api_Identity.enc (x : api_Identity) : List C := [.int .i64 x.Key.Alg, .int .i64 x.Key.Bits, .int .i64 x.KeyId, .sl 15 (encL api_Certificate.enc x.Chain)]
theorem api_Identity.enc_len (x : api_Identity) : (api_Identity.enc x).length = 4 := rfl
abbrev api_Endpoint.dv (x : api_Endpoint) : List DV := [.val (.string x.Name), .val (.int .i64 x.Least), .val (.int .i64 x.Most), .sl 1 (encL eI x.Suites), .val (.bool x.OwnOrder), .sl 4 (encL api_Identity.enc x.Identities), .sl 1 (encL eI x.Anchors), .sl 1 (encL eI x.Hashes), .val (.bool x.Fallback)]
def api_Endpoint.enc (x : api_Endpoint) : List C := [.str x.Name, .int .i64 x.Least, .int .i64 x.Most, .sl 1 (encL eI x.Suites), .bool x.OwnOrder, .sl 4 (encL api_Identity.enc x.Identities), .sl 1 (encL eI x.Anchors), .sl 1 (encL eI x.Hashes), .bool x.Fallback]
theorem api_Endpoint.enc_len (x : api_Endpoint) : (api_Endpoint.enc x).length = 9 := rfl
abbrev api_Change.dv (x : api_Change) : List DV := [.val (.int .i64 x.Endpoint), .val (.int .i64 x.Kind), .val (.int .i64 x.Number), .val (.int .i64 x.At), .val (.int .i64 x.Identity.Key.Alg), .val (.int .i64 x.Identity.Key.Bits), .val (.int .i64 x.Identity.KeyId), .sl 15 (encL api_Certificate.enc x.Identity.Chain)]
def api_Change.enc (x : api_Change) : List C := [.int .i64 x.Endpoint, .int .i64 x.Kind, .int .i64 x.Number, .int .i64 x.At, .int .i64 x.Identity.Key.Alg, .int .i64 x.Identity.Key.Bits, .int .i64 x.Identity.KeyId, .sl 15 (encL api_Certificate.enc x.Identity.Chain)]
theorem api_Change.enc_len (x : api_Change) : (api_Change.enc x).length = 8 := rfl
abbrev need_required.dv (x : need_required) : List DV := [.val (.int .i64 x.First), .val (.int .i64 x.Then)]
def need_required.enc (x : need_required) : List C := [.int .i64 x.First, .int .i64 x.Then]
theorem need_required.enc_len (x : need_required) : (need_required.enc x).length = 2 := rfl
theorem und3 : Try.prog.underlying 3 = some (.int .i64) := by kernel_rfl
theorem und4 : Try.prog.underlying 4 = some (.bool) := by kernel_rfl
theorem und5 : Try.prog.underlying 5 = some (.int .u8) := by kernel_rfl
theorem und9 : Try.prog.underlying 9 = some (.string) := by kernel_rfl
theorem und42 : Try.prog.underlying 42 = some (.struct ((match Try.prog.underlying 42 with | some (.struct f) => f | _ => #[]))) := by kernel_rfl
theorem und49 : Try.prog.underlying 49 = some (.struct ((match Try.prog.underlying 49 with | some (.struct f) => f | _ => #[]))) := by kernel_rfl
theorem und51 : Try.prog.underlying 51 = some (.struct ((match Try.prog.underlying 51 with | some (.struct f) => f | _ => #[]))) := by kernel_rfl
theorem und54 : Try.prog.underlying 54 = some (.struct ((match Try.prog.underlying 54 with | some (.struct f) => f | _ => #[]))) := by kernel_rfl
theorem und63 : Try.prog.underlying 63 = some (.struct ((match Try.prog.underlying 63 with | some (.struct f) => f | _ => #[]))) := by kernel_rfl
theorem und72 : Try.prog.underlying 72 = some (.int .u64) := by kernel_rfl
theorem und85 : Try.prog.underlying 85 = some (.int .u64) := by kernel_rfl
theorem und87 : Try.prog.underlying 87 = some (.int .u64) := by kernel_rfl
theorem fd42_1 : Fd Try.prog 42 1 1 3 := ⟨_, (match Try.prog.underlying 42 with | some (.struct f) => f | _ => #[])[1]!, und42, by kernel_rfl, by kernel_rfl, by kernel_rfl⟩
theorem fd42_2 : Fd Try.prog 42 2 2 3 := ⟨_, (match Try.prog.underlying 42 with | some (.struct f) => f | _ => #[])[2]!, und42, by kernel_rfl, by kernel_rfl, by kernel_rfl⟩
theorem fd49_1 : Fd Try.prog 49 1 1 3 := ⟨_, (match Try.prog.underlying 49 with | some (.struct f) => f | _ => #[])[1]!, und49, by kernel_rfl, by kernel_rfl, by kernel_rfl⟩
theorem fd49_2 : Fd Try.prog 49 2 2 3 := ⟨_, (match Try.prog.underlying 49 with | some (.struct f) => f | _ => #[])[2]!, und49, by kernel_rfl, by kernel_rfl, by kernel_rfl⟩
theorem fd51_0 : Fd Try.prog 51 0 0 22 := ⟨_, (match Try.prog.underlying 51 with | some (.struct f) => f | _ => #[])[0]!, und51, by kernel_rfl, by kernel_rfl, by kernel_rfl⟩
theorem fd51_1 : Fd Try.prog 51 1 1 3 := ⟨_, (match Try.prog.underlying 51 with | some (.struct f) => f | _ => #[])[1]!, und51, by kernel_rfl, by kernel_rfl, by kernel_rfl⟩
theorem fd54_0 : Fd Try.prog 54 0 0 3 := ⟨_, (match Try.prog.underlying 54 with | some (.struct f) => f | _ => #[])[0]!, und54, by kernel_rfl, by kernel_rfl, by kernel_rfl⟩
theorem fd54_1 : Fd Try.prog 54 1 1 3 := ⟨_, (match Try.prog.underlying 54 with | some (.struct f) => f | _ => #[])[1]!, und54, by kernel_rfl, by kernel_rfl, by kernel_rfl⟩
theorem fd63_0 : Fd Try.prog 63 0 0 3 := ⟨_, (match Try.prog.underlying 63 with | some (.struct f) => f | _ => #[])[0]!, und63, by kernel_rfl, by kernel_rfl, by kernel_rfl⟩
theorem fd63_1 : Fd Try.prog 63 1 1 3 := ⟨_, (match Try.prog.underlying 63 with | some (.struct f) => f | _ => #[])[1]!, und63, by kernel_rfl, by kernel_rfl, by kernel_rfl⟩
theorem pl42 : ((match Try.prog.underlying 42 with | some (.struct f) => f | _ => #[]) : Array Field).toList.map (fun f => (Try.prog.info? f.type).map fun i => (f.offset, i.size)) = [(0, 1), (1, 1), (2, 1), (3, 1), (4, 1), (5, 1), (6, 1), (7, 1), (8, 1)].map some := by kernel_rfl
theorem pl49 : ((match Try.prog.underlying 49 with | some (.struct f) => f | _ => #[]) : Array Field).toList.map (fun f => (Try.prog.info? f.type).map fun i => (f.offset, i.size)) = [(0, 1), (1, 1), (2, 1), (3, 1), (4, 4)].map some := by kernel_rfl
theorem pl51 : ((match Try.prog.underlying 51 with | some (.struct f) => f | _ => #[]) : Array Field).toList.map (fun f => (Try.prog.info? f.type).map fun i => (f.offset, i.size)) = [(0, 1), (1, 1)].map some := by kernel_rfl
theorem pl54 : ((match Try.prog.underlying 54 with | some (.struct f) => f | _ => #[]) : Array Field).toList.map (fun f => (Try.prog.info? f.type).map fun i => (f.offset, i.size)) = [(0, 1), (1, 1)].map some := by kernel_rfl
theorem sl22 : SlT Try.prog 22 3 1 8 := SlT.mk' (z := (.int .i64 0)) (by kernel_rfl) (by kernel_rfl) rfl (by decide) (by decide)
theorem sl27 : SlT Try.prog 27 54 2 16 := SlT.mk' (z := (.agg #[.int .i64 0, .int .i64 0])) (by kernel_rfl) (by kernel_rfl) rfl (by decide) (by decide)
theorem sl31 : SlT Try.prog 31 34 1 24 := SlT.mk' (z := (.slice none 0 0)) (by kernel_rfl) (by kernel_rfl) rfl (by decide) (by decide)
theorem sl34 : SlT Try.prog 34 4 1 1 := SlT.mk' (z := (.bool false)) (by kernel_rfl) (by kernel_rfl) rfl (by decide) (by decide)
theorem sl62 : SlT Try.prog 62 63 2 16 := SlT.mk' (z := (.agg #[.int .i64 0, .int .i64 0])) (by kernel_rfl) (by kernel_rfl) rfl (by decide) (by decide)
theorem ty22 : Ty Try.prog 22 false 1 := ⟨by kernel_rfl, by kernel_rfl⟩
theorem ty3 : Ty Try.prog 3 false 1 := ⟨by kernel_rfl, by kernel_rfl⟩
theorem ty34 : Ty Try.prog 34 false 1 := ⟨by kernel_rfl, by kernel_rfl⟩
theorem ty4 : Ty Try.prog 4 false 1 := ⟨by kernel_rfl, by kernel_rfl⟩
theorem ty54 : Ty Try.prog 54 true 2 := ⟨by kernel_rfl, by kernel_rfl⟩
theorem ty63 : Ty Try.prog 63 true 2 := ⟨by kernel_rfl, by kernel_rfl⟩
theorem ty87 : Ty Try.prog 87 false 1 := ⟨by kernel_rfl, by kernel_rfl⟩
theorem z3 : Zt Try.prog 3 [.int .i64 0] := ⟨(.int .i64 0), by kernel_rfl, rfl, by decide⟩
theorem z34 : Zt Try.prog 34 [.slice none 0 0] := ⟨(.slice none 0 0), by kernel_rfl, rfl, by decide⟩
theorem z4 : Zt Try.prog 4 [.bool false] := ⟨(.bool false), by kernel_rfl, rfl, by decide⟩
theorem z42 : Zt Try.prog 42 [.string ⟨#[]⟩, .int .i64 0, .int .i64 0, .slice none 0 0, .bool false, .slice none 0 0, .slice none 0 0, .slice none 0 0, .bool false] := ⟨(.agg #[.string ⟨#[]⟩, .int .i64 0, .int .i64 0, .slice none 0 0, .bool false, .slice none 0 0, .slice none 0 0, .slice none 0 0, .bool false]), by kernel_rfl, rfl, by decide⟩
theorem z49 : Zt Try.prog 49 [.int .i64 0, .int .i64 0, .int .i64 0, .int .i64 0, .int .i64 0, .int .i64 0, .int .i64 0, .slice none 0 0] := ⟨(.agg #[.int .i64 0, .int .i64 0, .int .i64 0, .int .i64 0, .int .i64 0, .int .i64 0, .int .i64 0, .slice none 0 0]), by kernel_rfl, rfl, by decide⟩
theorem z51 : Zt Try.prog 51 [.slice none 0 0, .int .i64 0] := ⟨(.agg #[.slice none 0 0, .int .i64 0]), by kernel_rfl, rfl, by decide⟩
theorem z54 : Zt Try.prog 54 [.int .i64 0, .int .i64 0] := ⟨(.agg #[.int .i64 0, .int .i64 0]), by kernel_rfl, rfl, by decide⟩
theorem z63 : Zt Try.prog 63 [.int .i64 0, .int .i64 0] := ⟨(.agg #[.int .i64 0, .int .i64 0]), by kernel_rfl, rfl, by decide⟩
theorem z87 : Zt Try.prog 87 [.int .u64 0] := ⟨(.int .u64 0), by kernel_rfl, rfl, by decide⟩
theorem ck3 : cellK Try.prog 20 3 = [none] := by kernel_rfl
theorem ck4 : cellK Try.prog 20 4 = [none] := by kernel_rfl
theorem ck54 : cellK Try.prog 20 54 = [none, none] := by kernel_rfl
theorem ck63 : cellK Try.prog 20 63 = [none, none] := by kernel_rfl
theorem eg54 : Try.prog.eqGuardType Try.prog.depth 54 = false := by kernel_rfl
theorem sf54 : Try.prog.underlying 54 = some (.struct (Try.prog.fieldsOf 54)) := by kernel_rfl
theorem sh54 : Try.prog.stoodInHeld 54 = false := by kernel_rfl
theorem se54 (x y : api_Required) (w : World) : (Op.equalIn 10000 54 (.agg #[.int .i64 x.First, .int .i64 x.Then]) (.agg #[.int .i64 y.First, .int .i64 y.Then])).run Try.prog w = .ok (decide (x = y)) w := by
 have u3 := Try.underlying3
 have a3 := Try.isAgg3
 have z3 := Try.sizeOf3
 rw [show (10000 : Nat) = 9999 + 1 from rfl, run_equalIn_agg w 9999 54 _ _ sf54 sh54]
 simp only [Program.fieldsOf, Try.underlying54]
 go_simp
 rcases x with ⟨x0, x1⟩
 rcases y with ⟨y0, y1⟩
 by_cases h0 : x0 = y0 <;> by_cases h1 : x1 = y1 <;> simp [h0, h1]
theorem steq54_eql (x y : api_Required) {X Y : Operand} {tk : Nat} {yt ty : TypeId} {b1 b2 : Option LB} : OpR Try.prog tk (.binOp .eql 54 X Y yt) ty [(.agg [.val (.int .i64 x.First), .val (.int .i64 x.Then)], b1), (.agg [.val (.int .i64 y.First), .val (.int .i64 y.Then)], b2)] [] (v0 (.val (.bool (decide (x = y))))) :=
 .binOpA rfl rfl (fun _ _ => rfl) (fun w => by
  rw [Sem.run_bind, run_eqGuard_agg w _ 54 X Y _ _ eg54]
  simp only [Result.andThen_ok, run_eql_struct]
  exact congrArg (fun r => Result.andThen r _) (se54 x y w))
theorem steq54_neq (x y : api_Required) {X Y : Operand} {tk : Nat} {yt ty : TypeId} {b1 b2 : Option LB} : OpR Try.prog tk (.binOp .neq 54 X Y yt) ty [(.agg [.val (.int .i64 x.First), .val (.int .i64 x.Then)], b1), (.agg [.val (.int .i64 y.First), .val (.int .i64 y.Then)], b2)] [] (v0 (.val (.bool (!decide (x = y))))) :=
 .binOpA rfl rfl (fun _ _ => rfl) (fun w => by
  rw [Sem.run_bind, run_eqGuard_agg w _ 54 X Y _ _ eg54]
  simp only [Result.andThen_ok, run_neq_struct]
  exact congrArg (fun r => Result.andThen r _) (se54 x y w))
theorem eg63 : Try.prog.eqGuardType Try.prog.depth 63 = false := by kernel_rfl
theorem sf63 : Try.prog.underlying 63 = some (.struct (Try.prog.fieldsOf 63)) := by kernel_rfl
theorem sh63 : Try.prog.stoodInHeld 63 = false := by kernel_rfl
theorem se63 (x y : need_required) (w : World) : (Op.equalIn 10000 63 (.agg #[.int .i64 x.First, .int .i64 x.Then]) (.agg #[.int .i64 y.First, .int .i64 y.Then])).run Try.prog w = .ok (decide (x = y)) w := by
 have u3 := Try.underlying3
 have a3 := Try.isAgg3
 have z3 := Try.sizeOf3
 rw [show (10000 : Nat) = 9999 + 1 from rfl, run_equalIn_agg w 9999 63 _ _ sf63 sh63]
 simp only [Program.fieldsOf, Try.underlying63]
 go_simp
 rcases x with ⟨x0, x1⟩
 rcases y with ⟨y0, y1⟩
 by_cases h0 : x0 = y0 <;> by_cases h1 : x1 = y1 <;> simp [h0, h1]
theorem steq63_eql (x y : need_required) {X Y : Operand} {tk : Nat} {yt ty : TypeId} {b1 b2 : Option LB} : OpR Try.prog tk (.binOp .eql 63 X Y yt) ty [(.agg [.val (.int .i64 x.First), .val (.int .i64 x.Then)], b1), (.agg [.val (.int .i64 y.First), .val (.int .i64 y.Then)], b2)] [] (v0 (.val (.bool (decide (x = y))))) :=
 .binOpA rfl rfl (fun _ _ => rfl) (fun w => by
  rw [Sem.run_bind, run_eqGuard_agg w _ 63 X Y _ _ eg63]
  simp only [Result.andThen_ok, run_eql_struct]
  exact congrArg (fun r => Result.andThen r _) (se63 x y w))
theorem steq63_neq (x y : need_required) {X Y : Operand} {tk : Nat} {yt ty : TypeId} {b1 b2 : Option LB} : OpR Try.prog tk (.binOp .neq 63 X Y yt) ty [(.agg [.val (.int .i64 x.First), .val (.int .i64 x.Then)], b1), (.agg [.val (.int .i64 y.First), .val (.int .i64 y.Then)], b2)] [] (v0 (.val (.bool (!decide (x = y))))) :=
 .binOpA rfl rfl (fun _ _ => rfl) (fun w => by
  rw [Sem.run_bind, run_eqGuard_agg w _ 63 X Y _ _ eg63]
  simp only [Result.andThen_ok, run_neq_struct]
  exact congrArg (fun r => Result.andThen r _) (se63 x y w))
theorem undm58 : Try.prog.underlying 58 = some (.map 54 4) := by kernel_rfl
abbrev vv54 (x : api_Required) : Value := .agg #[.int .i64 x.First, .int .i64 x.Then]
theorem zv4 (w : World) : (zeroValue 4).run Try.prog w = .ok (.bool false) w := zv_of (by kernel_rfl) w
theorem keyt54 : KeyT Try.prog 54 vv54 := keyA (by kernel_rfl) (fun x => ⟨_, rfl⟩) (fun e x w => chk_fields sf54 (by simp only [Program.fieldsOf, Try.underlying54]; intro f hf; simp at hf; rcases hf with rfl | rfl <;> exact ⟨by kernel_rfl, _, rfl⟩)) (fun x y w => se54 x y w) (fun x => by simp [Instr.sameBits])
instance : FdC Try.prog 42 1 1 3 := ⟨fd42_1⟩
instance : FdC Try.prog 42 2 2 3 := ⟨fd42_2⟩
instance : FdC Try.prog 49 1 1 3 := ⟨fd49_1⟩
instance : FdC Try.prog 49 2 2 3 := ⟨fd49_2⟩
instance : FdC Try.prog 51 0 0 22 := ⟨fd51_0⟩
instance : FdC Try.prog 51 1 1 3 := ⟨fd51_1⟩
instance : FdC Try.prog 54 0 0 3 := ⟨fd54_0⟩
instance : FdC Try.prog 54 1 1 3 := ⟨fd54_1⟩
instance : FdC Try.prog 63 0 0 3 := ⟨fd63_0⟩
instance : FdC Try.prog 63 1 1 3 := ⟨fd63_1⟩
instance : SlC Try.prog 22 3 1 8 := ⟨sl22⟩
instance : SlC Try.prog 27 54 2 16 := ⟨sl27⟩
instance : SlC Try.prog 31 34 1 24 := ⟨sl31⟩
instance : SlC Try.prog 34 4 1 1 := ⟨sl34⟩
instance : SlC Try.prog 62 63 2 16 := ⟨sl62⟩
instance : TyC Try.prog 22 false 1 := ⟨ty22⟩
instance : TyC Try.prog 3 false 1 := ⟨ty3⟩
instance : TyC Try.prog 34 false 1 := ⟨ty34⟩
instance : TyC Try.prog 4 false 1 := ⟨ty4⟩
instance : TyC Try.prog 54 true 2 := ⟨ty54⟩
instance : TyC Try.prog 63 true 2 := ⟨ty63⟩
instance : TyC Try.prog 87 false 1 := ⟨ty87⟩
instance : ZtC Try.prog 3 [.int .i64 0] := ⟨z3⟩
instance : ZtC Try.prog 34 [.slice none 0 0] := ⟨z34⟩
instance : ZtC Try.prog 4 [.bool false] := ⟨z4⟩
instance : ZtC Try.prog 42 [.string ⟨#[]⟩, .int .i64 0, .int .i64 0, .slice none 0 0, .bool false, .slice none 0 0, .slice none 0 0, .slice none 0 0, .bool false] := ⟨z42⟩
instance : ZtC Try.prog 49 [.int .i64 0, .int .i64 0, .int .i64 0, .int .i64 0, .int .i64 0, .int .i64 0, .int .i64 0, .slice none 0 0] := ⟨z49⟩
instance : ZtC Try.prog 51 [.slice none 0 0, .int .i64 0] := ⟨z51⟩
instance : ZtC Try.prog 54 [.int .i64 0, .int .i64 0] := ⟨z54⟩
instance : ZtC Try.prog 63 [.int .i64 0, .int .i64 0] := ⟨z63⟩
instance : ZtC Try.prog 87 [.int .u64 0] := ⟨z87⟩
instance : ElC cipherplanmake_Dice.enc 2 := ⟨cipherplanmake_Dice.enc_len⟩
instance : ElC api_Required.enc 2 := ⟨api_Required.enc_len⟩
instance : ElC api_Use.enc 2 := ⟨api_Use.enc_len⟩
instance : ElC api_Seal.enc 2 := ⟨api_Seal.enc_len⟩
instance : ElC api_Certificate.enc 15 := ⟨api_Certificate.enc_len⟩
instance : ElC api_Identity.enc 4 := ⟨api_Identity.enc_len⟩
instance : ElC api_Endpoint.enc 9 := ⟨api_Endpoint.enc_len⟩
instance : ElC api_Change.enc 8 := ⟨api_Change.enc_len⟩
instance : ElC need_required.enc 2 := ⟨need_required.enc_len⟩
end Go.Proofs.Ytkpcbnnlefcebaa
