/- Encodings; what is known of types. -/
import Derived.Test.YtlcfdnjokgbccaaEE
import Derived.Test.YtlcfdnjokgbccaaP1
import Derived.Test.YtlcfdnjokgbccaaProg
set_option linter.unusedVariables false
set_option linter.unusedSimpArgs false
set_option maxRecDepth 100000
set_option maxHeartbeats 1600000
namespace Go.Proofs.Ytlcfdnjokgbccaa
open Go.RowKit
def api_Use.enc (x : api_Use) : List C := [.int .i64 x.Alg, .int .i64 x.Bits]
theorem api_Use.enc_len (x : api_Use) : (api_Use.enc x).length = 2 := rfl
def api_Seal.enc (x : api_Seal) : List C := [.int .i64 x.Key, .int .i64 x.Sum]
theorem api_Seal.enc_len (x : api_Seal) : (api_Seal.enc x).length = 2 := rfl
def api_Certificate.enc (x : api_Certificate) : List C := [.int .i64 x.Serial, .str x.Issuer, .str x.Subject, .int .i64 x.Key.Alg, .int .i64 x.Key.Bits, .int .i64 x.KeyId, .int .i64 x.Hash.Alg, .int .i64 x.Hash.Bits, .int .i64 x.From, .int .i64 x.To, .bool x.Authority, .int .i64 x.Path, .sl 1 (encL eS x.Names), .int .i64 x.Seal.Key, .int .i64 x.Seal.Sum]
theorem api_Certificate.enc_len (x : api_Certificate) : (api_Certificate.enc x).length = 15 := rfl
mutual
def api_Value.enc : api_Value → List C
 | ⟨Tag, Bytes, Nested, Elements⟩ => [.int .i64 Tag, .sl 1 (encL e8 Bytes), .bool Nested, .sl 4 (api_Value.encs Elements)]
def api_Value.encs : List api_Value → List C
 | [] => []
 | x :: l => api_Value.enc x ++ api_Value.encs l
end
theorem api_Value.encs_eq : ∀ (l : List api_Value), api_Value.encs l = encL api_Value.enc l
 | [] => rfl
 | x :: l => by
  show api_Value.enc x ++ api_Value.encs l = api_Value.enc x ++ encL api_Value.enc l
  rw [api_Value.encs_eq l]
theorem api_Value.enc_eq (x : api_Value) : api_Value.enc x = [.int .i64 x.Tag, .sl 1 (encL e8 x.Bytes), .bool x.Nested, .sl 4 (encL api_Value.enc x.Elements)] := by
 cases x
 simp only [api_Value.enc, api_Value.encs_eq]
theorem api_Value.enc_len (x : api_Value) : (api_Value.enc x).length = 4 := by rw [api_Value.enc_eq]; rfl
def catalog_row.enc (x : catalog_row) : List C := [.str x.name, .int .i64 x.kind, .int .i64 x.way, .sl 1 (encL eI x.sizes), .sl 1 (encL eI x.strengths)]
theorem catalog_row.enc_len (x : catalog_row) : (catalog_row.enc x).length = 5 := rfl
def certificate_Reader.enc (x : certificate_Reader) : List C := [.sl 4 (encL api_Value.enc x.l), .bool x.Failed]
theorem certificate_Reader.enc_len (x : certificate_Reader) : (certificate_Reader.enc x).length = 2 := rfl
theorem und3 : Try.prog.underlying 3 = some (.int .i64) := by kernel_rfl
theorem und4 : Try.prog.underlying 4 = some (.bool) := by kernel_rfl
theorem und5 : Try.prog.underlying 5 = some (.int .u8) := by kernel_rfl
theorem und9 : Try.prog.underlying 9 = some (.string) := by kernel_rfl
theorem und22 : Try.prog.underlying 22 = some (.slice 5) := by kernel_rfl
theorem und28 : Try.prog.underlying 28 = some (.struct ((match Try.prog.underlying 28 with | some (.struct f) => f | _ => #[]))) := by kernel_rfl
theorem und29 : Try.prog.underlying 29 = some (.slice 9) := by kernel_rfl
theorem und31 : Try.prog.underlying 31 = some (.struct ((match Try.prog.underlying 31 with | some (.struct f) => f | _ => #[]))) := by kernel_rfl
theorem und33 : Try.prog.underlying 33 = some (.struct ((match Try.prog.underlying 33 with | some (.struct f) => f | _ => #[]))) := by kernel_rfl
theorem und42 : Try.prog.underlying 42 = some (.int .u32) := by kernel_rfl
theorem und49 : Try.prog.underlying 49 = some (.struct ((match Try.prog.underlying 49 with | some (.struct f) => f | _ => #[]))) := by kernel_rfl
theorem und73 : Try.prog.underlying 73 = some (.array 8 1) := by kernel_rfl
theorem und75 : Try.prog.underlying 75 = some (.struct ((match Try.prog.underlying 75 with | some (.struct f) => f | _ => #[]))) := by kernel_rfl
theorem und86 : Try.prog.underlying 86 = some (.int .u64) := by kernel_rfl
theorem und104 : Try.prog.underlying 104 = some (.struct ((match Try.prog.underlying 104 with | some (.struct f) => f | _ => #[]))) := by kernel_rfl
theorem und115 : Try.prog.underlying 115 = some (.array 23 104) := by kernel_rfl
theorem und118 : Try.prog.underlying 118 = some (.array 2 3) := by kernel_rfl
theorem und119 : Try.prog.underlying 119 = some (.array 5 118) := by kernel_rfl
theorem fd104_1 : Fd Try.prog 104 1 1 3 := ⟨_, (match Try.prog.underlying 104 with | some (.struct f) => f | _ => #[])[1]!, und104, by kernel_rfl, by kernel_rfl, by kernel_rfl⟩
theorem fd104_2 : Fd Try.prog 104 2 2 3 := ⟨_, (match Try.prog.underlying 104 with | some (.struct f) => f | _ => #[])[2]!, und104, by kernel_rfl, by kernel_rfl, by kernel_rfl⟩
theorem fd104_3 : Fd Try.prog 104 3 3 102 := ⟨_, (match Try.prog.underlying 104 with | some (.struct f) => f | _ => #[])[3]!, und104, by kernel_rfl, by kernel_rfl, by kernel_rfl⟩
theorem fd104_4 : Fd Try.prog 104 4 4 102 := ⟨_, (match Try.prog.underlying 104 with | some (.struct f) => f | _ => #[])[4]!, und104, by kernel_rfl, by kernel_rfl, by kernel_rfl⟩
theorem fd28_0 : Fd Try.prog 28 0 0 3 := ⟨_, (match Try.prog.underlying 28 with | some (.struct f) => f | _ => #[])[0]!, und28, by kernel_rfl, by kernel_rfl, by kernel_rfl⟩
theorem fd28_1 : Fd Try.prog 28 1 1 3 := ⟨_, (match Try.prog.underlying 28 with | some (.struct f) => f | _ => #[])[1]!, und28, by kernel_rfl, by kernel_rfl, by kernel_rfl⟩
theorem fd31_0 : Fd Try.prog 31 0 0 3 := ⟨_, (match Try.prog.underlying 31 with | some (.struct f) => f | _ => #[])[0]!, und31, by kernel_rfl, by kernel_rfl, by kernel_rfl⟩
theorem fd31_1 : Fd Try.prog 31 1 1 3 := ⟨_, (match Try.prog.underlying 31 with | some (.struct f) => f | _ => #[])[1]!, und31, by kernel_rfl, by kernel_rfl, by kernel_rfl⟩
theorem fd33_0 : Fd Try.prog 33 0 0 3 := ⟨_, (match Try.prog.underlying 33 with | some (.struct f) => f | _ => #[])[0]!, und33, by kernel_rfl, by kernel_rfl, by kernel_rfl⟩
theorem fd33_1 : Fd Try.prog 33 1 1 9 := ⟨_, (match Try.prog.underlying 33 with | some (.struct f) => f | _ => #[])[1]!, und33, by kernel_rfl, by kernel_rfl, by kernel_rfl⟩
theorem fd33_10 : Fd Try.prog 33 10 12 29 := ⟨_, (match Try.prog.underlying 33 with | some (.struct f) => f | _ => #[])[10]!, und33, by kernel_rfl, by kernel_rfl, by kernel_rfl⟩
theorem fd33_11 : Fd Try.prog 33 11 13 31 := ⟨_, (match Try.prog.underlying 33 with | some (.struct f) => f | _ => #[])[11]!, und33, by kernel_rfl, by kernel_rfl, by kernel_rfl⟩
theorem fd33_2 : Fd Try.prog 33 2 2 9 := ⟨_, (match Try.prog.underlying 33 with | some (.struct f) => f | _ => #[])[2]!, und33, by kernel_rfl, by kernel_rfl, by kernel_rfl⟩
theorem fd33_3 : Fd Try.prog 33 3 3 28 := ⟨_, (match Try.prog.underlying 33 with | some (.struct f) => f | _ => #[])[3]!, und33, by kernel_rfl, by kernel_rfl, by kernel_rfl⟩
theorem fd33_4 : Fd Try.prog 33 4 5 3 := ⟨_, (match Try.prog.underlying 33 with | some (.struct f) => f | _ => #[])[4]!, und33, by kernel_rfl, by kernel_rfl, by kernel_rfl⟩
theorem fd33_5 : Fd Try.prog 33 5 6 28 := ⟨_, (match Try.prog.underlying 33 with | some (.struct f) => f | _ => #[])[5]!, und33, by kernel_rfl, by kernel_rfl, by kernel_rfl⟩
theorem fd33_6 : Fd Try.prog 33 6 8 3 := ⟨_, (match Try.prog.underlying 33 with | some (.struct f) => f | _ => #[])[6]!, und33, by kernel_rfl, by kernel_rfl, by kernel_rfl⟩
theorem fd33_7 : Fd Try.prog 33 7 9 3 := ⟨_, (match Try.prog.underlying 33 with | some (.struct f) => f | _ => #[])[7]!, und33, by kernel_rfl, by kernel_rfl, by kernel_rfl⟩
theorem fd33_8 : Fd Try.prog 33 8 10 4 := ⟨_, (match Try.prog.underlying 33 with | some (.struct f) => f | _ => #[])[8]!, und33, by kernel_rfl, by kernel_rfl, by kernel_rfl⟩
theorem fd33_9 : Fd Try.prog 33 9 11 3 := ⟨_, (match Try.prog.underlying 33 with | some (.struct f) => f | _ => #[])[9]!, und33, by kernel_rfl, by kernel_rfl, by kernel_rfl⟩
theorem fd49_0 : Fd Try.prog 49 0 0 3 := ⟨_, (match Try.prog.underlying 49 with | some (.struct f) => f | _ => #[])[0]!, und49, by kernel_rfl, by kernel_rfl, by kernel_rfl⟩
theorem fd49_1 : Fd Try.prog 49 1 1 22 := ⟨_, (match Try.prog.underlying 49 with | some (.struct f) => f | _ => #[])[1]!, und49, by kernel_rfl, by kernel_rfl, by kernel_rfl⟩
theorem fd49_2 : Fd Try.prog 49 2 2 4 := ⟨_, (match Try.prog.underlying 49 with | some (.struct f) => f | _ => #[])[2]!, und49, by kernel_rfl, by kernel_rfl, by kernel_rfl⟩
theorem fd49_3 : Fd Try.prog 49 3 3 47 := ⟨_, (match Try.prog.underlying 49 with | some (.struct f) => f | _ => #[])[3]!, und49, by kernel_rfl, by kernel_rfl, by kernel_rfl⟩
theorem fd75_0 : Fd Try.prog 75 0 0 47 := ⟨_, (match Try.prog.underlying 75 with | some (.struct f) => f | _ => #[])[0]!, und75, by kernel_rfl, by kernel_rfl, by kernel_rfl⟩
theorem fd75_1 : Fd Try.prog 75 1 1 4 := ⟨_, (match Try.prog.underlying 75 with | some (.struct f) => f | _ => #[])[1]!, und75, by kernel_rfl, by kernel_rfl, by kernel_rfl⟩
theorem pl104 : ((match Try.prog.underlying 104 with | some (.struct f) => f | _ => #[]) : Array Field).toList.map (fun f => (Try.prog.info? f.type).map fun i => (f.offset, i.size)) = [(0, 1), (1, 1), (2, 1), (3, 1), (4, 1)].map some := by kernel_rfl
theorem pl28 : ((match Try.prog.underlying 28 with | some (.struct f) => f | _ => #[]) : Array Field).toList.map (fun f => (Try.prog.info? f.type).map fun i => (f.offset, i.size)) = [(0, 1), (1, 1)].map some := by kernel_rfl
theorem pl31 : ((match Try.prog.underlying 31 with | some (.struct f) => f | _ => #[]) : Array Field).toList.map (fun f => (Try.prog.info? f.type).map fun i => (f.offset, i.size)) = [(0, 1), (1, 1)].map some := by kernel_rfl
theorem pl33 : ((match Try.prog.underlying 33 with | some (.struct f) => f | _ => #[]) : Array Field).toList.map (fun f => (Try.prog.info? f.type).map fun i => (f.offset, i.size)) = [(0, 1), (1, 1), (2, 1), (3, 2), (5, 1), (6, 2), (8, 1), (9, 1), (10, 1), (11, 1), (12, 1), (13, 2)].map some := by kernel_rfl
theorem pl49 : ((match Try.prog.underlying 49 with | some (.struct f) => f | _ => #[]) : Array Field).toList.map (fun f => (Try.prog.info? f.type).map fun i => (f.offset, i.size)) = [(0, 1), (1, 1), (2, 1), (3, 1)].map some := by kernel_rfl
theorem pl75 : ((match Try.prog.underlying 75 with | some (.struct f) => f | _ => #[]) : Array Field).toList.map (fun f => (Try.prog.info? f.type).map fun i => (f.offset, i.size)) = [(0, 1), (1, 1)].map some := by kernel_rfl
theorem sl102 : SlT Try.prog 102 3 1 8 := SlT.mk' (z := (.int .i64 0)) (by kernel_rfl) (by kernel_rfl) rfl (by decide) (by decide)
theorem sl22 : SlT Try.prog 22 5 1 1 := SlT.mk' (z := (.int .u8 0)) (by kernel_rfl) (by kernel_rfl) rfl (by decide) (by decide)
theorem sl29 : SlT Try.prog 29 9 1 16 := SlT.mk' (z := (.string ⟨#[]⟩)) (by kernel_rfl) (by kernel_rfl) rfl (by decide) (by decide)
theorem sl47 : SlT Try.prog 47 49 4 64 := SlT.mk' (z := (.agg #[.int .i64 0, .slice none 0 0, .bool false, .slice none 0 0])) (by kernel_rfl) (by kernel_rfl) rfl (by decide) (by decide)
theorem ty1 : Ty Try.prog 1 false 1 := ⟨by kernel_rfl, by kernel_rfl⟩
theorem ty102 : Ty Try.prog 102 false 1 := ⟨by kernel_rfl, by kernel_rfl⟩
theorem ty104 : Ty Try.prog 104 true 5 := ⟨by kernel_rfl, by kernel_rfl⟩
theorem ty115 : Ty Try.prog 115 true 115 := ⟨by kernel_rfl, by kernel_rfl⟩
theorem ty118 : Ty Try.prog 118 true 2 := ⟨by kernel_rfl, by kernel_rfl⟩
theorem ty22 : Ty Try.prog 22 false 1 := ⟨by kernel_rfl, by kernel_rfl⟩
theorem ty28 : Ty Try.prog 28 true 2 := ⟨by kernel_rfl, by kernel_rfl⟩
theorem ty29 : Ty Try.prog 29 false 1 := ⟨by kernel_rfl, by kernel_rfl⟩
theorem ty3 : Ty Try.prog 3 false 1 := ⟨by kernel_rfl, by kernel_rfl⟩
theorem ty31 : Ty Try.prog 31 true 2 := ⟨by kernel_rfl, by kernel_rfl⟩
theorem ty33 : Ty Try.prog 33 true 15 := ⟨by kernel_rfl, by kernel_rfl⟩
theorem ty4 : Ty Try.prog 4 false 1 := ⟨by kernel_rfl, by kernel_rfl⟩
theorem ty47 : Ty Try.prog 47 false 1 := ⟨by kernel_rfl, by kernel_rfl⟩
theorem ty49 : Ty Try.prog 49 true 4 := ⟨by kernel_rfl, by kernel_rfl⟩
theorem ty5 : Ty Try.prog 5 false 1 := ⟨by kernel_rfl, by kernel_rfl⟩
theorem ty66 : Ty Try.prog 66 false 1 := ⟨by kernel_rfl, by kernel_rfl⟩
theorem ty9 : Ty Try.prog 9 false 1 := ⟨by kernel_rfl, by kernel_rfl⟩
theorem z104 : Zt Try.prog 104 [.string ⟨#[]⟩, .int .i64 0, .int .i64 0, .slice none 0 0, .slice none 0 0] := ⟨(.agg #[.string ⟨#[]⟩, .int .i64 0, .int .i64 0, .slice none 0 0, .slice none 0 0]), by kernel_rfl, rfl, by decide⟩
theorem z115 : Zt Try.prog 115 [.string ⟨#[]⟩, .int .i64 0, .int .i64 0, .slice none 0 0, .slice none 0 0, .string ⟨#[]⟩, .int .i64 0, .int .i64 0, .slice none 0 0, .slice none 0 0, .string ⟨#[]⟩, .int .i64 0, .int .i64 0, .slice none 0 0, .slice none 0 0, .string ⟨#[]⟩, .int .i64 0, .int .i64 0, .slice none 0 0, .slice none 0 0, .string ⟨#[]⟩, .int .i64 0, .int .i64 0, .slice none 0 0, .slice none 0 0, .string ⟨#[]⟩, .int .i64 0, .int .i64 0, .slice none 0 0, .slice none 0 0, .string ⟨#[]⟩, .int .i64 0, .int .i64 0, .slice none 0 0, .slice none 0 0, .string ⟨#[]⟩, .int .i64 0, .int .i64 0, .slice none 0 0, .slice none 0 0, .string ⟨#[]⟩, .int .i64 0, .int .i64 0, .slice none 0 0, .slice none 0 0, .string ⟨#[]⟩, .int .i64 0, .int .i64 0, .slice none 0 0, .slice none 0 0, .string ⟨#[]⟩, .int .i64 0, .int .i64 0, .slice none 0 0, .slice none 0 0, .string ⟨#[]⟩, .int .i64 0, .int .i64 0, .slice none 0 0, .slice none 0 0, .string ⟨#[]⟩, .int .i64 0, .int .i64 0, .slice none 0 0, .slice none 0 0, .string ⟨#[]⟩, .int .i64 0, .int .i64 0, .slice none 0 0, .slice none 0 0, .string ⟨#[]⟩, .int .i64 0, .int .i64 0, .slice none 0 0, .slice none 0 0, .string ⟨#[]⟩, .int .i64 0, .int .i64 0, .slice none 0 0, .slice none 0 0, .string ⟨#[]⟩, .int .i64 0, .int .i64 0, .slice none 0 0, .slice none 0 0, .string ⟨#[]⟩, .int .i64 0, .int .i64 0, .slice none 0 0, .slice none 0 0, .string ⟨#[]⟩, .int .i64 0, .int .i64 0, .slice none 0 0, .slice none 0 0, .string ⟨#[]⟩, .int .i64 0, .int .i64 0, .slice none 0 0, .slice none 0 0, .string ⟨#[]⟩, .int .i64 0, .int .i64 0, .slice none 0 0, .slice none 0 0, .string ⟨#[]⟩, .int .i64 0, .int .i64 0, .slice none 0 0, .slice none 0 0, .string ⟨#[]⟩, .int .i64 0, .int .i64 0, .slice none 0 0, .slice none 0 0] := ⟨(.agg #[.string ⟨#[]⟩, .int .i64 0, .int .i64 0, .slice none 0 0, .slice none 0 0, .string ⟨#[]⟩, .int .i64 0, .int .i64 0, .slice none 0 0, .slice none 0 0, .string ⟨#[]⟩, .int .i64 0, .int .i64 0, .slice none 0 0, .slice none 0 0, .string ⟨#[]⟩, .int .i64 0, .int .i64 0, .slice none 0 0, .slice none 0 0, .string ⟨#[]⟩, .int .i64 0, .int .i64 0, .slice none 0 0, .slice none 0 0, .string ⟨#[]⟩, .int .i64 0, .int .i64 0, .slice none 0 0, .slice none 0 0, .string ⟨#[]⟩, .int .i64 0, .int .i64 0, .slice none 0 0, .slice none 0 0, .string ⟨#[]⟩, .int .i64 0, .int .i64 0, .slice none 0 0, .slice none 0 0, .string ⟨#[]⟩, .int .i64 0, .int .i64 0, .slice none 0 0, .slice none 0 0, .string ⟨#[]⟩, .int .i64 0, .int .i64 0, .slice none 0 0, .slice none 0 0, .string ⟨#[]⟩, .int .i64 0, .int .i64 0, .slice none 0 0, .slice none 0 0, .string ⟨#[]⟩, .int .i64 0, .int .i64 0, .slice none 0 0, .slice none 0 0, .string ⟨#[]⟩, .int .i64 0, .int .i64 0, .slice none 0 0, .slice none 0 0, .string ⟨#[]⟩, .int .i64 0, .int .i64 0, .slice none 0 0, .slice none 0 0, .string ⟨#[]⟩, .int .i64 0, .int .i64 0, .slice none 0 0, .slice none 0 0, .string ⟨#[]⟩, .int .i64 0, .int .i64 0, .slice none 0 0, .slice none 0 0, .string ⟨#[]⟩, .int .i64 0, .int .i64 0, .slice none 0 0, .slice none 0 0, .string ⟨#[]⟩, .int .i64 0, .int .i64 0, .slice none 0 0, .slice none 0 0, .string ⟨#[]⟩, .int .i64 0, .int .i64 0, .slice none 0 0, .slice none 0 0, .string ⟨#[]⟩, .int .i64 0, .int .i64 0, .slice none 0 0, .slice none 0 0, .string ⟨#[]⟩, .int .i64 0, .int .i64 0, .slice none 0 0, .slice none 0 0, .string ⟨#[]⟩, .int .i64 0, .int .i64 0, .slice none 0 0, .slice none 0 0, .string ⟨#[]⟩, .int .i64 0, .int .i64 0, .slice none 0 0, .slice none 0 0]), by kernel_rfl, rfl, by decide⟩
theorem z118 : Zt Try.prog 118 [.int .i64 0, .int .i64 0] := ⟨(.agg #[.int .i64 0, .int .i64 0]), by kernel_rfl, rfl, by decide⟩
theorem z119 : Zt Try.prog 119 [.int .i64 0, .int .i64 0, .int .i64 0, .int .i64 0, .int .i64 0, .int .i64 0, .int .i64 0, .int .i64 0, .int .i64 0, .int .i64 0] := ⟨(.agg #[.int .i64 0, .int .i64 0, .int .i64 0, .int .i64 0, .int .i64 0, .int .i64 0, .int .i64 0, .int .i64 0, .int .i64 0, .int .i64 0]), by kernel_rfl, rfl, by decide⟩
theorem z28 : Zt Try.prog 28 [.int .i64 0, .int .i64 0] := ⟨(.agg #[.int .i64 0, .int .i64 0]), by kernel_rfl, rfl, by decide⟩
theorem z3 : Zt Try.prog 3 [.int .i64 0] := ⟨(.int .i64 0), by kernel_rfl, rfl, by decide⟩
theorem z31 : Zt Try.prog 31 [.int .i64 0, .int .i64 0] := ⟨(.agg #[.int .i64 0, .int .i64 0]), by kernel_rfl, rfl, by decide⟩
theorem z33 : Zt Try.prog 33 [.int .i64 0, .string ⟨#[]⟩, .string ⟨#[]⟩, .int .i64 0, .int .i64 0, .int .i64 0, .int .i64 0, .int .i64 0, .int .i64 0, .int .i64 0, .bool false, .int .i64 0, .slice none 0 0, .int .i64 0, .int .i64 0] := ⟨(.agg #[.int .i64 0, .string ⟨#[]⟩, .string ⟨#[]⟩, .int .i64 0, .int .i64 0, .int .i64 0, .int .i64 0, .int .i64 0, .int .i64 0, .int .i64 0, .bool false, .int .i64 0, .slice none 0 0, .int .i64 0, .int .i64 0]), by kernel_rfl, rfl, by decide⟩
theorem z49 : Zt Try.prog 49 [.int .i64 0, .slice none 0 0, .bool false, .slice none 0 0] := ⟨(.agg #[.int .i64 0, .slice none 0 0, .bool false, .slice none 0 0]), by kernel_rfl, rfl, by decide⟩
theorem z5 : Zt Try.prog 5 [.int .u8 0] := ⟨(.int .u8 0), by kernel_rfl, rfl, by decide⟩
theorem z66 : Zt Try.prog 66 [.pointer none] := ⟨(.pointer none), by kernel_rfl, rfl, by decide⟩
theorem z73 : Zt Try.prog 73 [.nilFunc, .nilFunc, .nilFunc, .nilFunc, .nilFunc, .nilFunc, .nilFunc, .nilFunc] := ⟨(.agg #[.nilFunc, .nilFunc, .nilFunc, .nilFunc, .nilFunc, .nilFunc, .nilFunc, .nilFunc]), by kernel_rfl, rfl, by decide⟩
theorem z75 : Zt Try.prog 75 [.slice none 0 0, .bool false] := ⟨(.agg #[.slice none 0 0, .bool false]), by kernel_rfl, rfl, by decide⟩
theorem z9 : Zt Try.prog 9 [.string ⟨#[]⟩] := ⟨(.string ⟨#[]⟩), by kernel_rfl, rfl, by decide⟩
theorem ck3 : cellK Try.prog 20 3 = [none] := by kernel_rfl
theorem ck49 : cellK Try.prog 20 49 = [none, some 1, none, some 4] := by kernel_rfl
theorem ck5 : cellK Try.prog 20 5 = [none] := by kernel_rfl
theorem ck9 : cellK Try.prog 20 9 = [none] := by kernel_rfl
theorem eg28 : Try.prog.eqGuardType Try.prog.depth 28 = false := by kernel_rfl
theorem sf28 : Try.prog.underlying 28 = some (.struct (Try.prog.fieldsOf 28)) := by kernel_rfl
theorem sh28 : Try.prog.stoodInHeld 28 = false := by kernel_rfl
theorem se28 (x y : api_Use) (w : World) : (Op.equalIn 10000 28 (.agg #[.int .i64 x.Alg, .int .i64 x.Bits]) (.agg #[.int .i64 y.Alg, .int .i64 y.Bits])).run Try.prog w = .ok (decide (x = y)) w := by
 have u3 := Try.underlying3
 have a3 := Try.isAgg3
 have z3 := Try.sizeOf3
 rw [show (10000 : Nat) = 9999 + 1 from rfl, run_equalIn_agg w 9999 28 _ _ sf28 sh28]
 simp only [Program.fieldsOf, Try.underlying28]
 go_simp
 rcases x with ⟨x0, x1⟩
 rcases y with ⟨y0, y1⟩
 by_cases h0 : x0 = y0 <;> by_cases h1 : x1 = y1 <;> simp [h0, h1]
theorem steq28_eql (x y : api_Use) {X Y : Operand} {tk : Nat} {yt ty : TypeId} {b1 b2 : Option LB} : OpR Try.prog tk (.binOp .eql 28 X Y yt) ty [(.agg [.val (.int .i64 x.Alg), .val (.int .i64 x.Bits)], b1), (.agg [.val (.int .i64 y.Alg), .val (.int .i64 y.Bits)], b2)] [] (v0 (.val (.bool (decide (x = y))))) :=
 .binOpA rfl rfl (fun _ _ => rfl) (fun w => by
  rw [Sem.run_bind, run_eqGuard_agg w _ 28 X Y _ _ eg28]
  simp only [Result.andThen_ok, run_eql_struct]
  exact congrArg (fun r => Result.andThen r _) (se28 x y w))
theorem eg31 : Try.prog.eqGuardType Try.prog.depth 31 = false := by kernel_rfl
theorem sf31 : Try.prog.underlying 31 = some (.struct (Try.prog.fieldsOf 31)) := by kernel_rfl
theorem sh31 : Try.prog.stoodInHeld 31 = false := by kernel_rfl
theorem se31 (x y : api_Seal) (w : World) : (Op.equalIn 10000 31 (.agg #[.int .i64 x.Key, .int .i64 x.Sum]) (.agg #[.int .i64 y.Key, .int .i64 y.Sum])).run Try.prog w = .ok (decide (x = y)) w := by
 have u3 := Try.underlying3
 have a3 := Try.isAgg3
 have z3 := Try.sizeOf3
 rw [show (10000 : Nat) = 9999 + 1 from rfl, run_equalIn_agg w 9999 31 _ _ sf31 sh31]
 simp only [Program.fieldsOf, Try.underlying31]
 go_simp
 rcases x with ⟨x0, x1⟩
 rcases y with ⟨y0, y1⟩
 by_cases h0 : x0 = y0 <;> by_cases h1 : x1 = y1 <;> simp [h0, h1]
theorem steq31_eql (x y : api_Seal) {X Y : Operand} {tk : Nat} {yt ty : TypeId} {b1 b2 : Option LB} : OpR Try.prog tk (.binOp .eql 31 X Y yt) ty [(.agg [.val (.int .i64 x.Key), .val (.int .i64 x.Sum)], b1), (.agg [.val (.int .i64 y.Key), .val (.int .i64 y.Sum)], b2)] [] (v0 (.val (.bool (decide (x = y))))) :=
 .binOpA rfl rfl (fun _ _ => rfl) (fun w => by
  rw [Sem.run_bind, run_eqGuard_agg w _ 31 X Y _ _ eg31]
  simp only [Result.andThen_ok, run_eql_struct]
  exact congrArg (fun r => Result.andThen r _) (se31 x y w))
end Go.Proofs.Ytlcfdnjokgbccaa
