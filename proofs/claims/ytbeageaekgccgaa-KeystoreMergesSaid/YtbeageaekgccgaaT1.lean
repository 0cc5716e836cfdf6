/- Encodings; what is known of types. -/
import Derived.Test.YtbeageaekgccgaaEH
import Derived.Test.YtbeageaekgccgaaP1
import Derived.Test.YtbeageaekgccgaaProg
set_option linter.unusedVariables false
set_option linter.unusedSimpArgs false
set_option maxRecDepth 100000
set_option maxHeartbeats 1600000
namespace Go.Proofs.Ytbeageaekgccgaa
open Go.RowKit
abbrev api_Use.dv (x : api_Use) : List DV := [.val (.int .i64 x.Alg), .val (.int .i64 x.Bits)]
def api_Use.enc (x : api_Use) : List C := [.int .i64 x.Alg, .int .i64 x.Bits]
theorem api_Use.enc_len (x : api_Use) : (api_Use.enc x).length = 2 := rfl
abbrev api_Seal.dv (x : api_Seal) : List DV := [.val (.int .i64 x.Key), .val (.int .i64 x.Sum)]
def api_Seal.enc (x : api_Seal) : List C := [.int .i64 x.Key, .int .i64 x.Sum]
theorem api_Seal.enc_len (x : api_Seal) : (api_Seal.enc x).length = 2 := rfl
abbrev api_Certificate.dv (x : api_Certificate) : List DV := [.val (.int .i64 x.Serial), .val (.string x.Issuer), .val (.string x.Subject), .val (.int .i64 x.Key.Alg), .val (.int .i64 x.Key.Bits), .val (.int .i64 x.KeyId), .val (.int .i64 x.Hash.Alg), .val (.int .i64 x.Hash.Bits), .val (.int .i64 x.From), .val (.int .i64 x.To), .val (.bool x.Authority), .val (.int .i64 x.Path), .sl 1 (encL eS x.Names), .val (.int .i64 x.Seal.Key), .val (.int .i64 x.Seal.Sum)]
def api_Certificate.enc (x : api_Certificate) : List C := [.int .i64 x.Serial, .str x.Issuer, .str x.Subject, .int .i64 x.Key.Alg, .int .i64 x.Key.Bits, .int .i64 x.KeyId, .int .i64 x.Hash.Alg, .int .i64 x.Hash.Bits, .int .i64 x.From, .int .i64 x.To, .bool x.Authority, .int .i64 x.Path, .sl 1 (encL eS x.Names), .int .i64 x.Seal.Key, .int .i64 x.Seal.Sum]
theorem api_Certificate.enc_len (x : api_Certificate) : (api_Certificate.enc x).length = 15 := rfl
abbrev api_Entry.dv (x : api_Entry) : List DV := [.val (.string x.Alias), .val (.int .i64 x.Key.Alg), .val (.int .i64 x.Key.Bits), .val (.int .i64 x.KeyId), .val (.bool x.Secret), .sl 15 (encL api_Certificate.enc x.Chain)]
def api_Entry.enc (x : api_Entry) : List C := [.str x.Alias, .int .i64 x.Key.Alg, .int .i64 x.Key.Bits, .int .i64 x.KeyId, .bool x.Secret, .sl 15 (encL api_Certificate.enc x.Chain)]
theorem api_Entry.enc_len (x : api_Entry) : (api_Entry.enc x).length = 6 := rfl
abbrev catalog_row.dv (x : catalog_row) : List DV := [.val (.string x.name), .val (.int .i64 x.kind), .val (.int .i64 x.way), .sl 1 (encL eI x.sizes), .sl 1 (encL eI x.strengths)]
def catalog_row.enc (x : catalog_row) : List C := [.str x.name, .int .i64 x.kind, .int .i64 x.way, .sl 1 (encL eI x.sizes), .sl 1 (encL eI x.strengths)]
theorem catalog_row.enc_len (x : catalog_row) : (catalog_row.enc x).length = 5 := rfl
abbrev cipherplanref02_row.dv (x : cipherplanref02_row) : List DV := [.val (.string x.name), .val (.int .i64 x.kind)]
def cipherplanref02_row.enc (x : cipherplanref02_row) : List C := [.str x.name, .int .i64 x.kind]
theorem cipherplanref02_row.enc_len (x : cipherplanref02_row) : (cipherplanref02_row.enc x).length = 2 := rfl
abbrev cipherplanmake_Dice.dv (x : cipherplanmake_Dice) : List DV := [.sl 1 (encL eI x.L), .val (.int .i64 x.At)]
def cipherplanmake_Dice.enc (x : cipherplanmake_Dice) : List C := [.sl 1 (encL eI x.L), .int .i64 x.At]
theorem cipherplanmake_Dice.enc_len (x : cipherplanmake_Dice) : (cipherplanmake_Dice.enc x).length = 2 := rfl
mutual
def api_Value.enc : api_Value → List C
 | ⟨Tag, Bytes, Nested, Elements⟩ => [.int .i64 Tag, .sl 1 (encL e8 Bytes), .bool Nested, .sl 4 (api_Value.encs Elements)]
def api_Value.encs : List api_Value → List C
 | [] => []
 | x :: l => api_Value.enc x ++ api_Value.encs l
end
theorem api_Value.encs_eq : ∀ (l : List api_Value), api_Value.encs l = encL api_Value.enc l
 | [] => rfl
 | x :: l => by
  show api_Value.enc x ++ api_Value.encs l = api_Value.enc x ++ encL api_Value.enc l
  rw [api_Value.encs_eq l]
theorem api_Value.enc_eq (x : api_Value) : api_Value.enc x = [.int .i64 x.Tag, .sl 1 (encL e8 x.Bytes), .bool x.Nested, .sl 4 (encL api_Value.enc x.Elements)] := by
 cases x
 simp only [api_Value.enc, api_Value.encs_eq]
theorem api_Value.enc_len (x : api_Value) : (api_Value.enc x).length = 4 := by rw [api_Value.enc_eq]; rfl
abbrev api_Value.dv (x : api_Value) : List DV := [.val (.int .i64 x.Tag), .sl 1 (encL e8 x.Bytes), .val (.bool x.Nested), .sl 4 (encL api_Value.enc x.Elements)]
theorem und3 : Try.prog.underlying 3 = some (.int .i64) := by kernel_rfl
theorem und4 : Try.prog.underlying 4 = some (.bool) := by kernel_rfl
theorem und5 : Try.prog.underlying 5 = some (.int .u8) := by kernel_rfl
theorem und9 : Try.prog.underlying 9 = some (.string) := by kernel_rfl
theorem und25 : Try.prog.underlying 25 = some (.struct ((match Try.prog.underlying 25 with | some (.struct f) => f | _ => #[]))) := by kernel_rfl
theorem und28 : Try.prog.underlying 28 = some (.struct ((match Try.prog.underlying 28 with | some (.struct f) => f | _ => #[]))) := by kernel_rfl
theorem und48 : Try.prog.underlying 48 = some (.struct ((match Try.prog.underlying 48 with | some (.struct f) => f | _ => #[]))) := by kernel_rfl
theorem und51 : Try.prog.underlying 51 = some (.slice 9) := by kernel_rfl
theorem und56 : Try.prog.underlying 56 = some (.int .u64) := by kernel_rfl
theorem und58 : Try.prog.underlying 58 = some (.slice 5) := by kernel_rfl
theorem und62 : Try.prog.underlying 62 = some (.struct ((match Try.prog.underlying 62 with | some (.struct f) => f | _ => #[]))) := by kernel_rfl
theorem und64 : Try.prog.underlying 64 = some (.struct ((match Try.prog.underlying 64 with | some (.struct f) => f | _ => #[]))) := by kernel_rfl
theorem und79 : Try.prog.underlying 79 = some (.int .u32) := by kernel_rfl
theorem und81 : Try.prog.underlying 81 = some (.int .u64) := by kernel_rfl
theorem und86 : Try.prog.underlying 86 = some (.struct ((match Try.prog.underlying 86 with | some (.struct f) => f | _ => #[]))) := by kernel_rfl
theorem und94 : Try.prog.underlying 94 = some (.int .u64) := by kernel_rfl
theorem und102 : Try.prog.underlying 102 = some (.array 23 86) := by kernel_rfl
theorem und107 : Try.prog.underlying 107 = some (.struct ((match Try.prog.underlying 107 with | some (.struct f) => f | _ => #[]))) := by kernel_rfl
theorem und115 : Try.prog.underlying 115 = some (.array 2 3) := by kernel_rfl
theorem und116 : Try.prog.underlying 116 = some (.array 5 115) := by kernel_rfl
theorem und124 : Try.prog.underlying 124 = some (.struct ((match Try.prog.underlying 124 with | some (.struct f) => f | _ => #[]))) := by kernel_rfl
theorem fd107_1 : Fd Try.prog 107 1 1 3 := ⟨_, (match Try.prog.underlying 107 with | some (.struct f) => f | _ => #[])[1]!, und107, by kernel_rfl, by kernel_rfl, by kernel_rfl⟩
theorem fd124_0 : Fd Try.prog 124 0 0 3 := ⟨_, (match Try.prog.underlying 124 with | some (.struct f) => f | _ => #[])[0]!, und124, by kernel_rfl, by kernel_rfl, by kernel_rfl⟩
theorem fd124_1 : Fd Try.prog 124 1 1 58 := ⟨_, (match Try.prog.underlying 124 with | some (.struct f) => f | _ => #[])[1]!, und124, by kernel_rfl, by kernel_rfl, by kernel_rfl⟩
theorem fd124_2 : Fd Try.prog 124 2 2 4 := ⟨_, (match Try.prog.underlying 124 with | some (.struct f) => f | _ => #[])[2]!, und124, by kernel_rfl, by kernel_rfl, by kernel_rfl⟩
theorem fd124_3 : Fd Try.prog 124 3 3 122 := ⟨_, (match Try.prog.underlying 124 with | some (.struct f) => f | _ => #[])[3]!, und124, by kernel_rfl, by kernel_rfl, by kernel_rfl⟩
theorem fd25_0 : Fd Try.prog 25 0 0 3 := ⟨_, (match Try.prog.underlying 25 with | some (.struct f) => f | _ => #[])[0]!, und25, by kernel_rfl, by kernel_rfl, by kernel_rfl⟩
theorem fd25_1 : Fd Try.prog 25 1 1 3 := ⟨_, (match Try.prog.underlying 25 with | some (.struct f) => f | _ => #[])[1]!, und25, by kernel_rfl, by kernel_rfl, by kernel_rfl⟩
theorem fd28_0 : Fd Try.prog 28 0 0 9 := ⟨_, (match Try.prog.underlying 28 with | some (.struct f) => f | _ => #[])[0]!, und28, by kernel_rfl, by kernel_rfl, by kernel_rfl⟩
theorem fd28_1 : Fd Try.prog 28 1 1 25 := ⟨_, (match Try.prog.underlying 28 with | some (.struct f) => f | _ => #[])[1]!, und28, by kernel_rfl, by kernel_rfl, by kernel_rfl⟩
theorem fd28_2 : Fd Try.prog 28 2 3 3 := ⟨_, (match Try.prog.underlying 28 with | some (.struct f) => f | _ => #[])[2]!, und28, by kernel_rfl, by kernel_rfl, by kernel_rfl⟩
theorem fd28_3 : Fd Try.prog 28 3 4 4 := ⟨_, (match Try.prog.underlying 28 with | some (.struct f) => f | _ => #[])[3]!, und28, by kernel_rfl, by kernel_rfl, by kernel_rfl⟩
theorem fd28_4 : Fd Try.prog 28 4 5 26 := ⟨_, (match Try.prog.underlying 28 with | some (.struct f) => f | _ => #[])[4]!, und28, by kernel_rfl, by kernel_rfl, by kernel_rfl⟩
theorem fd48_0 : Fd Try.prog 48 0 0 34 := ⟨_, (match Try.prog.underlying 48 with | some (.struct f) => f | _ => #[])[0]!, und48, by kernel_rfl, by kernel_rfl, by kernel_rfl⟩
theorem fd48_1 : Fd Try.prog 48 1 1 3 := ⟨_, (match Try.prog.underlying 48 with | some (.struct f) => f | _ => #[])[1]!, und48, by kernel_rfl, by kernel_rfl, by kernel_rfl⟩
theorem fd62_0 : Fd Try.prog 62 0 0 3 := ⟨_, (match Try.prog.underlying 62 with | some (.struct f) => f | _ => #[])[0]!, und62, by kernel_rfl, by kernel_rfl, by kernel_rfl⟩
theorem fd62_1 : Fd Try.prog 62 1 1 3 := ⟨_, (match Try.prog.underlying 62 with | some (.struct f) => f | _ => #[])[1]!, und62, by kernel_rfl, by kernel_rfl, by kernel_rfl⟩
theorem fd64_0 : Fd Try.prog 64 0 0 3 := ⟨_, (match Try.prog.underlying 64 with | some (.struct f) => f | _ => #[])[0]!, und64, by kernel_rfl, by kernel_rfl, by kernel_rfl⟩
theorem fd64_1 : Fd Try.prog 64 1 1 9 := ⟨_, (match Try.prog.underlying 64 with | some (.struct f) => f | _ => #[])[1]!, und64, by kernel_rfl, by kernel_rfl, by kernel_rfl⟩
theorem fd64_10 : Fd Try.prog 64 10 12 51 := ⟨_, (match Try.prog.underlying 64 with | some (.struct f) => f | _ => #[])[10]!, und64, by kernel_rfl, by kernel_rfl, by kernel_rfl⟩
theorem fd64_11 : Fd Try.prog 64 11 13 62 := ⟨_, (match Try.prog.underlying 64 with | some (.struct f) => f | _ => #[])[11]!, und64, by kernel_rfl, by kernel_rfl, by kernel_rfl⟩
theorem fd64_2 : Fd Try.prog 64 2 2 9 := ⟨_, (match Try.prog.underlying 64 with | some (.struct f) => f | _ => #[])[2]!, und64, by kernel_rfl, by kernel_rfl, by kernel_rfl⟩
theorem fd64_3 : Fd Try.prog 64 3 3 25 := ⟨_, (match Try.prog.underlying 64 with | some (.struct f) => f | _ => #[])[3]!, und64, by kernel_rfl, by kernel_rfl, by kernel_rfl⟩
theorem fd64_4 : Fd Try.prog 64 4 5 3 := ⟨_, (match Try.prog.underlying 64 with | some (.struct f) => f | _ => #[])[4]!, und64, by kernel_rfl, by kernel_rfl, by kernel_rfl⟩
theorem fd64_5 : Fd Try.prog 64 5 6 25 := ⟨_, (match Try.prog.underlying 64 with | some (.struct f) => f | _ => #[])[5]!, und64, by kernel_rfl, by kernel_rfl, by kernel_rfl⟩
theorem fd64_6 : Fd Try.prog 64 6 8 3 := ⟨_, (match Try.prog.underlying 64 with | some (.struct f) => f | _ => #[])[6]!, und64, by kernel_rfl, by kernel_rfl, by kernel_rfl⟩
theorem fd64_7 : Fd Try.prog 64 7 9 3 := ⟨_, (match Try.prog.underlying 64 with | some (.struct f) => f | _ => #[])[7]!, und64, by kernel_rfl, by kernel_rfl, by kernel_rfl⟩
theorem fd64_8 : Fd Try.prog 64 8 10 4 := ⟨_, (match Try.prog.underlying 64 with | some (.struct f) => f | _ => #[])[8]!, und64, by kernel_rfl, by kernel_rfl, by kernel_rfl⟩
theorem fd64_9 : Fd Try.prog 64 9 11 3 := ⟨_, (match Try.prog.underlying 64 with | some (.struct f) => f | _ => #[])[9]!, und64, by kernel_rfl, by kernel_rfl, by kernel_rfl⟩
theorem fd86_1 : Fd Try.prog 86 1 1 3 := ⟨_, (match Try.prog.underlying 86 with | some (.struct f) => f | _ => #[])[1]!, und86, by kernel_rfl, by kernel_rfl, by kernel_rfl⟩
theorem fd86_2 : Fd Try.prog 86 2 2 3 := ⟨_, (match Try.prog.underlying 86 with | some (.struct f) => f | _ => #[])[2]!, und86, by kernel_rfl, by kernel_rfl, by kernel_rfl⟩
theorem fd86_3 : Fd Try.prog 86 3 3 34 := ⟨_, (match Try.prog.underlying 86 with | some (.struct f) => f | _ => #[])[3]!, und86, by kernel_rfl, by kernel_rfl, by kernel_rfl⟩
theorem fd86_4 : Fd Try.prog 86 4 4 34 := ⟨_, (match Try.prog.underlying 86 with | some (.struct f) => f | _ => #[])[4]!, und86, by kernel_rfl, by kernel_rfl, by kernel_rfl⟩
theorem pl107 : ((match Try.prog.underlying 107 with | some (.struct f) => f | _ => #[]) : Array Field).toList.map (fun f => (Try.prog.info? f.type).map fun i => (f.offset, i.size)) = [(0, 1), (1, 1)].map some := by kernel_rfl
theorem pl124 : ((match Try.prog.underlying 124 with | some (.struct f) => f | _ => #[]) : Array Field).toList.map (fun f => (Try.prog.info? f.type).map fun i => (f.offset, i.size)) = [(0, 1), (1, 1), (2, 1), (3, 1)].map some := by kernel_rfl
theorem pl25 : ((match Try.prog.underlying 25 with | some (.struct f) => f | _ => #[]) : Array Field).toList.map (fun f => (Try.prog.info? f.type).map fun i => (f.offset, i.size)) = [(0, 1), (1, 1)].map some := by kernel_rfl
theorem pl28 : ((match Try.prog.underlying 28 with | some (.struct f) => f | _ => #[]) : Array Field).toList.map (fun f => (Try.prog.info? f.type).map fun i => (f.offset, i.size)) = [(0, 1), (1, 2), (3, 1), (4, 1), (5, 1)].map some := by kernel_rfl
theorem pl48 : ((match Try.prog.underlying 48 with | some (.struct f) => f | _ => #[]) : Array Field).toList.map (fun f => (Try.prog.info? f.type).map fun i => (f.offset, i.size)) = [(0, 1), (1, 1)].map some := by kernel_rfl
theorem pl62 : ((match Try.prog.underlying 62 with | some (.struct f) => f | _ => #[]) : Array Field).toList.map (fun f => (Try.prog.info? f.type).map fun i => (f.offset, i.size)) = [(0, 1), (1, 1)].map some := by kernel_rfl
theorem pl64 : ((match Try.prog.underlying 64 with | some (.struct f) => f | _ => #[]) : Array Field).toList.map (fun f => (Try.prog.info? f.type).map fun i => (f.offset, i.size)) = [(0, 1), (1, 1), (2, 1), (3, 2), (5, 1), (6, 2), (8, 1), (9, 1), (10, 1), (11, 1), (12, 1), (13, 2)].map some := by kernel_rfl
theorem pl86 : ((match Try.prog.underlying 86 with | some (.struct f) => f | _ => #[]) : Array Field).toList.map (fun f => (Try.prog.info? f.type).map fun i => (f.offset, i.size)) = [(0, 1), (1, 1), (2, 1), (3, 1), (4, 1)].map some := by kernel_rfl
theorem sl108 : SlT Try.prog 108 107 2 24 := SlT.mk' (z := (.agg #[.string ⟨#[]⟩, .int .i64 0])) (by kernel_rfl) (by kernel_rfl) rfl (by decide) (by decide)
theorem sl122 : SlT Try.prog 122 124 4 64 := SlT.mk' (z := (.agg #[.int .i64 0, .slice none 0 0, .bool false, .slice none 0 0])) (by kernel_rfl) (by kernel_rfl) rfl (by decide) (by decide)
theorem sl22 : SlT Try.prog 22 28 6 72 := SlT.mk' (z := (.agg #[.string ⟨#[]⟩, .int .i64 0, .int .i64 0, .int .i64 0, .bool false, .slice none 0 0])) (by kernel_rfl) (by kernel_rfl) rfl (by decide) (by decide)
theorem sl26 : SlT Try.prog 26 64 15 152 := SlT.mk' (z := (.agg #[.int .i64 0, .string ⟨#[]⟩, .string ⟨#[]⟩, .int .i64 0, .int .i64 0, .int .i64 0, .int .i64 0, .int .i64 0, .int .i64 0, .int .i64 0, .bool false, .int .i64 0, .slice none 0 0, .int .i64 0, .int .i64 0])) (by kernel_rfl) (by kernel_rfl) rfl (by decide) (by decide)
theorem sl34 : SlT Try.prog 34 3 1 8 := SlT.mk' (z := (.int .i64 0)) (by kernel_rfl) (by kernel_rfl) rfl (by decide) (by decide)
theorem sl51 : SlT Try.prog 51 9 1 16 := SlT.mk' (z := (.string ⟨#[]⟩)) (by kernel_rfl) (by kernel_rfl) rfl (by decide) (by decide)
theorem sl58 : SlT Try.prog 58 5 1 1 := SlT.mk' (z := (.int .u8 0)) (by kernel_rfl) (by kernel_rfl) rfl (by decide) (by decide)
theorem ty102 : Ty Try.prog 102 true 115 := ⟨by kernel_rfl, by kernel_rfl⟩
theorem ty115 : Ty Try.prog 115 true 2 := ⟨by kernel_rfl, by kernel_rfl⟩
theorem ty122 : Ty Try.prog 122 false 1 := ⟨by kernel_rfl, by kernel_rfl⟩
theorem ty124 : Ty Try.prog 124 true 4 := ⟨by kernel_rfl, by kernel_rfl⟩
theorem ty25 : Ty Try.prog 25 true 2 := ⟨by kernel_rfl, by kernel_rfl⟩
theorem ty26 : Ty Try.prog 26 false 1 := ⟨by kernel_rfl, by kernel_rfl⟩
theorem ty28 : Ty Try.prog 28 true 6 := ⟨by kernel_rfl, by kernel_rfl⟩
theorem ty3 : Ty Try.prog 3 false 1 := ⟨by kernel_rfl, by kernel_rfl⟩
theorem ty34 : Ty Try.prog 34 false 1 := ⟨by kernel_rfl, by kernel_rfl⟩
theorem ty4 : Ty Try.prog 4 false 1 := ⟨by kernel_rfl, by kernel_rfl⟩
theorem ty5 : Ty Try.prog 5 false 1 := ⟨by kernel_rfl, by kernel_rfl⟩
theorem ty51 : Ty Try.prog 51 false 1 := ⟨by kernel_rfl, by kernel_rfl⟩
theorem ty58 : Ty Try.prog 58 false 1 := ⟨by kernel_rfl, by kernel_rfl⟩
theorem ty62 : Ty Try.prog 62 true 2 := ⟨by kernel_rfl, by kernel_rfl⟩
theorem ty64 : Ty Try.prog 64 true 15 := ⟨by kernel_rfl, by kernel_rfl⟩
theorem ty86 : Ty Try.prog 86 true 5 := ⟨by kernel_rfl, by kernel_rfl⟩
theorem ty9 : Ty Try.prog 9 false 1 := ⟨by kernel_rfl, by kernel_rfl⟩
theorem ty94 : Ty Try.prog 94 false 1 := ⟨by kernel_rfl, by kernel_rfl⟩
theorem z102 : Zt Try.prog 102 [.string ⟨#[]⟩, .int .i64 0, .int .i64 0, .slice none 0 0, .slice none 0 0, .string ⟨#[]⟩, .int .i64 0, .int .i64 0, .slice none 0 0, .slice none 0 0, .string ⟨#[]⟩, .int .i64 0, .int .i64 0, .slice none 0 0, .slice none 0 0, .string ⟨#[]⟩, .int .i64 0, .int .i64 0, .slice none 0 0, .slice none 0 0, .string ⟨#[]⟩, .int .i64 0, .int .i64 0, .slice none 0 0, .slice none 0 0, .string ⟨#[]⟩, .int .i64 0, .int .i64 0, .slice none 0 0, .slice none 0 0, .string ⟨#[]⟩, .int .i64 0, .int .i64 0, .slice none 0 0, .slice none 0 0, .string ⟨#[]⟩, .int .i64 0, .int .i64 0, .slice none 0 0, .slice none 0 0, .string ⟨#[]⟩, .int .i64 0, .int .i64 0, .slice none 0 0, .slice none 0 0, .string ⟨#[]⟩, .int .i64 0, .int .i64 0, .slice none 0 0, .slice none 0 0, .string ⟨#[]⟩, .int .i64 0, .int .i64 0, .slice none 0 0, .slice none 0 0, .string ⟨#[]⟩, .int .i64 0, .int .i64 0, .slice none 0 0, .slice none 0 0, .string ⟨#[]⟩, .int .i64 0, .int .i64 0, .slice none 0 0, .slice none 0 0, .string ⟨#[]⟩, .int .i64 0, .int .i64 0, .slice none 0 0, .slice none 0 0, .string ⟨#[]⟩, .int .i64 0, .int .i64 0, .slice none 0 0, .slice none 0 0, .string ⟨#[]⟩, .int .i64 0, .int .i64 0, .slice none 0 0, .slice none 0 0, .string ⟨#[]⟩, .int .i64 0, .int .i64 0, .slice none 0 0, .slice none 0 0, .string ⟨#[]⟩, .int .i64 0, .int .i64 0, .slice none 0 0, .slice none 0 0, .string ⟨#[]⟩, .int .i64 0, .int .i64 0, .slice none 0 0, .slice none 0 0, .string ⟨#[]⟩, .int .i64 0, .int .i64 0, .slice none 0 0, .slice none 0 0, .string ⟨#[]⟩, .int .i64 0, .int .i64 0, .slice none 0 0, .slice none 0 0, .string ⟨#[]⟩, .int .i64 0, .int .i64 0, .slice none 0 0, .slice none 0 0, .string ⟨#[]⟩, .int .i64 0, .int .i64 0, .slice none 0 0, .slice none 0 0] := ⟨(.agg #[.string ⟨#[]⟩, .int .i64 0, .int .i64 0, .slice none 0 0, .slice none 0 0, .string ⟨#[]⟩, .int .i64 0, .int .i64 0, .slice none 0 0, .slice none 0 0, .string ⟨#[]⟩, .int .i64 0, .int .i64 0, .slice none 0 0, .slice none 0 0, .string ⟨#[]⟩, .int .i64 0, .int .i64 0, .slice none 0 0, .slice none 0 0, .string ⟨#[]⟩, .int .i64 0, .int .i64 0, .slice none 0 0, .slice none 0 0, .string ⟨#[]⟩, .int .i64 0, .int .i64 0, .slice none 0 0, .slice none 0 0, .string ⟨#[]⟩, .int .i64 0, .int .i64 0, .slice none 0 0, .slice none 0 0, .string ⟨#[]⟩, .int .i64 0, .int .i64 0, .slice none 0 0, .slice none 0 0, .string ⟨#[]⟩, .int .i64 0, .int .i64 0, .slice none 0 0, .slice none 0 0, .string ⟨#[]⟩, .int .i64 0, .int .i64 0, .slice none 0 0, .slice none 0 0, .string ⟨#[]⟩, .int .i64 0, .int .i64 0, .slice none 0 0, .slice none 0 0, .string ⟨#[]⟩, .int .i64 0, .int .i64 0, .slice none 0 0, .slice none 0 0, .string ⟨#[]⟩, .int .i64 0, .int .i64 0, .slice none 0 0, .slice none 0 0, .string ⟨#[]⟩, .int .i64 0, .int .i64 0, .slice none 0 0, .slice none 0 0, .string ⟨#[]⟩, .int .i64 0, .int .i64 0, .slice none 0 0, .slice none 0 0, .string ⟨#[]⟩, .int .i64 0, .int .i64 0, .slice none 0 0, .slice none 0 0, .string ⟨#[]⟩, .int .i64 0, .int .i64 0, .slice none 0 0, .slice none 0 0, .string ⟨#[]⟩, .int .i64 0, .int .i64 0, .slice none 0 0, .slice none 0 0, .string ⟨#[]⟩, .int .i64 0, .int .i64 0, .slice none 0 0, .slice none 0 0, .string ⟨#[]⟩, .int .i64 0, .int .i64 0, .slice none 0 0, .slice none 0 0, .string ⟨#[]⟩, .int .i64 0, .int .i64 0, .slice none 0 0, .slice none 0 0, .string ⟨#[]⟩, .int .i64 0, .int .i64 0, .slice none 0 0, .slice none 0 0, .string ⟨#[]⟩, .int .i64 0, .int .i64 0, .slice none 0 0, .slice none 0 0]), by kernel_rfl, rfl, by decide⟩
theorem z107 : Zt Try.prog 107 [.string ⟨#[]⟩, .int .i64 0] := ⟨(.agg #[.string ⟨#[]⟩, .int .i64 0]), by kernel_rfl, rfl, by decide⟩
theorem z115 : Zt Try.prog 115 [.int .i64 0, .int .i64 0] := ⟨(.agg #[.int .i64 0, .int .i64 0]), by kernel_rfl, rfl, by decide⟩
theorem z116 : Zt Try.prog 116 [.int .i64 0, .int .i64 0, .int .i64 0, .int .i64 0, .int .i64 0, .int .i64 0, .int .i64 0, .int .i64 0, .int .i64 0, .int .i64 0] := ⟨(.agg #[.int .i64 0, .int .i64 0, .int .i64 0, .int .i64 0, .int .i64 0, .int .i64 0, .int .i64 0, .int .i64 0, .int .i64 0, .int .i64 0]), by kernel_rfl, rfl, by decide⟩
theorem z124 : Zt Try.prog 124 [.int .i64 0, .slice none 0 0, .bool false, .slice none 0 0] := ⟨(.agg #[.int .i64 0, .slice none 0 0, .bool false, .slice none 0 0]), by kernel_rfl, rfl, by decide⟩
theorem z25 : Zt Try.prog 25 [.int .i64 0, .int .i64 0] := ⟨(.agg #[.int .i64 0, .int .i64 0]), by kernel_rfl, rfl, by decide⟩
theorem z28 : Zt Try.prog 28 [.string ⟨#[]⟩, .int .i64 0, .int .i64 0, .int .i64 0, .bool false, .slice none 0 0] := ⟨(.agg #[.string ⟨#[]⟩, .int .i64 0, .int .i64 0, .int .i64 0, .bool false, .slice none 0 0]), by kernel_rfl, rfl, by decide⟩
theorem z3 : Zt Try.prog 3 [.int .i64 0] := ⟨(.int .i64 0), by kernel_rfl, rfl, by decide⟩
theorem z48 : Zt Try.prog 48 [.slice none 0 0, .int .i64 0] := ⟨(.agg #[.slice none 0 0, .int .i64 0]), by kernel_rfl, rfl, by decide⟩
theorem z5 : Zt Try.prog 5 [.int .u8 0] := ⟨(.int .u8 0), by kernel_rfl, rfl, by decide⟩
theorem z62 : Zt Try.prog 62 [.int .i64 0, .int .i64 0] := ⟨(.agg #[.int .i64 0, .int .i64 0]), by kernel_rfl, rfl, by decide⟩
theorem z64 : Zt Try.prog 64 [.int .i64 0, .string ⟨#[]⟩, .string ⟨#[]⟩, .int .i64 0, .int .i64 0, .int .i64 0, .int .i64 0, .int .i64 0, .int .i64 0, .int .i64 0, .bool false, .int .i64 0, .slice none 0 0, .int .i64 0, .int .i64 0] := ⟨(.agg #[.int .i64 0, .string ⟨#[]⟩, .string ⟨#[]⟩, .int .i64 0, .int .i64 0, .int .i64 0, .int .i64 0, .int .i64 0, .int .i64 0, .int .i64 0, .bool false, .int .i64 0, .slice none 0 0, .int .i64 0, .int .i64 0]), by kernel_rfl, rfl, by decide⟩
theorem z86 : Zt Try.prog 86 [.string ⟨#[]⟩, .int .i64 0, .int .i64 0, .slice none 0 0, .slice none 0 0] := ⟨(.agg #[.string ⟨#[]⟩, .int .i64 0, .int .i64 0, .slice none 0 0, .slice none 0 0]), by kernel_rfl, rfl, by decide⟩
theorem z9 : Zt Try.prog 9 [.string ⟨#[]⟩] := ⟨(.string ⟨#[]⟩), by kernel_rfl, rfl, by decide⟩
theorem z94 : Zt Try.prog 94 [.int .u64 0] := ⟨(.int .u64 0), by kernel_rfl, rfl, by decide⟩
theorem ck107 : cellK Try.prog 20 107 = [none, none] := by kernel_rfl
theorem ck124 : cellK Try.prog 20 124 = [none, some 1, none, some 4] := by kernel_rfl
theorem ck28 : cellK Try.prog 20 28 = [none, none, none, none, none, some 15] := by kernel_rfl
theorem ck3 : cellK Try.prog 20 3 = [none] := by kernel_rfl
theorem ck5 : cellK Try.prog 20 5 = [none] := by kernel_rfl
theorem ck64 : cellK Try.prog 20 64 = [none, none, none, none, none, none, none, none, none, none, none, none, some 1, none, none] := by kernel_rfl
theorem ck9 : cellK Try.prog 20 9 = [none] := by kernel_rfl
theorem eg25 : Try.prog.eqGuardType Try.prog.depth 25 = false := by kernel_rfl
theorem sf25 : Try.prog.underlying 25 = some (.struct (Try.prog.fieldsOf 25)) := by kernel_rfl
theorem sh25 : Try.prog.stoodInHeld 25 = false := by kernel_rfl
theorem se25 (x y : api_Use) (w : World) : (Op.equalIn 10000 25 (.agg #[.int .i64 x.Alg, .int .i64 x.Bits]) (.agg #[.int .i64 y.Alg, .int .i64 y.Bits])).run Try.prog w = .ok (decide (x = y)) w := by
 have u3 := Try.underlying3
 have a3 := Try.isAgg3
 have z3 := Try.sizeOf3
 rw [show (10000 : Nat) = 9999 + 1 from rfl, run_equalIn_agg w 9999 25 _ _ sf25 sh25]
 simp only [Program.fieldsOf, Try.underlying25]
 go_simp
 rcases x with ⟨x0, x1⟩
 rcases y with ⟨y0, y1⟩
 by_cases h0 : x0 = y0 <;> by_cases h1 : x1 = y1 <;> simp [h0, h1]
theorem steq25_eql (x y : api_Use) {X Y : Operand} {tk : Nat} {yt ty : TypeId} {b1 b2 : Option LB} : OpR Try.prog tk (.binOp .eql 25 X Y yt) ty [(.agg [.val (.int .i64 x.Alg), .val (.int .i64 x.Bits)], b1), (.agg [.val (.int .i64 y.Alg), .val (.int .i64 y.Bits)], b2)] [] (v0 (.val (.bool (decide (x = y))))) :=
 .binOpA rfl rfl (fun _ _ => rfl) (fun w => by
  rw [Sem.run_bind, run_eqGuard_agg w _ 25 X Y _ _ eg25]
  simp only [Result.andThen_ok, run_eql_struct]
  exact congrArg (fun r => Result.andThen r _) (se25 x y w))
theorem steq25_neq (x y : api_Use) {X Y : Operand} {tk : Nat} {yt ty : TypeId} {b1 b2 : Option LB} : OpR Try.prog tk (.binOp .neq 25 X Y yt) ty [(.agg [.val (.int .i64 x.Alg), .val (.int .i64 x.Bits)], b1), (.agg [.val (.int .i64 y.Alg), .val (.int .i64 y.Bits)], b2)] [] (v0 (.val (.bool (!decide (x = y))))) :=
 .binOpA rfl rfl (fun _ _ => rfl) (fun w => by
  rw [Sem.run_bind, run_eqGuard_agg w _ 25 X Y _ _ eg25]
  simp only [Result.andThen_ok, run_neq_struct]
  exact congrArg (fun r => Result.andThen r _) (se25 x y w))
theorem eg62 : Try.prog.eqGuardType Try.prog.depth 62 = false := by kernel_rfl
theorem sf62 : Try.prog.underlying 62 = some (.struct (Try.prog.fieldsOf 62)) := by kernel_rfl
theorem sh62 : Try.prog.stoodInHeld 62 = false := by kernel_rfl
theorem se62 (x y : api_Seal) (w : World) : (Op.equalIn 10000 62 (.agg #[.int .i64 x.Key, .int .i64 x.Sum]) (.agg #[.int .i64 y.Key, .int .i64 y.Sum])).run Try.prog w = .ok (decide (x = y)) w := by
 have u3 := Try.underlying3
 have a3 := Try.isAgg3
 have z3 := Try.sizeOf3
 rw [show (10000 : Nat) = 9999 + 1 from rfl, run_equalIn_agg w 9999 62 _ _ sf62 sh62]
 simp only [Program.fieldsOf, Try.underlying62]
 go_simp
 rcases x with ⟨x0, x1⟩
 rcases y with ⟨y0, y1⟩
 by_cases h0 : x0 = y0 <;> by_cases h1 : x1 = y1 <;> simp [h0, h1]
theorem steq62_eql (x y : api_Seal) {X Y : Operand} {tk : Nat} {yt ty : TypeId} {b1 b2 : Option LB} : OpR Try.prog tk (.binOp .eql 62 X Y yt) ty [(.agg [.val (.int .i64 x.Key), .val (.int .i64 x.Sum)], b1), (.agg [.val (.int .i64 y.Key), .val (.int .i64 y.Sum)], b2)] [] (v0 (.val (.bool (decide (x = y))))) :=
 .binOpA rfl rfl (fun _ _ => rfl) (fun w => by
  rw [Sem.run_bind, run_eqGuard_agg w _ 62 X Y _ _ eg62]
  simp only [Result.andThen_ok, run_eql_struct]
  exact congrArg (fun r => Result.andThen r _) (se62 x y w))
instance : FdC Try.prog 107 1 1 3 := ⟨fd107_1⟩
instance : FdC Try.prog 124 0 0 3 := ⟨fd124_0⟩
instance : FdC Try.prog 124 1 1 58 := ⟨fd124_1⟩
instance : FdC Try.prog 124 2 2 4 := ⟨fd124_2⟩
instance : FdC Try.prog 124 3 3 122 := ⟨fd124_3⟩
instance : FdC Try.prog 25 0 0 3 := ⟨fd25_0⟩
instance : FdC Try.prog 25 1 1 3 := ⟨fd25_1⟩
instance : FdC Try.prog 28 0 0 9 := ⟨fd28_0⟩
instance : FdC Try.prog 28 1 1 25 := ⟨fd28_1⟩
instance : FdC Try.prog 28 2 3 3 := ⟨fd28_2⟩
instance : FdC Try.prog 28 3 4 4 := ⟨fd28_3⟩
instance : FdC Try.prog 28 4 5 26 := ⟨fd28_4⟩
instance : FdC Try.prog 48 0 0 34 := ⟨fd48_0⟩
instance : FdC Try.prog 48 1 1 3 := ⟨fd48_1⟩
instance : FdC Try.prog 62 0 0 3 := ⟨fd62_0⟩
instance : FdC Try.prog 62 1 1 3 := ⟨fd62_1⟩
instance : FdC Try.prog 64 0 0 3 := ⟨fd64_0⟩
instance : FdC Try.prog 64 1 1 9 := ⟨fd64_1⟩
instance : FdC Try.prog 64 10 12 51 := ⟨fd64_10⟩
instance : FdC Try.prog 64 11 13 62 := ⟨fd64_11⟩
instance : FdC Try.prog 64 2 2 9 := ⟨fd64_2⟩
instance : FdC Try.prog 64 3 3 25 := ⟨fd64_3⟩
instance : FdC Try.prog 64 4 5 3 := ⟨fd64_4⟩
instance : FdC Try.prog 64 5 6 25 := ⟨fd64_5⟩
instance : FdC Try.prog 64 6 8 3 := ⟨fd64_6⟩
instance : FdC Try.prog 64 7 9 3 := ⟨fd64_7⟩
instance : FdC Try.prog 64 8 10 4 := ⟨fd64_8⟩
instance : FdC Try.prog 64 9 11 3 := ⟨fd64_9⟩
instance : FdC Try.prog 86 1 1 3 := ⟨fd86_1⟩
instance : FdC Try.prog 86 2 2 3 := ⟨fd86_2⟩
instance : FdC Try.prog 86 3 3 34 := ⟨fd86_3⟩
instance : FdC Try.prog 86 4 4 34 := ⟨fd86_4⟩
instance : SlC Try.prog 108 107 2 24 := ⟨sl108⟩
instance : SlC Try.prog 122 124 4 64 := ⟨sl122⟩
instance : SlC Try.prog 22 28 6 72 := ⟨sl22⟩
instance : SlC Try.prog 26 64 15 152 := ⟨sl26⟩
instance : SlC Try.prog 34 3 1 8 := ⟨sl34⟩
instance : SlC Try.prog 51 9 1 16 := ⟨sl51⟩
instance : SlC Try.prog 58 5 1 1 := ⟨sl58⟩
instance : TyC Try.prog 102 true 115 := ⟨ty102⟩
instance : TyC Try.prog 115 true 2 := ⟨ty115⟩
instance : TyC Try.prog 122 false 1 := ⟨ty122⟩
instance : TyC Try.prog 124 true 4 := ⟨ty124⟩
instance : TyC Try.prog 25 true 2 := ⟨ty25⟩
instance : TyC Try.prog 26 false 1 := ⟨ty26⟩
instance : TyC Try.prog 28 true 6 := ⟨ty28⟩
instance : TyC Try.prog 3 false 1 := ⟨ty3⟩
instance : TyC Try.prog 34 false 1 := ⟨ty34⟩
instance : TyC Try.prog 4 false 1 := ⟨ty4⟩
instance : TyC Try.prog 5 false 1 := ⟨ty5⟩
instance : TyC Try.prog 51 false 1 := ⟨ty51⟩
instance : TyC Try.prog 58 false 1 := ⟨ty58⟩
instance : TyC Try.prog 62 true 2 := ⟨ty62⟩
instance : TyC Try.prog 64 true 15 := ⟨ty64⟩
instance : TyC Try.prog 86 true 5 := ⟨ty86⟩
instance : TyC Try.prog 9 false 1 := ⟨ty9⟩
instance : TyC Try.prog 94 false 1 := ⟨ty94⟩
instance : ZtC Try.prog 102 [.string ⟨#[]⟩, .int .i64 0, .int .i64 0, .slice none 0 0, .slice none 0 0, .string ⟨#[]⟩, .int .i64 0, .int .i64 0, .slice none 0 0, .slice none 0 0, .string ⟨#[]⟩, .int .i64 0, .int .i64 0, .slice none 0 0, .slice none 0 0, .string ⟨#[]⟩, .int .i64 0, .int .i64 0, .slice none 0 0, .slice none 0 0, .string ⟨#[]⟩, .int .i64 0, .int .i64 0, .slice none 0 0, .slice none 0 0, .string ⟨#[]⟩, .int .i64 0, .int .i64 0, .slice none 0 0, .slice none 0 0, .string ⟨#[]⟩, .int .i64 0, .int .i64 0, .slice none 0 0, .slice none 0 0, .string ⟨#[]⟩, .int .i64 0, .int .i64 0, .slice none 0 0, .slice none 0 0, .string ⟨#[]⟩, .int .i64 0, .int .i64 0, .slice none 0 0, .slice none 0 0, .string ⟨#[]⟩, .int .i64 0, .int .i64 0, .slice none 0 0, .slice none 0 0, .string ⟨#[]⟩, .int .i64 0, .int .i64 0, .slice none 0 0, .slice none 0 0, .string ⟨#[]⟩, .int .i64 0, .int .i64 0, .slice none 0 0, .slice none 0 0, .string ⟨#[]⟩, .int .i64 0, .int .i64 0, .slice none 0 0, .slice none 0 0, .string ⟨#[]⟩, .int .i64 0, .int .i64 0, .slice none 0 0, .slice none 0 0, .string ⟨#[]⟩, .int .i64 0, .int .i64 0, .slice none 0 0, .slice none 0 0, .string ⟨#[]⟩, .int .i64 0, .int .i64 0, .slice none 0 0, .slice none 0 0, .string ⟨#[]⟩, .int .i64 0, .int .i64 0, .slice none 0 0, .slice none 0 0, .string ⟨#[]⟩, .int .i64 0, .int .i64 0, .slice none 0 0, .slice none 0 0, .string ⟨#[]⟩, .int .i64 0, .int .i64 0, .slice none 0 0, .slice none 0 0, .string ⟨#[]⟩, .int .i64 0, .int .i64 0, .slice none 0 0, .slice none 0 0, .string ⟨#[]⟩, .int .i64 0, .int .i64 0, .slice none 0 0, .slice none 0 0, .string ⟨#[]⟩, .int .i64 0, .int .i64 0, .slice none 0 0, .slice none 0 0, .string ⟨#[]⟩, .int .i64 0, .int .i64 0, .slice none 0 0, .slice none 0 0] := ⟨z102⟩
instance : ZtC Try.prog 107 [.string ⟨#[]⟩, .int .i64 0] := ⟨z107⟩
instance : ZtC Try.prog 115 [.int .i64 0, .int .i64 0] := ⟨z115⟩
instance : ZtC Try.prog 116 [.int .i64 0, .int .i64 0, .int .i64 0, .int .i64 0, .int .i64 0, .int .i64 0, .int .i64 0, .int .i64 0, .int .i64 0, .int .i64 0] := ⟨z116⟩
instance : ZtC Try.prog 124 [.int .i64 0, .slice none 0 0, .bool false, .slice none 0 0] := ⟨z124⟩
instance : ZtC Try.prog 25 [.int .i64 0, .int .i64 0] := ⟨z25⟩
instance : ZtC Try.prog 28 [.string ⟨#[]⟩, .int .i64 0, .int .i64 0, .int .i64 0, .bool false, .slice none 0 0] := ⟨z28⟩
instance : ZtC Try.prog 3 [.int .i64 0] := ⟨z3⟩
instance : ZtC Try.prog 48 [.slice none 0 0, .int .i64 0] := ⟨z48⟩
instance : ZtC Try.prog 5 [.int .u8 0] := ⟨z5⟩
instance : ZtC Try.prog 62 [.int .i64 0, .int .i64 0] := ⟨z62⟩
instance : ZtC Try.prog 64 [.int .i64 0, .string ⟨#[]⟩, .string ⟨#[]⟩, .int .i64 0, .int .i64 0, .int .i64 0, .int .i64 0, .int .i64 0, .int .i64 0, .int .i64 0, .bool false, .int .i64 0, .slice none 0 0, .int .i64 0, .int .i64 0] := ⟨z64⟩
instance : ZtC Try.prog 86 [.string ⟨#[]⟩, .int .i64 0, .int .i64 0, .slice none 0 0, .slice none 0 0] := ⟨z86⟩
instance : ZtC Try.prog 9 [.string ⟨#[]⟩] := ⟨z9⟩
instance : ZtC Try.prog 94 [.int .u64 0] := ⟨z94⟩
instance : ElC api_Use.enc 2 := ⟨api_Use.enc_len⟩
instance : ElC api_Seal.enc 2 := ⟨api_Seal.enc_len⟩
instance : ElC api_Certificate.enc 15 := ⟨api_Certificate.enc_len⟩
instance : ElC api_Entry.enc 6 := ⟨api_Entry.enc_len⟩
instance : ElC catalog_row.enc 5 := ⟨catalog_row.enc_len⟩
instance : ElC cipherplanref02_row.enc 2 := ⟨cipherplanref02_row.enc_len⟩
instance : ElC cipherplanmake_Dice.enc 2 := ⟨cipherplanmake_Dice.enc_len⟩
instance : ElC api_Value.enc 4 := ⟨api_Value.enc_len⟩
end Go.Proofs.Ytbeageaekgccgaa
