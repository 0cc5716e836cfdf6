/- Encodings; what is known of types. -/
import Derived.Test.YtbeageaekgccgaaGreatEH
import Derived.Test.YtbeageaekgccgaaGreatP1
import Derived.Test.YtbeageaekgccgaaGreatProg
set_option linter.unusedVariables false
set_option linter.unusedSimpArgs false
set_option maxRecDepth 100000
set_option maxHeartbeats 1600000
namespace Go.Proofs.YtbeageaekgccgaaGreat
open Go.RowKit
abbrev cipherplanmake_Dice.dv (x : cipherplanmake_Dice) : List DV := [.sl 1 (encL eI x.L), .val (.int .i64 x.At)]
def cipherplanmake_Dice.enc (x : cipherplanmake_Dice) : List C := [.sl 1 (encL eI x.L), .int .i64 x.At]
theorem cipherplanmake_Dice.enc_len (x : cipherplanmake_Dice) : (cipherplanmake_Dice.enc x).length = 2 := rfl
abbrev api_Use.dv (x : api_Use) : List DV := [.val (.int .i64 x.Alg), .val (.int .i64 x.Bits)]
def api_Use.enc (x : api_Use) : List C := [.int .i64 x.Alg, .int .i64 x.Bits]
theorem api_Use.enc_len (x : api_Use) : (api_Use.enc x).length = 2 := rfl
abbrev api_Seal.dv (x : api_Seal) : List DV := [.val (.int .i64 x.Key), .val (.int .i64 x.Sum)]
def api_Seal.enc (x : api_Seal) : List C := [.int .i64 x.Key, .int .i64 x.Sum]
theorem api_Seal.enc_len (x : api_Seal) : (api_Seal.enc x).length = 2 := rfl
abbrev api_Certificate.dv (x : api_Certificate) : List DV := [.val (.int .i64 x.Serial), .val (.string x.Issuer), .val (.string x.Subject), .val (.int .i64 x.Key.Alg), .val (.int .i64 x.Key.Bits), .val (.int .i64 x.KeyId), .val (.int .i64 x.Hash.Alg), .val (.int .i64 x.Hash.Bits), .val (.int .i64 x.From), .val (.int .i64 x.To), .val (.bool x.Authority), .val (.int .i64 x.Path), .sl 1 (encL eS x.Names), .val (.int .i64 x.Seal.Key), .val (.int .i64 x.Seal.Sum)]
def api_Certificate.enc (x : api_Certificate) : List C := [.int .i64 x.Serial, .str x.Issuer, .str x.Subject, .int .i64 x.Key.Alg, .int .i64 x.Key.Bits, .int .i64 x.KeyId, .int .i64 x.Hash.Alg, .int .i64 x.Hash.Bits, .int .i64 x.From, .int .i64 x.To, .bool x.Authority, .int .i64 x.Path, .sl 1 (encL eS x.Names), .int .i64 x.Seal.Key, .int .i64 x.Seal.Sum]
theorem api_Certificate.enc_len (x : api_Certificate) : (api_Certificate.enc x).length = 15 := rfl
abbrev api_Entry.dv (x : api_Entry) : List DV := [.val (.string x.Alias), .val (.int .i64 x.Key.Alg), .val (.int .i64 x.Key.Bits), .val (.int .i64 x.KeyId), .val (.bool x.Secret), .sl 15 (encL api_Certificate.enc x.Chain)]
def api_Entry.enc (x : api_Entry) : List C := [.str x.Alias, .int .i64 x.Key.Alg, .int .i64 x.Key.Bits, .int .i64 x.KeyId, .bool x.Secret, .sl 15 (encL api_Certificate.enc x.Chain)]
theorem api_Entry.enc_len (x : api_Entry) : (api_Entry.enc x).length = 6 := rfl
abbrev catalog_row.dv (x : catalog_row) : List DV := [.val (.string x.name), .val (.int .i64 x.kind), .val (.int .i64 x.way), .sl 1 (encL eI x.sizes), .sl 1 (encL eI x.strengths)]
def catalog_row.enc (x : catalog_row) : List C := [.str x.name, .int .i64 x.kind, .int .i64 x.way, .sl 1 (encL eI x.sizes), .sl 1 (encL eI x.strengths)]
theorem catalog_row.enc_len (x : catalog_row) : (catalog_row.enc x).length = 5 := rfl
abbrev cipherplanref02_row.dv (x : cipherplanref02_row) : List DV := [.val (.string x.name), .val (.int .i64 x.kind)]
def cipherplanref02_row.enc (x : cipherplanref02_row) : List C := [.str x.name, .int .i64 x.kind]
theorem cipherplanref02_row.enc_len (x : cipherplanref02_row) : (cipherplanref02_row.enc x).length = 2 := rfl
mutual
def api_Value.enc : api_Value → List C
 | ⟨Tag, Bytes, Nested, Elements⟩ => [.int .i64 Tag, .sl 1 (encL e8 Bytes), .bool Nested, .sl 4 (api_Value.encs Elements)]
def api_Value.encs : List api_Value → List C
 | [] => []
 | x :: l => api_Value.enc x ++ api_Value.encs l
end
theorem api_Value.encs_eq : ∀ (l : List api_Value), api_Value.encs l = encL api_Value.enc l
 | [] => rfl
 | x :: l => by
  show api_Value.enc x ++ api_Value.encs l = api_Value.enc x ++ encL api_Value.enc l
  rw [api_Value.encs_eq l]
theorem api_Value.enc_eq (x : api_Value) : api_Value.enc x = [.int .i64 x.Tag, .sl 1 (encL e8 x.Bytes), .bool x.Nested, .sl 4 (encL api_Value.enc x.Elements)] := by
 cases x
 simp only [api_Value.enc, api_Value.encs_eq]
theorem api_Value.enc_len (x : api_Value) : (api_Value.enc x).length = 4 := by rw [api_Value.enc_eq]; rfl
abbrev api_Value.dv (x : api_Value) : List DV := [.val (.int .i64 x.Tag), .sl 1 (encL e8 x.Bytes), .val (.bool x.Nested), .sl 4 (encL api_Value.enc x.Elements)]
abbrev certificate_Reader.dv (x : certificate_Reader) : List DV := [.sl 4 (encL api_Value.enc x.l), .val (.bool x.Failed)]
def certificate_Reader.enc (x : certificate_Reader) : List C := [.sl 4 (encL api_Value.enc x.l), .bool x.Failed]
theorem certificate_Reader.enc_len (x : certificate_Reader) : (certificate_Reader.enc x).length = 2 := rfl
theorem und3 : Tryz.prog.underlying 3 = some (.int .i64) := by kernel_rfl
theorem und4 : Tryz.prog.underlying 4 = some (.bool) := by kernel_rfl
theorem und5 : Tryz.prog.underlying 5 = some (.int .u8) := by kernel_rfl
theorem und9 : Tryz.prog.underlying 9 = some (.string) := by kernel_rfl
theorem und29 : Tryz.prog.underlying 29 = some (.slice 5) := by kernel_rfl
theorem und37 : Tryz.prog.underlying 37 = some (.struct ((match Tryz.prog.underlying 37 with | some (.struct f) => f | _ => #[]))) := by kernel_rfl
theorem und40 : Tryz.prog.underlying 40 = some (.struct ((match Tryz.prog.underlying 40 with | some (.struct f) => f | _ => #[]))) := by kernel_rfl
theorem und50 : Tryz.prog.underlying 50 = some (.struct ((match Tryz.prog.underlying 50 with | some (.struct f) => f | _ => #[]))) := by kernel_rfl
theorem und60 : Tryz.prog.underlying 60 = some (.struct ((match Tryz.prog.underlying 60 with | some (.struct f) => f | _ => #[]))) := by kernel_rfl
theorem und64 : Tryz.prog.underlying 64 = some (.slice 9) := by kernel_rfl
theorem und66 : Tryz.prog.underlying 66 = some (.struct ((match Tryz.prog.underlying 66 with | some (.struct f) => f | _ => #[]))) := by kernel_rfl
theorem und68 : Tryz.prog.underlying 68 = some (.struct ((match Tryz.prog.underlying 68 with | some (.struct f) => f | _ => #[]))) := by kernel_rfl
theorem und87 : Tryz.prog.underlying 87 = some (.int .u64) := by kernel_rfl
theorem und131 : Tryz.prog.underlying 131 = some (.struct ((match Tryz.prog.underlying 131 with | some (.struct f) => f | _ => #[]))) := by kernel_rfl
theorem und141 : Tryz.prog.underlying 141 = some (.int .u64) := by kernel_rfl
theorem und153 : Tryz.prog.underlying 153 = some (.int .u32) := by kernel_rfl
theorem und158 : Tryz.prog.underlying 158 = some (.struct ((match Tryz.prog.underlying 158 with | some (.struct f) => f | _ => #[]))) := by kernel_rfl
theorem und167 : Tryz.prog.underlying 167 = some (.array 8 1) := by kernel_rfl
theorem und177 : Tryz.prog.underlying 177 = some (.array 23 158) := by kernel_rfl
theorem und182 : Tryz.prog.underlying 182 = some (.struct ((match Tryz.prog.underlying 182 with | some (.struct f) => f | _ => #[]))) := by kernel_rfl
theorem und192 : Tryz.prog.underlying 192 = some (.array 2 3) := by kernel_rfl
theorem und193 : Tryz.prog.underlying 193 = some (.array 5 192) := by kernel_rfl
theorem fd131_0 : Fd Tryz.prog 131 0 0 48 := ⟨_, (match Tryz.prog.underlying 131 with | some (.struct f) => f | _ => #[])[0]!, und131, by kernel_rfl, by kernel_rfl, by kernel_rfl⟩
theorem fd131_1 : Fd Tryz.prog 131 1 1 4 := ⟨_, (match Tryz.prog.underlying 131 with | some (.struct f) => f | _ => #[])[1]!, und131, by kernel_rfl, by kernel_rfl, by kernel_rfl⟩
theorem fd158_1 : Fd Tryz.prog 158 1 1 3 := ⟨_, (match Tryz.prog.underlying 158 with | some (.struct f) => f | _ => #[])[1]!, und158, by kernel_rfl, by kernel_rfl, by kernel_rfl⟩
theorem fd158_2 : Fd Tryz.prog 158 2 2 3 := ⟨_, (match Tryz.prog.underlying 158 with | some (.struct f) => f | _ => #[])[2]!, und158, by kernel_rfl, by kernel_rfl, by kernel_rfl⟩
theorem fd158_3 : Fd Tryz.prog 158 3 3 22 := ⟨_, (match Tryz.prog.underlying 158 with | some (.struct f) => f | _ => #[])[3]!, und158, by kernel_rfl, by kernel_rfl, by kernel_rfl⟩
theorem fd158_4 : Fd Tryz.prog 158 4 4 22 := ⟨_, (match Tryz.prog.underlying 158 with | some (.struct f) => f | _ => #[])[4]!, und158, by kernel_rfl, by kernel_rfl, by kernel_rfl⟩
theorem fd182_1 : Fd Tryz.prog 182 1 1 3 := ⟨_, (match Tryz.prog.underlying 182 with | some (.struct f) => f | _ => #[])[1]!, und182, by kernel_rfl, by kernel_rfl, by kernel_rfl⟩
theorem fd37_0 : Fd Tryz.prog 37 0 0 3 := ⟨_, (match Tryz.prog.underlying 37 with | some (.struct f) => f | _ => #[])[0]!, und37, by kernel_rfl, by kernel_rfl, by kernel_rfl⟩
theorem fd37_1 : Fd Tryz.prog 37 1 1 3 := ⟨_, (match Tryz.prog.underlying 37 with | some (.struct f) => f | _ => #[])[1]!, und37, by kernel_rfl, by kernel_rfl, by kernel_rfl⟩
theorem fd40_0 : Fd Tryz.prog 40 0 0 9 := ⟨_, (match Tryz.prog.underlying 40 with | some (.struct f) => f | _ => #[])[0]!, und40, by kernel_rfl, by kernel_rfl, by kernel_rfl⟩
theorem fd40_1 : Fd Tryz.prog 40 1 1 37 := ⟨_, (match Tryz.prog.underlying 40 with | some (.struct f) => f | _ => #[])[1]!, und40, by kernel_rfl, by kernel_rfl, by kernel_rfl⟩
theorem fd40_2 : Fd Tryz.prog 40 2 3 3 := ⟨_, (match Tryz.prog.underlying 40 with | some (.struct f) => f | _ => #[])[2]!, und40, by kernel_rfl, by kernel_rfl, by kernel_rfl⟩
theorem fd40_3 : Fd Tryz.prog 40 3 4 4 := ⟨_, (match Tryz.prog.underlying 40 with | some (.struct f) => f | _ => #[])[3]!, und40, by kernel_rfl, by kernel_rfl, by kernel_rfl⟩
theorem fd40_4 : Fd Tryz.prog 40 4 5 38 := ⟨_, (match Tryz.prog.underlying 40 with | some (.struct f) => f | _ => #[])[4]!, und40, by kernel_rfl, by kernel_rfl, by kernel_rfl⟩
theorem fd50_0 : Fd Tryz.prog 50 0 0 3 := ⟨_, (match Tryz.prog.underlying 50 with | some (.struct f) => f | _ => #[])[0]!, und50, by kernel_rfl, by kernel_rfl, by kernel_rfl⟩
theorem fd50_1 : Fd Tryz.prog 50 1 1 29 := ⟨_, (match Tryz.prog.underlying 50 with | some (.struct f) => f | _ => #[])[1]!, und50, by kernel_rfl, by kernel_rfl, by kernel_rfl⟩
theorem fd50_2 : Fd Tryz.prog 50 2 2 4 := ⟨_, (match Tryz.prog.underlying 50 with | some (.struct f) => f | _ => #[])[2]!, und50, by kernel_rfl, by kernel_rfl, by kernel_rfl⟩
theorem fd50_3 : Fd Tryz.prog 50 3 3 48 := ⟨_, (match Tryz.prog.underlying 50 with | some (.struct f) => f | _ => #[])[3]!, und50, by kernel_rfl, by kernel_rfl, by kernel_rfl⟩
theorem fd60_0 : Fd Tryz.prog 60 0 0 22 := ⟨_, (match Tryz.prog.underlying 60 with | some (.struct f) => f | _ => #[])[0]!, und60, by kernel_rfl, by kernel_rfl, by kernel_rfl⟩
theorem fd60_1 : Fd Tryz.prog 60 1 1 3 := ⟨_, (match Tryz.prog.underlying 60 with | some (.struct f) => f | _ => #[])[1]!, und60, by kernel_rfl, by kernel_rfl, by kernel_rfl⟩
theorem fd66_0 : Fd Tryz.prog 66 0 0 3 := ⟨_, (match Tryz.prog.underlying 66 with | some (.struct f) => f | _ => #[])[0]!, und66, by kernel_rfl, by kernel_rfl, by kernel_rfl⟩
theorem fd66_1 : Fd Tryz.prog 66 1 1 3 := ⟨_, (match Tryz.prog.underlying 66 with | some (.struct f) => f | _ => #[])[1]!, und66, by kernel_rfl, by kernel_rfl, by kernel_rfl⟩
theorem fd68_0 : Fd Tryz.prog 68 0 0 3 := ⟨_, (match Tryz.prog.underlying 68 with | some (.struct f) => f | _ => #[])[0]!, und68, by kernel_rfl, by kernel_rfl, by kernel_rfl⟩
theorem fd68_1 : Fd Tryz.prog 68 1 1 9 := ⟨_, (match Tryz.prog.underlying 68 with | some (.struct f) => f | _ => #[])[1]!, und68, by kernel_rfl, by kernel_rfl, by kernel_rfl⟩
theorem fd68_10 : Fd Tryz.prog 68 10 12 64 := ⟨_, (match Tryz.prog.underlying 68 with | some (.struct f) => f | _ => #[])[10]!, und68, by kernel_rfl, by kernel_rfl, by kernel_rfl⟩
theorem fd68_11 : Fd Tryz.prog 68 11 13 66 := ⟨_, (match Tryz.prog.underlying 68 with | some (.struct f) => f | _ => #[])[11]!, und68, by kernel_rfl, by kernel_rfl, by kernel_rfl⟩
theorem fd68_2 : Fd Tryz.prog 68 2 2 9 := ⟨_, (match Tryz.prog.underlying 68 with | some (.struct f) => f | _ => #[])[2]!, und68, by kernel_rfl, by kernel_rfl, by kernel_rfl⟩
theorem fd68_3 : Fd Tryz.prog 68 3 3 37 := ⟨_, (match Tryz.prog.underlying 68 with | some (.struct f) => f | _ => #[])[3]!, und68, by kernel_rfl, by kernel_rfl, by kernel_rfl⟩
theorem fd68_4 : Fd Tryz.prog 68 4 5 3 := ⟨_, (match Tryz.prog.underlying 68 with | some (.struct f) => f | _ => #[])[4]!, und68, by kernel_rfl, by kernel_rfl, by kernel_rfl⟩
theorem fd68_5 : Fd Tryz.prog 68 5 6 37 := ⟨_, (match Tryz.prog.underlying 68 with | some (.struct f) => f | _ => #[])[5]!, und68, by kernel_rfl, by kernel_rfl, by kernel_rfl⟩
theorem fd68_6 : Fd Tryz.prog 68 6 8 3 := ⟨_, (match Tryz.prog.underlying 68 with | some (.struct f) => f | _ => #[])[6]!, und68, by kernel_rfl, by kernel_rfl, by kernel_rfl⟩
theorem fd68_7 : Fd Tryz.prog 68 7 9 3 := ⟨_, (match Tryz.prog.underlying 68 with | some (.struct f) => f | _ => #[])[7]!, und68, by kernel_rfl, by kernel_rfl, by kernel_rfl⟩
theorem fd68_8 : Fd Tryz.prog 68 8 10 4 := ⟨_, (match Tryz.prog.underlying 68 with | some (.struct f) => f | _ => #[])[8]!, und68, by kernel_rfl, by kernel_rfl, by kernel_rfl⟩
theorem fd68_9 : Fd Tryz.prog 68 9 11 3 := ⟨_, (match Tryz.prog.underlying 68 with | some (.struct f) => f | _ => #[])[9]!, und68, by kernel_rfl, by kernel_rfl, by kernel_rfl⟩
theorem pl131 : ((match Tryz.prog.underlying 131 with | some (.struct f) => f | _ => #[]) : Array Field).toList.map (fun f => (Tryz.prog.info? f.type).map fun i => (f.offset, i.size)) = [(0, 1), (1, 1)].map some := by kernel_rfl
theorem pl158 : ((match Tryz.prog.underlying 158 with | some (.struct f) => f | _ => #[]) : Array Field).toList.map (fun f => (Tryz.prog.info? f.type).map fun i => (f.offset, i.size)) = [(0, 1), (1, 1), (2, 1), (3, 1), (4, 1)].map some := by kernel_rfl
theorem pl182 : ((match Tryz.prog.underlying 182 with | some (.struct f) => f | _ => #[]) : Array Field).toList.map (fun f => (Tryz.prog.info? f.type).map fun i => (f.offset, i.size)) = [(0, 1), (1, 1)].map some := by kernel_rfl
theorem pl37 : ((match Tryz.prog.underlying 37 with | some (.struct f) => f | _ => #[]) : Array Field).toList.map (fun f => (Tryz.prog.info? f.type).map fun i => (f.offset, i.size)) = [(0, 1), (1, 1)].map some := by kernel_rfl
theorem pl40 : ((match Tryz.prog.underlying 40 with | some (.struct f) => f | _ => #[]) : Array Field).toList.map (fun f => (Tryz.prog.info? f.type).map fun i => (f.offset, i.size)) = [(0, 1), (1, 2), (3, 1), (4, 1), (5, 1)].map some := by kernel_rfl
theorem pl50 : ((match Tryz.prog.underlying 50 with | some (.struct f) => f | _ => #[]) : Array Field).toList.map (fun f => (Tryz.prog.info? f.type).map fun i => (f.offset, i.size)) = [(0, 1), (1, 1), (2, 1), (3, 1)].map some := by kernel_rfl
theorem pl60 : ((match Tryz.prog.underlying 60 with | some (.struct f) => f | _ => #[]) : Array Field).toList.map (fun f => (Tryz.prog.info? f.type).map fun i => (f.offset, i.size)) = [(0, 1), (1, 1)].map some := by kernel_rfl
theorem pl66 : ((match Tryz.prog.underlying 66 with | some (.struct f) => f | _ => #[]) : Array Field).toList.map (fun f => (Tryz.prog.info? f.type).map fun i => (f.offset, i.size)) = [(0, 1), (1, 1)].map some := by kernel_rfl
theorem pl68 : ((match Tryz.prog.underlying 68 with | some (.struct f) => f | _ => #[]) : Array Field).toList.map (fun f => (Tryz.prog.info? f.type).map fun i => (f.offset, i.size)) = [(0, 1), (1, 1), (2, 1), (3, 2), (5, 1), (6, 2), (8, 1), (9, 1), (10, 1), (11, 1), (12, 1), (13, 2)].map some := by kernel_rfl
theorem sl183 : SlT Tryz.prog 183 182 2 24 := SlT.mk' (z := (.agg #[.string ⟨#[]⟩, .int .i64 0])) (by kernel_rfl) (by kernel_rfl) rfl (by decide) (by decide)
theorem sl22 : SlT Tryz.prog 22 3 1 8 := SlT.mk' (z := (.int .i64 0)) (by kernel_rfl) (by kernel_rfl) rfl (by decide) (by decide)
theorem sl27 : SlT Tryz.prog 27 40 6 72 := SlT.mk' (z := (.agg #[.string ⟨#[]⟩, .int .i64 0, .int .i64 0, .int .i64 0, .bool false, .slice none 0 0])) (by kernel_rfl) (by kernel_rfl) rfl (by decide) (by decide)
theorem sl29 : SlT Tryz.prog 29 5 1 1 := SlT.mk' (z := (.int .u8 0)) (by kernel_rfl) (by kernel_rfl) rfl (by decide) (by decide)
theorem sl38 : SlT Tryz.prog 38 68 15 152 := SlT.mk' (z := (.agg #[.int .i64 0, .string ⟨#[]⟩, .string ⟨#[]⟩, .int .i64 0, .int .i64 0, .int .i64 0, .int .i64 0, .int .i64 0, .int .i64 0, .int .i64 0, .bool false, .int .i64 0, .slice none 0 0, .int .i64 0, .int .i64 0])) (by kernel_rfl) (by kernel_rfl) rfl (by decide) (by decide)
theorem sl48 : SlT Tryz.prog 48 50 4 64 := SlT.mk' (z := (.agg #[.int .i64 0, .slice none 0 0, .bool false, .slice none 0 0])) (by kernel_rfl) (by kernel_rfl) rfl (by decide) (by decide)
theorem sl64 : SlT Tryz.prog 64 9 1 16 := SlT.mk' (z := (.string ⟨#[]⟩)) (by kernel_rfl) (by kernel_rfl) rfl (by decide) (by decide)
theorem ty1 : Ty Tryz.prog 1 false 1 := ⟨by kernel_rfl, by kernel_rfl⟩
theorem ty127 : Ty Tryz.prog 127 false 1 := ⟨by kernel_rfl, by kernel_rfl⟩
theorem ty158 : Ty Tryz.prog 158 true 5 := ⟨by kernel_rfl, by kernel_rfl⟩
theorem ty177 : Ty Tryz.prog 177 true 115 := ⟨by kernel_rfl, by kernel_rfl⟩
theorem ty192 : Ty Tryz.prog 192 true 2 := ⟨by kernel_rfl, by kernel_rfl⟩
theorem ty22 : Ty Tryz.prog 22 false 1 := ⟨by kernel_rfl, by kernel_rfl⟩
theorem ty29 : Ty Tryz.prog 29 false 1 := ⟨by kernel_rfl, by kernel_rfl⟩
theorem ty3 : Ty Tryz.prog 3 false 1 := ⟨by kernel_rfl, by kernel_rfl⟩
theorem ty37 : Ty Tryz.prog 37 true 2 := ⟨by kernel_rfl, by kernel_rfl⟩
theorem ty38 : Ty Tryz.prog 38 false 1 := ⟨by kernel_rfl, by kernel_rfl⟩
theorem ty4 : Ty Tryz.prog 4 false 1 := ⟨by kernel_rfl, by kernel_rfl⟩
theorem ty40 : Ty Tryz.prog 40 true 6 := ⟨by kernel_rfl, by kernel_rfl⟩
theorem ty48 : Ty Tryz.prog 48 false 1 := ⟨by kernel_rfl, by kernel_rfl⟩
theorem ty5 : Ty Tryz.prog 5 false 1 := ⟨by kernel_rfl, by kernel_rfl⟩
theorem ty50 : Ty Tryz.prog 50 true 4 := ⟨by kernel_rfl, by kernel_rfl⟩
theorem ty64 : Ty Tryz.prog 64 false 1 := ⟨by kernel_rfl, by kernel_rfl⟩
theorem ty66 : Ty Tryz.prog 66 true 2 := ⟨by kernel_rfl, by kernel_rfl⟩
theorem ty68 : Ty Tryz.prog 68 true 15 := ⟨by kernel_rfl, by kernel_rfl⟩
theorem ty9 : Ty Tryz.prog 9 false 1 := ⟨by kernel_rfl, by kernel_rfl⟩
theorem z127 : Zt Tryz.prog 127 [.pointer none] := ⟨(.pointer none), by kernel_rfl, rfl, by decide⟩
theorem z131 : Zt Tryz.prog 131 [.slice none 0 0, .bool false] := ⟨(.agg #[.slice none 0 0, .bool false]), by kernel_rfl, rfl, by decide⟩
theorem z158 : Zt Tryz.prog 158 [.string ⟨#[]⟩, .int .i64 0, .int .i64 0, .slice none 0 0, .slice none 0 0] := ⟨(.agg #[.string ⟨#[]⟩, .int .i64 0, .int .i64 0, .slice none 0 0, .slice none 0 0]), by kernel_rfl, rfl, by decide⟩
theorem z167 : Zt Tryz.prog 167 [.nilFunc, .nilFunc, .nilFunc, .nilFunc, .nilFunc, .nilFunc, .nilFunc, .nilFunc] := ⟨(.agg #[.nilFunc, .nilFunc, .nilFunc, .nilFunc, .nilFunc, .nilFunc, .nilFunc, .nilFunc]), by kernel_rfl, rfl, by decide⟩
theorem z177 : Zt Tryz.prog 177 [.string ⟨#[]⟩, .int .i64 0, .int .i64 0, .slice none 0 0, .slice none 0 0, .string ⟨#[]⟩, .int .i64 0, .int .i64 0, .slice none 0 0, .slice none 0 0, .string ⟨#[]⟩, .int .i64 0, .int .i64 0, .slice none 0 0, .slice none 0 0, .string ⟨#[]⟩, .int .i64 0, .int .i64 0, .slice none 0 0, .slice none 0 0, .string ⟨#[]⟩, .int .i64 0, .int .i64 0, .slice none 0 0, .slice none 0 0, .string ⟨#[]⟩, .int .i64 0, .int .i64 0, .slice none 0 0, .slice none 0 0, .string ⟨#[]⟩, .int .i64 0, .int .i64 0, .slice none 0 0, .slice none 0 0, .string ⟨#[]⟩, .int .i64 0, .int .i64 0, .slice none 0 0, .slice none 0 0, .string ⟨#[]⟩, .int .i64 0, .int .i64 0, .slice none 0 0, .slice none 0 0, .string ⟨#[]⟩, .int .i64 0, .int .i64 0, .slice none 0 0, .slice none 0 0, .string ⟨#[]⟩, .int .i64 0, .int .i64 0, .slice none 0 0, .slice none 0 0, .string ⟨#[]⟩, .int .i64 0, .int .i64 0, .slice none 0 0, .slice none 0 0, .string ⟨#[]⟩, .int .i64 0, .int .i64 0, .slice none 0 0, .slice none 0 0, .string ⟨#[]⟩, .int .i64 0, .int .i64 0, .slice none 0 0, .slice none 0 0, .string ⟨#[]⟩, .int .i64 0, .int .i64 0, .slice none 0 0, .slice none 0 0, .string ⟨#[]⟩, .int .i64 0, .int .i64 0, .slice none 0 0, .slice none 0 0, .string ⟨#[]⟩, .int .i64 0, .int .i64 0, .slice none 0 0, .slice none 0 0, .string ⟨#[]⟩, .int .i64 0, .int .i64 0, .slice none 0 0, .slice none 0 0, .string ⟨#[]⟩, .int .i64 0, .int .i64 0, .slice none 0 0, .slice none 0 0, .string ⟨#[]⟩, .int .i64 0, .int .i64 0, .slice none 0 0, .slice none 0 0, .string ⟨#[]⟩, .int .i64 0, .int .i64 0, .slice none 0 0, .slice none 0 0, .string ⟨#[]⟩, .int .i64 0, .int .i64 0, .slice none 0 0, .slice none 0 0, .string ⟨#[]⟩, .int .i64 0, .int .i64 0, .slice none 0 0, .slice none 0 0] := ⟨(.agg #[.string ⟨#[]⟩, .int .i64 0, .int .i64 0, .slice none 0 0, .slice none 0 0, .string ⟨#[]⟩, .int .i64 0, .int .i64 0, .slice none 0 0, .slice none 0 0, .string ⟨#[]⟩, .int .i64 0, .int .i64 0, .slice none 0 0, .slice none 0 0, .string ⟨#[]⟩, .int .i64 0, .int .i64 0, .slice none 0 0, .slice none 0 0, .string ⟨#[]⟩, .int .i64 0, .int .i64 0, .slice none 0 0, .slice none 0 0, .string ⟨#[]⟩, .int .i64 0, .int .i64 0, .slice none 0 0, .slice none 0 0, .string ⟨#[]⟩, .int .i64 0, .int .i64 0, .slice none 0 0, .slice none 0 0, .string ⟨#[]⟩, .int .i64 0, .int .i64 0, .slice none 0 0, .slice none 0 0, .string ⟨#[]⟩, .int .i64 0, .int .i64 0, .slice none 0 0, .slice none 0 0, .string ⟨#[]⟩, .int .i64 0, .int .i64 0, .slice none 0 0, .slice none 0 0, .string ⟨#[]⟩, .int .i64 0, .int .i64 0, .slice none 0 0, .slice none 0 0, .string ⟨#[]⟩, .int .i64 0, .int .i64 0, .slice none 0 0, .slice none 0 0, .string ⟨#[]⟩, .int .i64 0, .int .i64 0, .slice none 0 0, .slice none 0 0, .string ⟨#[]⟩, .int .i64 0, .int .i64 0, .slice none 0 0, .slice none 0 0, .string ⟨#[]⟩, .int .i64 0, .int .i64 0, .slice none 0 0, .slice none 0 0, .string ⟨#[]⟩, .int .i64 0, .int .i64 0, .slice none 0 0, .slice none 0 0, .string ⟨#[]⟩, .int .i64 0, .int .i64 0, .slice none 0 0, .slice none 0 0, .string ⟨#[]⟩, .int .i64 0, .int .i64 0, .slice none 0 0, .slice none 0 0, .string ⟨#[]⟩, .int .i64 0, .int .i64 0, .slice none 0 0, .slice none 0 0, .string ⟨#[]⟩, .int .i64 0, .int .i64 0, .slice none 0 0, .slice none 0 0, .string ⟨#[]⟩, .int .i64 0, .int .i64 0, .slice none 0 0, .slice none 0 0, .string ⟨#[]⟩, .int .i64 0, .int .i64 0, .slice none 0 0, .slice none 0 0, .string ⟨#[]⟩, .int .i64 0, .int .i64 0, .slice none 0 0, .slice none 0 0]), by kernel_rfl, rfl, by decide⟩
theorem z182 : Zt Tryz.prog 182 [.string ⟨#[]⟩, .int .i64 0] := ⟨(.agg #[.string ⟨#[]⟩, .int .i64 0]), by kernel_rfl, rfl, by decide⟩
theorem z192 : Zt Tryz.prog 192 [.int .i64 0, .int .i64 0] := ⟨(.agg #[.int .i64 0, .int .i64 0]), by kernel_rfl, rfl, by decide⟩
theorem z193 : Zt Tryz.prog 193 [.int .i64 0, .int .i64 0, .int .i64 0, .int .i64 0, .int .i64 0, .int .i64 0, .int .i64 0, .int .i64 0, .int .i64 0, .int .i64 0] := ⟨(.agg #[.int .i64 0, .int .i64 0, .int .i64 0, .int .i64 0, .int .i64 0, .int .i64 0, .int .i64 0, .int .i64 0, .int .i64 0, .int .i64 0]), by kernel_rfl, rfl, by decide⟩
theorem z3 : Zt Tryz.prog 3 [.int .i64 0] := ⟨(.int .i64 0), by kernel_rfl, rfl, by decide⟩
theorem z37 : Zt Tryz.prog 37 [.int .i64 0, .int .i64 0] := ⟨(.agg #[.int .i64 0, .int .i64 0]), by kernel_rfl, rfl, by decide⟩
theorem z40 : Zt Tryz.prog 40 [.string ⟨#[]⟩, .int .i64 0, .int .i64 0, .int .i64 0, .bool false, .slice none 0 0] := ⟨(.agg #[.string ⟨#[]⟩, .int .i64 0, .int .i64 0, .int .i64 0, .bool false, .slice none 0 0]), by kernel_rfl, rfl, by decide⟩
theorem z5 : Zt Tryz.prog 5 [.int .u8 0] := ⟨(.int .u8 0), by kernel_rfl, rfl, by decide⟩
theorem z50 : Zt Tryz.prog 50 [.int .i64 0, .slice none 0 0, .bool false, .slice none 0 0] := ⟨(.agg #[.int .i64 0, .slice none 0 0, .bool false, .slice none 0 0]), by kernel_rfl, rfl, by decide⟩
theorem z60 : Zt Tryz.prog 60 [.slice none 0 0, .int .i64 0] := ⟨(.agg #[.slice none 0 0, .int .i64 0]), by kernel_rfl, rfl, by decide⟩
theorem z66 : Zt Tryz.prog 66 [.int .i64 0, .int .i64 0] := ⟨(.agg #[.int .i64 0, .int .i64 0]), by kernel_rfl, rfl, by decide⟩
theorem z68 : Zt Tryz.prog 68 [.int .i64 0, .string ⟨#[]⟩, .string ⟨#[]⟩, .int .i64 0, .int .i64 0, .int .i64 0, .int .i64 0, .int .i64 0, .int .i64 0, .int .i64 0, .bool false, .int .i64 0, .slice none 0 0, .int .i64 0, .int .i64 0] := ⟨(.agg #[.int .i64 0, .string ⟨#[]⟩, .string ⟨#[]⟩, .int .i64 0, .int .i64 0, .int .i64 0, .int .i64 0, .int .i64 0, .int .i64 0, .int .i64 0, .bool false, .int .i64 0, .slice none 0 0, .int .i64 0, .int .i64 0]), by kernel_rfl, rfl, by decide⟩
theorem z9 : Zt Tryz.prog 9 [.string ⟨#[]⟩] := ⟨(.string ⟨#[]⟩), by kernel_rfl, rfl, by decide⟩
theorem ck182 : cellK Tryz.prog 20 182 = [none, none] := by kernel_rfl
theorem ck3 : cellK Tryz.prog 20 3 = [none] := by kernel_rfl
theorem ck40 : cellK Tryz.prog 20 40 = [none, none, none, none, none, some 15] := by kernel_rfl
theorem ck5 : cellK Tryz.prog 20 5 = [none] := by kernel_rfl
theorem ck50 : cellK Tryz.prog 20 50 = [none, some 1, none, some 4] := by kernel_rfl
theorem ck68 : cellK Tryz.prog 20 68 = [none, none, none, none, none, none, none, none, none, none, none, none, some 1, none, none] := by kernel_rfl
theorem ck9 : cellK Tryz.prog 20 9 = [none] := by kernel_rfl
theorem eg37 : Tryz.prog.eqGuardType Tryz.prog.depth 37 = false := by kernel_rfl
theorem sf37 : Tryz.prog.underlying 37 = some (.struct (Tryz.prog.fieldsOf 37)) := by kernel_rfl
theorem sh37 : Tryz.prog.stoodInHeld 37 = false := by kernel_rfl
theorem se37 (x y : api_Use) (w : World) : (Op.equalIn 10000 37 (.agg #[.int .i64 x.Alg, .int .i64 x.Bits]) (.agg #[.int .i64 y.Alg, .int .i64 y.Bits])).run Tryz.prog w = .ok (decide (x = y)) w := by
 have u3 := Tryz.underlying3
 have a3 := Tryz.isAgg3
 have z3 := Tryz.sizeOf3
 rw [show (10000 : Nat) = 9999 + 1 from rfl, run_equalIn_agg w 9999 37 _ _ sf37 sh37]
 simp only [Program.fieldsOf, Tryz.underlying37]
 go_simp
 rcases x with ⟨x0, x1⟩
 rcases y with ⟨y0, y1⟩
 by_cases h0 : x0 = y0 <;> by_cases h1 : x1 = y1 <;> simp [h0, h1]
theorem steq37_eql (x y : api_Use) {X Y : Operand} {tk : Nat} {yt ty : TypeId} {b1 b2 : Option LB} : OpR Tryz.prog tk (.binOp .eql 37 X Y yt) ty [(.agg [.val (.int .i64 x.Alg), .val (.int .i64 x.Bits)], b1), (.agg [.val (.int .i64 y.Alg), .val (.int .i64 y.Bits)], b2)] [] (v0 (.val (.bool (decide (x = y))))) :=
 .binOpA rfl rfl (fun _ _ => rfl) (fun w => by
  rw [Sem.run_bind, run_eqGuard_agg w _ 37 X Y _ _ eg37]
  simp only [Result.andThen_ok, run_eql_struct]
  exact congrArg (fun r => Result.andThen r _) (se37 x y w))
theorem eg66 : Tryz.prog.eqGuardType Tryz.prog.depth 66 = false := by kernel_rfl
theorem sf66 : Tryz.prog.underlying 66 = some (.struct (Tryz.prog.fieldsOf 66)) := by kernel_rfl
theorem sh66 : Tryz.prog.stoodInHeld 66 = false := by kernel_rfl
theorem se66 (x y : api_Seal) (w : World) : (Op.equalIn 10000 66 (.agg #[.int .i64 x.Key, .int .i64 x.Sum]) (.agg #[.int .i64 y.Key, .int .i64 y.Sum])).run Tryz.prog w = .ok (decide (x = y)) w := by
 have u3 := Tryz.underlying3
 have a3 := Tryz.isAgg3
 have z3 := Tryz.sizeOf3
 rw [show (10000 : Nat) = 9999 + 1 from rfl, run_equalIn_agg w 9999 66 _ _ sf66 sh66]
 simp only [Program.fieldsOf, Tryz.underlying66]
 go_simp
 rcases x with ⟨x0, x1⟩
 rcases y with ⟨y0, y1⟩
 by_cases h0 : x0 = y0 <;> by_cases h1 : x1 = y1 <;> simp [h0, h1]
theorem steq66_eql (x y : api_Seal) {X Y : Operand} {tk : Nat} {yt ty : TypeId} {b1 b2 : Option LB} : OpR Tryz.prog tk (.binOp .eql 66 X Y yt) ty [(.agg [.val (.int .i64 x.Key), .val (.int .i64 x.Sum)], b1), (.agg [.val (.int .i64 y.Key), .val (.int .i64 y.Sum)], b2)] [] (v0 (.val (.bool (decide (x = y))))) :=
 .binOpA rfl rfl (fun _ _ => rfl) (fun w => by
  rw [Sem.run_bind, run_eqGuard_agg w _ 66 X Y _ _ eg66]
  simp only [Result.andThen_ok, run_eql_struct]
  exact congrArg (fun r => Result.andThen r _) (se66 x y w))
instance : FdC Tryz.prog 131 0 0 48 := ⟨fd131_0⟩
instance : FdC Tryz.prog 131 1 1 4 := ⟨fd131_1⟩
instance : FdC Tryz.prog 158 1 1 3 := ⟨fd158_1⟩
instance : FdC Tryz.prog 158 2 2 3 := ⟨fd158_2⟩
instance : FdC Tryz.prog 158 3 3 22 := ⟨fd158_3⟩
instance : FdC Tryz.prog 158 4 4 22 := ⟨fd158_4⟩
instance : FdC Tryz.prog 182 1 1 3 := ⟨fd182_1⟩
instance : FdC Tryz.prog 37 0 0 3 := ⟨fd37_0⟩
instance : FdC Tryz.prog 37 1 1 3 := ⟨fd37_1⟩
instance : FdC Tryz.prog 40 0 0 9 := ⟨fd40_0⟩
instance : FdC Tryz.prog 40 1 1 37 := ⟨fd40_1⟩
instance : FdC Tryz.prog 40 2 3 3 := ⟨fd40_2⟩
instance : FdC Tryz.prog 40 3 4 4 := ⟨fd40_3⟩
instance : FdC Tryz.prog 40 4 5 38 := ⟨fd40_4⟩
instance : FdC Tryz.prog 50 0 0 3 := ⟨fd50_0⟩
instance : FdC Tryz.prog 50 1 1 29 := ⟨fd50_1⟩
instance : FdC Tryz.prog 50 2 2 4 := ⟨fd50_2⟩
instance : FdC Tryz.prog 50 3 3 48 := ⟨fd50_3⟩
instance : FdC Tryz.prog 60 0 0 22 := ⟨fd60_0⟩
instance : FdC Tryz.prog 60 1 1 3 := ⟨fd60_1⟩
instance : FdC Tryz.prog 66 0 0 3 := ⟨fd66_0⟩
instance : FdC Tryz.prog 66 1 1 3 := ⟨fd66_1⟩
instance : FdC Tryz.prog 68 0 0 3 := ⟨fd68_0⟩
instance : FdC Tryz.prog 68 1 1 9 := ⟨fd68_1⟩
instance : FdC Tryz.prog 68 10 12 64 := ⟨fd68_10⟩
instance : FdC Tryz.prog 68 11 13 66 := ⟨fd68_11⟩
instance : FdC Tryz.prog 68 2 2 9 := ⟨fd68_2⟩
instance : FdC Tryz.prog 68 3 3 37 := ⟨fd68_3⟩
instance : FdC Tryz.prog 68 4 5 3 := ⟨fd68_4⟩
instance : FdC Tryz.prog 68 5 6 37 := ⟨fd68_5⟩
instance : FdC Tryz.prog 68 6 8 3 := ⟨fd68_6⟩
instance : FdC Tryz.prog 68 7 9 3 := ⟨fd68_7⟩
instance : FdC Tryz.prog 68 8 10 4 := ⟨fd68_8⟩
instance : FdC Tryz.prog 68 9 11 3 := ⟨fd68_9⟩
instance : SlC Tryz.prog 183 182 2 24 := ⟨sl183⟩
instance : SlC Tryz.prog 22 3 1 8 := ⟨sl22⟩
instance : SlC Tryz.prog 27 40 6 72 := ⟨sl27⟩
instance : SlC Tryz.prog 29 5 1 1 := ⟨sl29⟩
instance : SlC Tryz.prog 38 68 15 152 := ⟨sl38⟩
instance : SlC Tryz.prog 48 50 4 64 := ⟨sl48⟩
instance : SlC Tryz.prog 64 9 1 16 := ⟨sl64⟩
instance : TyC Tryz.prog 1 false 1 := ⟨ty1⟩
instance : TyC Tryz.prog 127 false 1 := ⟨ty127⟩
instance : TyC Tryz.prog 158 true 5 := ⟨ty158⟩
instance : TyC Tryz.prog 177 true 115 := ⟨ty177⟩
instance : TyC Tryz.prog 192 true 2 := ⟨ty192⟩
instance : TyC Tryz.prog 22 false 1 := ⟨ty22⟩
instance : TyC Tryz.prog 29 false 1 := ⟨ty29⟩
instance : TyC Tryz.prog 3 false 1 := ⟨ty3⟩
instance : TyC Tryz.prog 37 true 2 := ⟨ty37⟩
instance : TyC Tryz.prog 38 false 1 := ⟨ty38⟩
instance : TyC Tryz.prog 4 false 1 := ⟨ty4⟩
instance : TyC Tryz.prog 40 true 6 := ⟨ty40⟩
instance : TyC Tryz.prog 48 false 1 := ⟨ty48⟩
instance : TyC Tryz.prog 5 false 1 := ⟨ty5⟩
instance : TyC Tryz.prog 50 true 4 := ⟨ty50⟩
instance : TyC Tryz.prog 64 false 1 := ⟨ty64⟩
instance : TyC Tryz.prog 66 true 2 := ⟨ty66⟩
instance : TyC Tryz.prog 68 true 15 := ⟨ty68⟩
instance : TyC Tryz.prog 9 false 1 := ⟨ty9⟩
instance : ZtC Tryz.prog 127 [.pointer none] := ⟨z127⟩
instance : ZtC Tryz.prog 131 [.slice none 0 0, .bool false] := ⟨z131⟩
instance : ZtC Tryz.prog 158 [.string ⟨#[]⟩, .int .i64 0, .int .i64 0, .slice none 0 0, .slice none 0 0] := ⟨z158⟩
instance : ZtC Tryz.prog 167 [.nilFunc, .nilFunc, .nilFunc, .nilFunc, .nilFunc, .nilFunc, .nilFunc, .nilFunc] := ⟨z167⟩
instance : ZtC Tryz.prog 177 [.string ⟨#[]⟩, .int .i64 0, .int .i64 0, .slice none 0 0, .slice none 0 0, .string ⟨#[]⟩, .int .i64 0, .int .i64 0, .slice none 0 0, .slice none 0 0, .string ⟨#[]⟩, .int .i64 0, .int .i64 0, .slice none 0 0, .slice none 0 0, .string ⟨#[]⟩, .int .i64 0, .int .i64 0, .slice none 0 0, .slice none 0 0, .string ⟨#[]⟩, .int .i64 0, .int .i64 0, .slice none 0 0, .slice none 0 0, .string ⟨#[]⟩, .int .i64 0, .int .i64 0, .slice none 0 0, .slice none 0 0, .string ⟨#[]⟩, .int .i64 0, .int .i64 0, .slice none 0 0, .slice none 0 0, .string ⟨#[]⟩, .int .i64 0, .int .i64 0, .slice none 0 0, .slice none 0 0, .string ⟨#[]⟩, .int .i64 0, .int .i64 0, .slice none 0 0, .slice none 0 0, .string ⟨#[]⟩, .int .i64 0, .int .i64 0, .slice none 0 0, .slice none 0 0, .string ⟨#[]⟩, .int .i64 0, .int .i64 0, .slice none 0 0, .slice none 0 0, .string ⟨#[]⟩, .int .i64 0, .int .i64 0, .slice none 0 0, .slice none 0 0, .string ⟨#[]⟩, .int .i64 0, .int .i64 0, .slice none 0 0, .slice none 0 0, .string ⟨#[]⟩, .int .i64 0, .int .i64 0, .slice none 0 0, .slice none 0 0, .string ⟨#[]⟩, .int .i64 0, .int .i64 0, .slice none 0 0, .slice none 0 0, .string ⟨#[]⟩, .int .i64 0, .int .i64 0, .slice none 0 0, .slice none 0 0, .string ⟨#[]⟩, .int .i64 0, .int .i64 0, .slice none 0 0, .slice none 0 0, .string ⟨#[]⟩, .int .i64 0, .int .i64 0, .slice none 0 0, .slice none 0 0, .string ⟨#[]⟩, .int .i64 0, .int .i64 0, .slice none 0 0, .slice none 0 0, .string ⟨#[]⟩, .int .i64 0, .int .i64 0, .slice none 0 0, .slice none 0 0, .string ⟨#[]⟩, .int .i64 0, .int .i64 0, .slice none 0 0, .slice none 0 0, .string ⟨#[]⟩, .int .i64 0, .int .i64 0, .slice none 0 0, .slice none 0 0, .string ⟨#[]⟩, .int .i64 0, .int .i64 0, .slice none 0 0, .slice none 0 0] := ⟨z177⟩
instance : ZtC Tryz.prog 182 [.string ⟨#[]⟩, .int .i64 0] := ⟨z182⟩
instance : ZtC Tryz.prog 192 [.int .i64 0, .int .i64 0] := ⟨z192⟩
instance : ZtC Tryz.prog 193 [.int .i64 0, .int .i64 0, .int .i64 0, .int .i64 0, .int .i64 0, .int .i64 0, .int .i64 0, .int .i64 0, .int .i64 0, .int .i64 0] := ⟨z193⟩
instance : ZtC Tryz.prog 3 [.int .i64 0] := ⟨z3⟩
instance : ZtC Tryz.prog 37 [.int .i64 0, .int .i64 0] := ⟨z37⟩
instance : ZtC Tryz.prog 40 [.string ⟨#[]⟩, .int .i64 0, .int .i64 0, .int .i64 0, .bool false, .slice none 0 0] := ⟨z40⟩
instance : ZtC Tryz.prog 5 [.int .u8 0] := ⟨z5⟩
instance : ZtC Tryz.prog 50 [.int .i64 0, .slice none 0 0, .bool false, .slice none 0 0] := ⟨z50⟩
instance : ZtC Tryz.prog 60 [.slice none 0 0, .int .i64 0] := ⟨z60⟩
instance : ZtC Tryz.prog 66 [.int .i64 0, .int .i64 0] := ⟨z66⟩
instance : ZtC Tryz.prog 68 [.int .i64 0, .string ⟨#[]⟩, .string ⟨#[]⟩, .int .i64 0, .int .i64 0, .int .i64 0, .int .i64 0, .int .i64 0, .int .i64 0, .int .i64 0, .bool false, .int .i64 0, .slice none 0 0, .int .i64 0, .int .i64 0] := ⟨z68⟩
instance : ZtC Tryz.prog 9 [.string ⟨#[]⟩] := ⟨z9⟩
instance : ElC cipherplanmake_Dice.enc 2 := ⟨cipherplanmake_Dice.enc_len⟩
instance : ElC api_Use.enc 2 := ⟨api_Use.enc_len⟩
instance : ElC api_Seal.enc 2 := ⟨api_Seal.enc_len⟩
instance : ElC api_Certificate.enc 15 := ⟨api_Certificate.enc_len⟩
instance : ElC api_Entry.enc 6 := ⟨api_Entry.enc_len⟩
instance : ElC catalog_row.enc 5 := ⟨catalog_row.enc_len⟩
instance : ElC cipherplanref02_row.enc 2 := ⟨cipherplanref02_row.enc_len⟩
instance : ElC api_Value.enc 4 := ⟨api_Value.enc_len⟩
instance : ElC certificate_Reader.enc 2 := ⟨certificate_Reader.enc_len⟩
end Go.Proofs.YtbeageaekgccgaaGreat
