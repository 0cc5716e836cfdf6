/- Encodings; what is known of types. -/
import Derived.Test.YtlcfdnjokgbccaaGreatEF
import Derived.Test.YtlcfdnjokgbccaaGreatP1
import Derived.Test.YtlcfdnjokgbccaaGreatProg
set_option linter.unusedVariables false
set_option linter.unusedSimpArgs false
set_option maxRecDepth 100000
set_option maxHeartbeats 1600000
namespace Go.Proofs.YtlcfdnjokgbccaaGreat
open Go.RowKit
abbrev api_Use.dv (x : api_Use) : List DV := [.val (.int .i64 x.Alg), .val (.int .i64 x.Bits)]
def api_Use.enc (x : api_Use) : List C := [.int .i64 x.Alg, .int .i64 x.Bits]
theorem api_Use.enc_len (x : api_Use) : (api_Use.enc x).length = 2 := rfl
abbrev api_Seal.dv (x : api_Seal) : List DV := [.val (.int .i64 x.Key), .val (.int .i64 x.Sum)]
def api_Seal.enc (x : api_Seal) : List C := [.int .i64 x.Key, .int .i64 x.Sum]
theorem api_Seal.enc_len (x : api_Seal) : (api_Seal.enc x).length = 2 := rfl
abbrev api_Certificate.dv (x : api_Certificate) : List DV := [.val (.int .i64 x.Serial), .val (.string x.Issuer), .val (.string x.Subject), .val (.int .i64 x.Key.Alg), .val (.int .i64 x.Key.Bits), .val (.int .i64 x.KeyId), .val (.int .i64 x.Hash.Alg), .val (.int .i64 x.Hash.Bits), .val (.int .i64 x.From), .val (.int .i64 x.To), .val (.bool x.Authority), .val (.int .i64 x.Path), .sl 1 (encL eS x.Names), .val (.int .i64 x.Seal.Key), .val (.int .i64 x.Seal.Sum)]
def api_Certificate.enc (x : api_Certificate) : List C := [.int .i64 x.Serial, .str x.Issuer, .str x.Subject, .int .i64 x.Key.Alg, .int .i64 x.Key.Bits, .int .i64 x.KeyId, .int .i64 x.Hash.Alg, .int .i64 x.Hash.Bits, .int .i64 x.From, .int .i64 x.To, .bool x.Authority, .int .i64 x.Path, .sl 1 (encL eS x.Names), .int .i64 x.Seal.Key, .int .i64 x.Seal.Sum]
theorem api_Certificate.enc_len (x : api_Certificate) : (api_Certificate.enc x).length = 15 := rfl
abbrev cipherplanmake_Dice.dv (x : cipherplanmake_Dice) : List DV := [.sl 1 (encL eI x.L), .val (.int .i64 x.At)]
def cipherplanmake_Dice.enc (x : cipherplanmake_Dice) : List C := [.sl 1 (encL eI x.L), .int .i64 x.At]
theorem cipherplanmake_Dice.enc_len (x : cipherplanmake_Dice) : (cipherplanmake_Dice.enc x).length = 2 := rfl
mutual
def api_Value.enc : api_Value → List C
 | ⟨Tag, Bytes, Nested, Elements⟩ => [.int .i64 Tag, .sl 1 (encL e8 Bytes), .bool Nested, .sl 4 (api_Value.encs Elements)]
def api_Value.encs : List api_Value → List C
 | [] => []
 | x :: l => api_Value.enc x ++ api_Value.encs l
end
theorem api_Value.encs_eq : ∀ (l : List api_Value), api_Value.encs l = encL api_Value.enc l
 | [] => rfl
 | x :: l => by
  show api_Value.enc x ++ api_Value.encs l = api_Value.enc x ++ encL api_Value.enc l
  rw [api_Value.encs_eq l]
theorem api_Value.enc_eq (x : api_Value) : api_Value.enc x = [.int .i64 x.Tag, .sl 1 (encL e8 x.Bytes), .bool x.Nested, .sl 4 (encL api_Value.enc x.Elements)] := by
 cases x
 simp only [api_Value.enc, api_Value.encs_eq]
theorem api_Value.enc_len (x : api_Value) : (api_Value.enc x).length = 4 := by rw [api_Value.enc_eq]; rfl
abbrev api_Value.dv (x : api_Value) : List DV := [.val (.int .i64 x.Tag), .sl 1 (encL e8 x.Bytes), .val (.bool x.Nested), .sl 4 (encL api_Value.enc x.Elements)]
abbrev catalog_row.dv (x : catalog_row) : List DV := [.val (.string x.name), .val (.int .i64 x.kind), .val (.int .i64 x.way), .sl 1 (encL eI x.sizes), .sl 1 (encL eI x.strengths)]
def catalog_row.enc (x : catalog_row) : List C := [.str x.name, .int .i64 x.kind, .int .i64 x.way, .sl 1 (encL eI x.sizes), .sl 1 (encL eI x.strengths)]
theorem catalog_row.enc_len (x : catalog_row) : (catalog_row.enc x).length = 5 := rfl
abbrev certificate_Reader.dv (x : certificate_Reader) : List DV := [.sl 4 (encL api_Value.enc x.l), .val (.bool x.Failed)]
def certificate_Reader.enc (x : certificate_Reader) : List C := [.sl 4 (encL api_Value.enc x.l), .bool x.Failed]
theorem certificate_Reader.enc_len (x : certificate_Reader) : (certificate_Reader.enc x).length = 2 := rfl
abbrev cipherplanref02_row.dv (x : cipherplanref02_row) : List DV := [.val (.string x.name), .val (.int .i64 x.kind)]
def cipherplanref02_row.enc (x : cipherplanref02_row) : List C := [.str x.name, .int .i64 x.kind]
theorem cipherplanref02_row.enc_len (x : cipherplanref02_row) : (cipherplanref02_row.enc x).length = 2 := rfl
abbrev cipherplanref03_Reader.dv (x : cipherplanref03_Reader) : List DV := [.sl 4 (encL api_Value.enc x.L), .val (.int .i64 x.At), .val (.bool x.OK)]
def cipherplanref03_Reader.enc (x : cipherplanref03_Reader) : List C := [.sl 4 (encL api_Value.enc x.L), .int .i64 x.At, .bool x.OK]
theorem cipherplanref03_Reader.enc_len (x : cipherplanref03_Reader) : (cipherplanref03_Reader.enc x).length = 3 := rfl
theorem und3 : Tryz.prog.underlying 3 = some (.int .i64) := by kernel_rfl
theorem und4 : Tryz.prog.underlying 4 = some (.bool) := by kernel_rfl
theorem und5 : Tryz.prog.underlying 5 = some (.int .u8) := by kernel_rfl
theorem und9 : Tryz.prog.underlying 9 = some (.string) := by kernel_rfl
theorem und28 : Tryz.prog.underlying 28 = some (.struct ((match Tryz.prog.underlying 28 with | some (.struct f) => f | _ => #[]))) := by kernel_rfl
theorem und29 : Tryz.prog.underlying 29 = some (.slice 9) := by kernel_rfl
theorem und31 : Tryz.prog.underlying 31 = some (.struct ((match Tryz.prog.underlying 31 with | some (.struct f) => f | _ => #[]))) := by kernel_rfl
theorem und33 : Tryz.prog.underlying 33 = some (.struct ((match Tryz.prog.underlying 33 with | some (.struct f) => f | _ => #[]))) := by kernel_rfl
theorem und35 : Tryz.prog.underlying 35 = some (.slice 5) := by kernel_rfl
theorem und41 : Tryz.prog.underlying 41 = some (.struct ((match Tryz.prog.underlying 41 with | some (.struct f) => f | _ => #[]))) := by kernel_rfl
theorem und68 : Tryz.prog.underlying 68 = some (.struct ((match Tryz.prog.underlying 68 with | some (.struct f) => f | _ => #[]))) := by kernel_rfl
theorem und84 : Tryz.prog.underlying 84 = some (.int .u32) := by kernel_rfl
theorem und98 : Tryz.prog.underlying 98 = some (.array 8 1) := by kernel_rfl
theorem und100 : Tryz.prog.underlying 100 = some (.struct ((match Tryz.prog.underlying 100 with | some (.struct f) => f | _ => #[]))) := by kernel_rfl
theorem und109 : Tryz.prog.underlying 109 = some (.struct ((match Tryz.prog.underlying 109 with | some (.struct f) => f | _ => #[]))) := by kernel_rfl
theorem und115 : Tryz.prog.underlying 115 = some (.struct ((match Tryz.prog.underlying 115 with | some (.struct f) => f | _ => #[]))) := by kernel_rfl
theorem und134 : Tryz.prog.underlying 134 = some (.int .u64) := by kernel_rfl
theorem und140 : Tryz.prog.underlying 140 = some (.struct ((match Tryz.prog.underlying 140 with | some (.struct f) => f | _ => #[]))) := by kernel_rfl
theorem und147 : Tryz.prog.underlying 147 = some (.array 23 140) := by kernel_rfl
theorem und149 : Tryz.prog.underlying 149 = some (.array 2 3) := by kernel_rfl
theorem und150 : Tryz.prog.underlying 150 = some (.array 5 149) := by kernel_rfl
theorem fd100_0 : Fd Tryz.prog 100 0 0 39 := ⟨_, (match Tryz.prog.underlying 100 with | some (.struct f) => f | _ => #[])[0]!, und100, by kernel_rfl, by kernel_rfl, by kernel_rfl⟩
theorem fd100_1 : Fd Tryz.prog 100 1 1 4 := ⟨_, (match Tryz.prog.underlying 100 with | some (.struct f) => f | _ => #[])[1]!, und100, by kernel_rfl, by kernel_rfl, by kernel_rfl⟩
theorem fd109_0 : Fd Tryz.prog 109 0 0 39 := ⟨_, (match Tryz.prog.underlying 109 with | some (.struct f) => f | _ => #[])[0]!, und109, by kernel_rfl, by kernel_rfl, by kernel_rfl⟩
theorem fd109_1 : Fd Tryz.prog 109 1 1 3 := ⟨_, (match Tryz.prog.underlying 109 with | some (.struct f) => f | _ => #[])[1]!, und109, by kernel_rfl, by kernel_rfl, by kernel_rfl⟩
theorem fd109_2 : Fd Tryz.prog 109 2 2 4 := ⟨_, (match Tryz.prog.underlying 109 with | some (.struct f) => f | _ => #[])[2]!, und109, by kernel_rfl, by kernel_rfl, by kernel_rfl⟩
theorem fd115_1 : Fd Tryz.prog 115 1 1 3 := ⟨_, (match Tryz.prog.underlying 115 with | some (.struct f) => f | _ => #[])[1]!, und115, by kernel_rfl, by kernel_rfl, by kernel_rfl⟩
theorem fd140_1 : Fd Tryz.prog 140 1 1 3 := ⟨_, (match Tryz.prog.underlying 140 with | some (.struct f) => f | _ => #[])[1]!, und140, by kernel_rfl, by kernel_rfl, by kernel_rfl⟩
theorem fd140_2 : Fd Tryz.prog 140 2 2 3 := ⟨_, (match Tryz.prog.underlying 140 with | some (.struct f) => f | _ => #[])[2]!, und140, by kernel_rfl, by kernel_rfl, by kernel_rfl⟩
theorem fd140_3 : Fd Tryz.prog 140 3 3 22 := ⟨_, (match Tryz.prog.underlying 140 with | some (.struct f) => f | _ => #[])[3]!, und140, by kernel_rfl, by kernel_rfl, by kernel_rfl⟩
theorem fd140_4 : Fd Tryz.prog 140 4 4 22 := ⟨_, (match Tryz.prog.underlying 140 with | some (.struct f) => f | _ => #[])[4]!, und140, by kernel_rfl, by kernel_rfl, by kernel_rfl⟩
theorem fd28_0 : Fd Tryz.prog 28 0 0 3 := ⟨_, (match Tryz.prog.underlying 28 with | some (.struct f) => f | _ => #[])[0]!, und28, by kernel_rfl, by kernel_rfl, by kernel_rfl⟩
theorem fd28_1 : Fd Tryz.prog 28 1 1 3 := ⟨_, (match Tryz.prog.underlying 28 with | some (.struct f) => f | _ => #[])[1]!, und28, by kernel_rfl, by kernel_rfl, by kernel_rfl⟩
theorem fd31_0 : Fd Tryz.prog 31 0 0 3 := ⟨_, (match Tryz.prog.underlying 31 with | some (.struct f) => f | _ => #[])[0]!, und31, by kernel_rfl, by kernel_rfl, by kernel_rfl⟩
theorem fd31_1 : Fd Tryz.prog 31 1 1 3 := ⟨_, (match Tryz.prog.underlying 31 with | some (.struct f) => f | _ => #[])[1]!, und31, by kernel_rfl, by kernel_rfl, by kernel_rfl⟩
theorem fd33_0 : Fd Tryz.prog 33 0 0 3 := ⟨_, (match Tryz.prog.underlying 33 with | some (.struct f) => f | _ => #[])[0]!, und33, by kernel_rfl, by kernel_rfl, by kernel_rfl⟩
theorem fd33_1 : Fd Tryz.prog 33 1 1 9 := ⟨_, (match Tryz.prog.underlying 33 with | some (.struct f) => f | _ => #[])[1]!, und33, by kernel_rfl, by kernel_rfl, by kernel_rfl⟩
theorem fd33_10 : Fd Tryz.prog 33 10 12 29 := ⟨_, (match Tryz.prog.underlying 33 with | some (.struct f) => f | _ => #[])[10]!, und33, by kernel_rfl, by kernel_rfl, by kernel_rfl⟩
theorem fd33_11 : Fd Tryz.prog 33 11 13 31 := ⟨_, (match Tryz.prog.underlying 33 with | some (.struct f) => f | _ => #[])[11]!, und33, by kernel_rfl, by kernel_rfl, by kernel_rfl⟩
theorem fd33_2 : Fd Tryz.prog 33 2 2 9 := ⟨_, (match Tryz.prog.underlying 33 with | some (.struct f) => f | _ => #[])[2]!, und33, by kernel_rfl, by kernel_rfl, by kernel_rfl⟩
theorem fd33_3 : Fd Tryz.prog 33 3 3 28 := ⟨_, (match Tryz.prog.underlying 33 with | some (.struct f) => f | _ => #[])[3]!, und33, by kernel_rfl, by kernel_rfl, by kernel_rfl⟩
theorem fd33_4 : Fd Tryz.prog 33 4 5 3 := ⟨_, (match Tryz.prog.underlying 33 with | some (.struct f) => f | _ => #[])[4]!, und33, by kernel_rfl, by kernel_rfl, by kernel_rfl⟩
theorem fd33_5 : Fd Tryz.prog 33 5 6 28 := ⟨_, (match Tryz.prog.underlying 33 with | some (.struct f) => f | _ => #[])[5]!, und33, by kernel_rfl, by kernel_rfl, by kernel_rfl⟩
theorem fd33_6 : Fd Tryz.prog 33 6 8 3 := ⟨_, (match Tryz.prog.underlying 33 with | some (.struct f) => f | _ => #[])[6]!, und33, by kernel_rfl, by kernel_rfl, by kernel_rfl⟩
theorem fd33_7 : Fd Tryz.prog 33 7 9 3 := ⟨_, (match Tryz.prog.underlying 33 with | some (.struct f) => f | _ => #[])[7]!, und33, by kernel_rfl, by kernel_rfl, by kernel_rfl⟩
theorem fd33_8 : Fd Tryz.prog 33 8 10 4 := ⟨_, (match Tryz.prog.underlying 33 with | some (.struct f) => f | _ => #[])[8]!, und33, by kernel_rfl, by kernel_rfl, by kernel_rfl⟩
theorem fd33_9 : Fd Tryz.prog 33 9 11 3 := ⟨_, (match Tryz.prog.underlying 33 with | some (.struct f) => f | _ => #[])[9]!, und33, by kernel_rfl, by kernel_rfl, by kernel_rfl⟩
theorem fd41_0 : Fd Tryz.prog 41 0 0 3 := ⟨_, (match Tryz.prog.underlying 41 with | some (.struct f) => f | _ => #[])[0]!, und41, by kernel_rfl, by kernel_rfl, by kernel_rfl⟩
theorem fd41_1 : Fd Tryz.prog 41 1 1 35 := ⟨_, (match Tryz.prog.underlying 41 with | some (.struct f) => f | _ => #[])[1]!, und41, by kernel_rfl, by kernel_rfl, by kernel_rfl⟩
theorem fd41_2 : Fd Tryz.prog 41 2 2 4 := ⟨_, (match Tryz.prog.underlying 41 with | some (.struct f) => f | _ => #[])[2]!, und41, by kernel_rfl, by kernel_rfl, by kernel_rfl⟩
theorem fd41_3 : Fd Tryz.prog 41 3 3 39 := ⟨_, (match Tryz.prog.underlying 41 with | some (.struct f) => f | _ => #[])[3]!, und41, by kernel_rfl, by kernel_rfl, by kernel_rfl⟩
theorem fd68_0 : Fd Tryz.prog 68 0 0 22 := ⟨_, (match Tryz.prog.underlying 68 with | some (.struct f) => f | _ => #[])[0]!, und68, by kernel_rfl, by kernel_rfl, by kernel_rfl⟩
theorem fd68_1 : Fd Tryz.prog 68 1 1 3 := ⟨_, (match Tryz.prog.underlying 68 with | some (.struct f) => f | _ => #[])[1]!, und68, by kernel_rfl, by kernel_rfl, by kernel_rfl⟩
theorem pl100 : ((match Tryz.prog.underlying 100 with | some (.struct f) => f | _ => #[]) : Array Field).toList.map (fun f => (Tryz.prog.info? f.type).map fun i => (f.offset, i.size)) = [(0, 1), (1, 1)].map some := by kernel_rfl
theorem pl109 : ((match Tryz.prog.underlying 109 with | some (.struct f) => f | _ => #[]) : Array Field).toList.map (fun f => (Tryz.prog.info? f.type).map fun i => (f.offset, i.size)) = [(0, 1), (1, 1), (2, 1)].map some := by kernel_rfl
theorem pl115 : ((match Tryz.prog.underlying 115 with | some (.struct f) => f | _ => #[]) : Array Field).toList.map (fun f => (Tryz.prog.info? f.type).map fun i => (f.offset, i.size)) = [(0, 1), (1, 1)].map some := by kernel_rfl
theorem pl140 : ((match Tryz.prog.underlying 140 with | some (.struct f) => f | _ => #[]) : Array Field).toList.map (fun f => (Tryz.prog.info? f.type).map fun i => (f.offset, i.size)) = [(0, 1), (1, 1), (2, 1), (3, 1), (4, 1)].map some := by kernel_rfl
theorem pl28 : ((match Tryz.prog.underlying 28 with | some (.struct f) => f | _ => #[]) : Array Field).toList.map (fun f => (Tryz.prog.info? f.type).map fun i => (f.offset, i.size)) = [(0, 1), (1, 1)].map some := by kernel_rfl
theorem pl31 : ((match Tryz.prog.underlying 31 with | some (.struct f) => f | _ => #[]) : Array Field).toList.map (fun f => (Tryz.prog.info? f.type).map fun i => (f.offset, i.size)) = [(0, 1), (1, 1)].map some := by kernel_rfl
theorem pl33 : ((match Tryz.prog.underlying 33 with | some (.struct f) => f | _ => #[]) : Array Field).toList.map (fun f => (Tryz.prog.info? f.type).map fun i => (f.offset, i.size)) = [(0, 1), (1, 1), (2, 1), (3, 2), (5, 1), (6, 2), (8, 1), (9, 1), (10, 1), (11, 1), (12, 1), (13, 2)].map some := by kernel_rfl
theorem pl41 : ((match Tryz.prog.underlying 41 with | some (.struct f) => f | _ => #[]) : Array Field).toList.map (fun f => (Tryz.prog.info? f.type).map fun i => (f.offset, i.size)) = [(0, 1), (1, 1), (2, 1), (3, 1)].map some := by kernel_rfl
theorem pl68 : ((match Tryz.prog.underlying 68 with | some (.struct f) => f | _ => #[]) : Array Field).toList.map (fun f => (Tryz.prog.info? f.type).map fun i => (f.offset, i.size)) = [(0, 1), (1, 1)].map some := by kernel_rfl
theorem sl116 : SlT Tryz.prog 116 115 2 24 := SlT.mk' (z := (.agg #[.string ⟨#[]⟩, .int .i64 0])) (by kernel_rfl) (by kernel_rfl) rfl (by decide) (by decide)
theorem sl22 : SlT Tryz.prog 22 3 1 8 := SlT.mk' (z := (.int .i64 0)) (by kernel_rfl) (by kernel_rfl) rfl (by decide) (by decide)
theorem sl29 : SlT Tryz.prog 29 9 1 16 := SlT.mk' (z := (.string ⟨#[]⟩)) (by kernel_rfl) (by kernel_rfl) rfl (by decide) (by decide)
theorem sl35 : SlT Tryz.prog 35 5 1 1 := SlT.mk' (z := (.int .u8 0)) (by kernel_rfl) (by kernel_rfl) rfl (by decide) (by decide)
theorem sl39 : SlT Tryz.prog 39 41 4 64 := SlT.mk' (z := (.agg #[.int .i64 0, .slice none 0 0, .bool false, .slice none 0 0])) (by kernel_rfl) (by kernel_rfl) rfl (by decide) (by decide)
theorem sl69 : SlT Tryz.prog 69 29 1 24 := SlT.mk' (z := (.slice none 0 0)) (by kernel_rfl) (by kernel_rfl) rfl (by decide) (by decide)
theorem ty1 : Ty Tryz.prog 1 false 1 := ⟨by kernel_rfl, by kernel_rfl⟩
theorem ty140 : Ty Tryz.prog 140 true 5 := ⟨by kernel_rfl, by kernel_rfl⟩
theorem ty147 : Ty Tryz.prog 147 true 115 := ⟨by kernel_rfl, by kernel_rfl⟩
theorem ty149 : Ty Tryz.prog 149 true 2 := ⟨by kernel_rfl, by kernel_rfl⟩
theorem ty22 : Ty Tryz.prog 22 false 1 := ⟨by kernel_rfl, by kernel_rfl⟩
theorem ty28 : Ty Tryz.prog 28 true 2 := ⟨by kernel_rfl, by kernel_rfl⟩
theorem ty29 : Ty Tryz.prog 29 false 1 := ⟨by kernel_rfl, by kernel_rfl⟩
theorem ty3 : Ty Tryz.prog 3 false 1 := ⟨by kernel_rfl, by kernel_rfl⟩
theorem ty31 : Ty Tryz.prog 31 true 2 := ⟨by kernel_rfl, by kernel_rfl⟩
theorem ty33 : Ty Tryz.prog 33 true 15 := ⟨by kernel_rfl, by kernel_rfl⟩
theorem ty35 : Ty Tryz.prog 35 false 1 := ⟨by kernel_rfl, by kernel_rfl⟩
theorem ty39 : Ty Tryz.prog 39 false 1 := ⟨by kernel_rfl, by kernel_rfl⟩
theorem ty4 : Ty Tryz.prog 4 false 1 := ⟨by kernel_rfl, by kernel_rfl⟩
theorem ty41 : Ty Tryz.prog 41 true 4 := ⟨by kernel_rfl, by kernel_rfl⟩
theorem ty5 : Ty Tryz.prog 5 false 1 := ⟨by kernel_rfl, by kernel_rfl⟩
theorem ty9 : Ty Tryz.prog 9 false 1 := ⟨by kernel_rfl, by kernel_rfl⟩
theorem ty91 : Ty Tryz.prog 91 false 1 := ⟨by kernel_rfl, by kernel_rfl⟩
theorem z100 : Zt Tryz.prog 100 [.slice none 0 0, .bool false] := ⟨(.agg #[.slice none 0 0, .bool false]), by kernel_rfl, rfl, by decide⟩
theorem z109 : Zt Tryz.prog 109 [.slice none 0 0, .int .i64 0, .bool false] := ⟨(.agg #[.slice none 0 0, .int .i64 0, .bool false]), by kernel_rfl, rfl, by decide⟩
theorem z115 : Zt Tryz.prog 115 [.string ⟨#[]⟩, .int .i64 0] := ⟨(.agg #[.string ⟨#[]⟩, .int .i64 0]), by kernel_rfl, rfl, by decide⟩
theorem z140 : Zt Tryz.prog 140 [.string ⟨#[]⟩, .int .i64 0, .int .i64 0, .slice none 0 0, .slice none 0 0] := ⟨(.agg #[.string ⟨#[]⟩, .int .i64 0, .int .i64 0, .slice none 0 0, .slice none 0 0]), by kernel_rfl, rfl, by decide⟩
theorem z147 : Zt Tryz.prog 147 [.string ⟨#[]⟩, .int .i64 0, .int .i64 0, .slice none 0 0, .slice none 0 0, .string ⟨#[]⟩, .int .i64 0, .int .i64 0, .slice none 0 0, .slice none 0 0, .string ⟨#[]⟩, .int .i64 0, .int .i64 0, .slice none 0 0, .slice none 0 0, .string ⟨#[]⟩, .int .i64 0, .int .i64 0, .slice none 0 0, .slice none 0 0, .string ⟨#[]⟩, .int .i64 0, .int .i64 0, .slice none 0 0, .slice none 0 0, .string ⟨#[]⟩, .int .i64 0, .int .i64 0, .slice none 0 0, .slice none 0 0, .string ⟨#[]⟩, .int .i64 0, .int .i64 0, .slice none 0 0, .slice none 0 0, .string ⟨#[]⟩, .int .i64 0, .int .i64 0, .slice none 0 0, .slice none 0 0, .string ⟨#[]⟩, .int .i64 0, .int .i64 0, .slice none 0 0, .slice none 0 0, .string ⟨#[]⟩, .int .i64 0, .int .i64 0, .slice none 0 0, .slice none 0 0, .string ⟨#[]⟩, .int .i64 0, .int .i64 0, .slice none 0 0, .slice none 0 0, .string ⟨#[]⟩, .int .i64 0, .int .i64 0, .slice none 0 0, .slice none 0 0, .string ⟨#[]⟩, .int .i64 0, .int .i64 0, .slice none 0 0, .slice none 0 0, .string ⟨#[]⟩, .int .i64 0, .int .i64 0, .slice none 0 0, .slice none 0 0, .string ⟨#[]⟩, .int .i64 0, .int .i64 0, .slice none 0 0, .slice none 0 0, .string ⟨#[]⟩, .int .i64 0, .int .i64 0, .slice none 0 0, .slice none 0 0, .string ⟨#[]⟩, .int .i64 0, .int .i64 0, .slice none 0 0, .slice none 0 0, .string ⟨#[]⟩, .int .i64 0, .int .i64 0, .slice none 0 0, .slice none 0 0, .string ⟨#[]⟩, .int .i64 0, .int .i64 0, .slice none 0 0, .slice none 0 0, .string ⟨#[]⟩, .int .i64 0, .int .i64 0, .slice none 0 0, .slice none 0 0, .string ⟨#[]⟩, .int .i64 0, .int .i64 0, .slice none 0 0, .slice none 0 0, .string ⟨#[]⟩, .int .i64 0, .int .i64 0, .slice none 0 0, .slice none 0 0, .string ⟨#[]⟩, .int .i64 0, .int .i64 0, .slice none 0 0, .slice none 0 0] := ⟨(.agg #[.string ⟨#[]⟩, .int .i64 0, .int .i64 0, .slice none 0 0, .slice none 0 0, .string ⟨#[]⟩, .int .i64 0, .int .i64 0, .slice none 0 0, .slice none 0 0, .string ⟨#[]⟩, .int .i64 0, .int .i64 0, .slice none 0 0, .slice none 0 0, .string ⟨#[]⟩, .int .i64 0, .int .i64 0, .slice none 0 0, .slice none 0 0, .string ⟨#[]⟩, .int .i64 0, .int .i64 0, .slice none 0 0, .slice none 0 0, .string ⟨#[]⟩, .int .i64 0, .int .i64 0, .slice none 0 0, .slice none 0 0, .string ⟨#[]⟩, .int .i64 0, .int .i64 0, .slice none 0 0, .slice none 0 0, .string ⟨#[]⟩, .int .i64 0, .int .i64 0, .slice none 0 0, .slice none 0 0, .string ⟨#[]⟩, .int .i64 0, .int .i64 0, .slice none 0 0, .slice none 0 0, .string ⟨#[]⟩, .int .i64 0, .int .i64 0, .slice none 0 0, .slice none 0 0, .string ⟨#[]⟩, .int .i64 0, .int .i64 0, .slice none 0 0, .slice none 0 0, .string ⟨#[]⟩, .int .i64 0, .int .i64 0, .slice none 0 0, .slice none 0 0, .string ⟨#[]⟩, .int .i64 0, .int .i64 0, .slice none 0 0, .slice none 0 0, .string ⟨#[]⟩, .int .i64 0, .int .i64 0, .slice none 0 0, .slice none 0 0, .string ⟨#[]⟩, .int .i64 0, .int .i64 0, .slice none 0 0, .slice none 0 0, .string ⟨#[]⟩, .int .i64 0, .int .i64 0, .slice none 0 0, .slice none 0 0, .string ⟨#[]⟩, .int .i64 0, .int .i64 0, .slice none 0 0, .slice none 0 0, .string ⟨#[]⟩, .int .i64 0, .int .i64 0, .slice none 0 0, .slice none 0 0, .string ⟨#[]⟩, .int .i64 0, .int .i64 0, .slice none 0 0, .slice none 0 0, .string ⟨#[]⟩, .int .i64 0, .int .i64 0, .slice none 0 0, .slice none 0 0, .string ⟨#[]⟩, .int .i64 0, .int .i64 0, .slice none 0 0, .slice none 0 0, .string ⟨#[]⟩, .int .i64 0, .int .i64 0, .slice none 0 0, .slice none 0 0, .string ⟨#[]⟩, .int .i64 0, .int .i64 0, .slice none 0 0, .slice none 0 0]), by kernel_rfl, rfl, by decide⟩
theorem z149 : Zt Tryz.prog 149 [.int .i64 0, .int .i64 0] := ⟨(.agg #[.int .i64 0, .int .i64 0]), by kernel_rfl, rfl, by decide⟩
theorem z150 : Zt Tryz.prog 150 [.int .i64 0, .int .i64 0, .int .i64 0, .int .i64 0, .int .i64 0, .int .i64 0, .int .i64 0, .int .i64 0, .int .i64 0, .int .i64 0] := ⟨(.agg #[.int .i64 0, .int .i64 0, .int .i64 0, .int .i64 0, .int .i64 0, .int .i64 0, .int .i64 0, .int .i64 0, .int .i64 0, .int .i64 0]), by kernel_rfl, rfl, by decide⟩
theorem z28 : Zt Tryz.prog 28 [.int .i64 0, .int .i64 0] := ⟨(.agg #[.int .i64 0, .int .i64 0]), by kernel_rfl, rfl, by decide⟩
theorem z29 : Zt Tryz.prog 29 [.slice none 0 0] := ⟨(.slice none 0 0), by kernel_rfl, rfl, by decide⟩
theorem z3 : Zt Tryz.prog 3 [.int .i64 0] := ⟨(.int .i64 0), by kernel_rfl, rfl, by decide⟩
theorem z31 : Zt Tryz.prog 31 [.int .i64 0, .int .i64 0] := ⟨(.agg #[.int .i64 0, .int .i64 0]), by kernel_rfl, rfl, by decide⟩
theorem z33 : Zt Tryz.prog 33 [.int .i64 0, .string ⟨#[]⟩, .string ⟨#[]⟩, .int .i64 0, .int .i64 0, .int .i64 0, .int .i64 0, .int .i64 0, .int .i64 0, .int .i64 0, .bool false, .int .i64 0, .slice none 0 0, .int .i64 0, .int .i64 0] := ⟨(.agg #[.int .i64 0, .string ⟨#[]⟩, .string ⟨#[]⟩, .int .i64 0, .int .i64 0, .int .i64 0, .int .i64 0, .int .i64 0, .int .i64 0, .int .i64 0, .bool false, .int .i64 0, .slice none 0 0, .int .i64 0, .int .i64 0]), by kernel_rfl, rfl, by decide⟩
theorem z41 : Zt Tryz.prog 41 [.int .i64 0, .slice none 0 0, .bool false, .slice none 0 0] := ⟨(.agg #[.int .i64 0, .slice none 0 0, .bool false, .slice none 0 0]), by kernel_rfl, rfl, by decide⟩
theorem z5 : Zt Tryz.prog 5 [.int .u8 0] := ⟨(.int .u8 0), by kernel_rfl, rfl, by decide⟩
theorem z68 : Zt Tryz.prog 68 [.slice none 0 0, .int .i64 0] := ⟨(.agg #[.slice none 0 0, .int .i64 0]), by kernel_rfl, rfl, by decide⟩
theorem z9 : Zt Tryz.prog 9 [.string ⟨#[]⟩] := ⟨(.string ⟨#[]⟩), by kernel_rfl, rfl, by decide⟩
theorem z91 : Zt Tryz.prog 91 [.pointer none] := ⟨(.pointer none), by kernel_rfl, rfl, by decide⟩
theorem z98 : Zt Tryz.prog 98 [.nilFunc, .nilFunc, .nilFunc, .nilFunc, .nilFunc, .nilFunc, .nilFunc, .nilFunc] := ⟨(.agg #[.nilFunc, .nilFunc, .nilFunc, .nilFunc, .nilFunc, .nilFunc, .nilFunc, .nilFunc]), by kernel_rfl, rfl, by decide⟩
theorem ck115 : cellK Tryz.prog 20 115 = [none, none] := by kernel_rfl
theorem ck29 : cellK Tryz.prog 20 29 = [some 1] := by kernel_rfl
theorem ck3 : cellK Tryz.prog 20 3 = [none] := by kernel_rfl
theorem ck41 : cellK Tryz.prog 20 41 = [none, some 1, none, some 4] := by kernel_rfl
theorem ck5 : cellK Tryz.prog 20 5 = [none] := by kernel_rfl
theorem ck9 : cellK Tryz.prog 20 9 = [none] := by kernel_rfl
theorem eg28 : Tryz.prog.eqGuardType Tryz.prog.depth 28 = false := by kernel_rfl
theorem sf28 : Tryz.prog.underlying 28 = some (.struct (Tryz.prog.fieldsOf 28)) := by kernel_rfl
theorem sh28 : Tryz.prog.stoodInHeld 28 = false := by kernel_rfl
theorem se28 (x y : api_Use) (w : World) : (Op.equalIn 10000 28 (.agg #[.int .i64 x.Alg, .int .i64 x.Bits]) (.agg #[.int .i64 y.Alg, .int .i64 y.Bits])).run Tryz.prog w = .ok (decide (x = y)) w := by
 have u3 := Tryz.underlying3
 have a3 := Tryz.isAgg3
 have z3 := Tryz.sizeOf3
 rw [show (10000 : Nat) = 9999 + 1 from rfl, run_equalIn_agg w 9999 28 _ _ sf28 sh28]
 simp only [Program.fieldsOf, Tryz.underlying28]
 go_simp
 rcases x with ⟨x0, x1⟩
 rcases y with ⟨y0, y1⟩
 by_cases h0 : x0 = y0 <;> by_cases h1 : x1 = y1 <;> simp [h0, h1]
theorem steq28_eql (x y : api_Use) {X Y : Operand} {tk : Nat} {yt ty : TypeId} {b1 b2 : Option LB} : OpR Tryz.prog tk (.binOp .eql 28 X Y yt) ty [(.agg [.val (.int .i64 x.Alg), .val (.int .i64 x.Bits)], b1), (.agg [.val (.int .i64 y.Alg), .val (.int .i64 y.Bits)], b2)] [] (v0 (.val (.bool (decide (x = y))))) :=
 .binOpA rfl rfl (fun _ _ => rfl) (fun w => by
  rw [Sem.run_bind, run_eqGuard_agg w _ 28 X Y _ _ eg28]
  simp only [Result.andThen_ok, run_eql_struct]
  exact congrArg (fun r => Result.andThen r _) (se28 x y w))
theorem eg31 : Tryz.prog.eqGuardType Tryz.prog.depth 31 = false := by kernel_rfl
theorem sf31 : Tryz.prog.underlying 31 = some (.struct (Tryz.prog.fieldsOf 31)) := by kernel_rfl
theorem sh31 : Tryz.prog.stoodInHeld 31 = false := by kernel_rfl
theorem se31 (x y : api_Seal) (w : World) : (Op.equalIn 10000 31 (.agg #[.int .i64 x.Key, .int .i64 x.Sum]) (.agg #[.int .i64 y.Key, .int .i64 y.Sum])).run Tryz.prog w = .ok (decide (x = y)) w := by
 have u3 := Tryz.underlying3
 have a3 := Tryz.isAgg3
 have z3 := Tryz.sizeOf3
 rw [show (10000 : Nat) = 9999 + 1 from rfl, run_equalIn_agg w 9999 31 _ _ sf31 sh31]
 simp only [Program.fieldsOf, Tryz.underlying31]
 go_simp
 rcases x with ⟨x0, x1⟩
 rcases y with ⟨y0, y1⟩
 by_cases h0 : x0 = y0 <;> by_cases h1 : x1 = y1 <;> simp [h0, h1]
theorem steq31_eql (x y : api_Seal) {X Y : Operand} {tk : Nat} {yt ty : TypeId} {b1 b2 : Option LB} : OpR Tryz.prog tk (.binOp .eql 31 X Y yt) ty [(.agg [.val (.int .i64 x.Key), .val (.int .i64 x.Sum)], b1), (.agg [.val (.int .i64 y.Key), .val (.int .i64 y.Sum)], b2)] [] (v0 (.val (.bool (decide (x = y))))) :=
 .binOpA rfl rfl (fun _ _ => rfl) (fun w => by
  rw [Sem.run_bind, run_eqGuard_agg w _ 31 X Y _ _ eg31]
  simp only [Result.andThen_ok, run_eql_struct]
  exact congrArg (fun r => Result.andThen r _) (se31 x y w))
instance : FdC Tryz.prog 100 0 0 39 := ⟨fd100_0⟩
instance : FdC Tryz.prog 100 1 1 4 := ⟨fd100_1⟩
instance : FdC Tryz.prog 109 0 0 39 := ⟨fd109_0⟩
instance : FdC Tryz.prog 109 1 1 3 := ⟨fd109_1⟩
instance : FdC Tryz.prog 109 2 2 4 := ⟨fd109_2⟩
instance : FdC Tryz.prog 115 1 1 3 := ⟨fd115_1⟩
instance : FdC Tryz.prog 140 1 1 3 := ⟨fd140_1⟩
instance : FdC Tryz.prog 140 2 2 3 := ⟨fd140_2⟩
instance : FdC Tryz.prog 140 3 3 22 := ⟨fd140_3⟩
instance : FdC Tryz.prog 140 4 4 22 := ⟨fd140_4⟩
instance : FdC Tryz.prog 28 0 0 3 := ⟨fd28_0⟩
instance : FdC Tryz.prog 28 1 1 3 := ⟨fd28_1⟩
instance : FdC Tryz.prog 31 0 0 3 := ⟨fd31_0⟩
instance : FdC Tryz.prog 31 1 1 3 := ⟨fd31_1⟩
instance : FdC Tryz.prog 33 0 0 3 := ⟨fd33_0⟩
instance : FdC Tryz.prog 33 1 1 9 := ⟨fd33_1⟩
instance : FdC Tryz.prog 33 10 12 29 := ⟨fd33_10⟩
instance : FdC Tryz.prog 33 11 13 31 := ⟨fd33_11⟩
instance : FdC Tryz.prog 33 2 2 9 := ⟨fd33_2⟩
instance : FdC Tryz.prog 33 3 3 28 := ⟨fd33_3⟩
instance : FdC Tryz.prog 33 4 5 3 := ⟨fd33_4⟩
instance : FdC Tryz.prog 33 5 6 28 := ⟨fd33_5⟩
instance : FdC Tryz.prog 33 6 8 3 := ⟨fd33_6⟩
instance : FdC Tryz.prog 33 7 9 3 := ⟨fd33_7⟩
instance : FdC Tryz.prog 33 8 10 4 := ⟨fd33_8⟩
instance : FdC Tryz.prog 33 9 11 3 := ⟨fd33_9⟩
instance : FdC Tryz.prog 41 0 0 3 := ⟨fd41_0⟩
instance : FdC Tryz.prog 41 1 1 35 := ⟨fd41_1⟩
instance : FdC Tryz.prog 41 2 2 4 := ⟨fd41_2⟩
instance : FdC Tryz.prog 41 3 3 39 := ⟨fd41_3⟩
instance : FdC Tryz.prog 68 0 0 22 := ⟨fd68_0⟩
instance : FdC Tryz.prog 68 1 1 3 := ⟨fd68_1⟩
instance : SlC Tryz.prog 116 115 2 24 := ⟨sl116⟩
instance : SlC Tryz.prog 22 3 1 8 := ⟨sl22⟩
instance : SlC Tryz.prog 29 9 1 16 := ⟨sl29⟩
instance : SlC Tryz.prog 35 5 1 1 := ⟨sl35⟩
instance : SlC Tryz.prog 39 41 4 64 := ⟨sl39⟩
instance : SlC Tryz.prog 69 29 1 24 := ⟨sl69⟩
instance : TyC Tryz.prog 1 false 1 := ⟨ty1⟩
instance : TyC Tryz.prog 140 true 5 := ⟨ty140⟩
instance : TyC Tryz.prog 147 true 115 := ⟨ty147⟩
instance : TyC Tryz.prog 149 true 2 := ⟨ty149⟩
instance : TyC Tryz.prog 22 false 1 := ⟨ty22⟩
instance : TyC Tryz.prog 28 true 2 := ⟨ty28⟩
instance : TyC Tryz.prog 29 false 1 := ⟨ty29⟩
instance : TyC Tryz.prog 3 false 1 := ⟨ty3⟩
instance : TyC Tryz.prog 31 true 2 := ⟨ty31⟩
instance : TyC Tryz.prog 33 true 15 := ⟨ty33⟩
instance : TyC Tryz.prog 35 false 1 := ⟨ty35⟩
instance : TyC Tryz.prog 39 false 1 := ⟨ty39⟩
instance : TyC Tryz.prog 4 false 1 := ⟨ty4⟩
instance : TyC Tryz.prog 41 true 4 := ⟨ty41⟩
instance : TyC Tryz.prog 5 false 1 := ⟨ty5⟩
instance : TyC Tryz.prog 9 false 1 := ⟨ty9⟩
instance : TyC Tryz.prog 91 false 1 := ⟨ty91⟩
instance : ZtC Tryz.prog 100 [.slice none 0 0, .bool false] := ⟨z100⟩
instance : ZtC Tryz.prog 109 [.slice none 0 0, .int .i64 0, .bool false] := ⟨z109⟩
instance : ZtC Tryz.prog 115 [.string ⟨#[]⟩, .int .i64 0] := ⟨z115⟩
instance : ZtC Tryz.prog 140 [.string ⟨#[]⟩, .int .i64 0, .int .i64 0, .slice none 0 0, .slice none 0 0] := ⟨z140⟩
instance : ZtC Tryz.prog 147 [.string ⟨#[]⟩, .int .i64 0, .int .i64 0, .slice none 0 0, .slice none 0 0, .string ⟨#[]⟩, .int .i64 0, .int .i64 0, .slice none 0 0, .slice none 0 0, .string ⟨#[]⟩, .int .i64 0, .int .i64 0, .slice none 0 0, .slice none 0 0, .string ⟨#[]⟩, .int .i64 0, .int .i64 0, .slice none 0 0, .slice none 0 0, .string ⟨#[]⟩, .int .i64 0, .int .i64 0, .slice none 0 0, .slice none 0 0, .string ⟨#[]⟩, .int .i64 0, .int .i64 0, .slice none 0 0, .slice none 0 0, .string ⟨#[]⟩, .int .i64 0, .int .i64 0, .slice none 0 0, .slice none 0 0, .string ⟨#[]⟩, .int .i64 0, .int .i64 0, .slice none 0 0, .slice none 0 0, .string ⟨#[]⟩, .int .i64 0, .int .i64 0, .slice none 0 0, .slice none 0 0, .string ⟨#[]⟩, .int .i64 0, .int .i64 0, .slice none 0 0, .slice none 0 0, .string ⟨#[]⟩, .int .i64 0, .int .i64 0, .slice none 0 0, .slice none 0 0, .string ⟨#[]⟩, .int .i64 0, .int .i64 0, .slice none 0 0, .slice none 0 0, .string ⟨#[]⟩, .int .i64 0, .int .i64 0, .slice none 0 0, .slice none 0 0, .string ⟨#[]⟩, .int .i64 0, .int .i64 0, .slice none 0 0, .slice none 0 0, .string ⟨#[]⟩, .int .i64 0, .int .i64 0, .slice none 0 0, .slice none 0 0, .string ⟨#[]⟩, .int .i64 0, .int .i64 0, .slice none 0 0, .slice none 0 0, .string ⟨#[]⟩, .int .i64 0, .int .i64 0, .slice none 0 0, .slice none 0 0, .string ⟨#[]⟩, .int .i64 0, .int .i64 0, .slice none 0 0, .slice none 0 0, .string ⟨#[]⟩, .int .i64 0, .int .i64 0, .slice none 0 0, .slice none 0 0, .string ⟨#[]⟩, .int .i64 0, .int .i64 0, .slice none 0 0, .slice none 0 0, .string ⟨#[]⟩, .int .i64 0, .int .i64 0, .slice none 0 0, .slice none 0 0, .string ⟨#[]⟩, .int .i64 0, .int .i64 0, .slice none 0 0, .slice none 0 0, .string ⟨#[]⟩, .int .i64 0, .int .i64 0, .slice none 0 0, .slice none 0 0] := ⟨z147⟩
instance : ZtC Tryz.prog 149 [.int .i64 0, .int .i64 0] := ⟨z149⟩
instance : ZtC Tryz.prog 150 [.int .i64 0, .int .i64 0, .int .i64 0, .int .i64 0, .int .i64 0, .int .i64 0, .int .i64 0, .int .i64 0, .int .i64 0, .int .i64 0] := ⟨z150⟩
instance : ZtC Tryz.prog 28 [.int .i64 0, .int .i64 0] := ⟨z28⟩
instance : ZtC Tryz.prog 29 [.slice none 0 0] := ⟨z29⟩
instance : ZtC Tryz.prog 3 [.int .i64 0] := ⟨z3⟩
instance : ZtC Tryz.prog 31 [.int .i64 0, .int .i64 0] := ⟨z31⟩
instance : ZtC Tryz.prog 33 [.int .i64 0, .string ⟨#[]⟩, .string ⟨#[]⟩, .int .i64 0, .int .i64 0, .int .i64 0, .int .i64 0, .int .i64 0, .int .i64 0, .int .i64 0, .bool false, .int .i64 0, .slice none 0 0, .int .i64 0, .int .i64 0] := ⟨z33⟩
instance : ZtC Tryz.prog 41 [.int .i64 0, .slice none 0 0, .bool false, .slice none 0 0] := ⟨z41⟩
instance : ZtC Tryz.prog 5 [.int .u8 0] := ⟨z5⟩
instance : ZtC Tryz.prog 68 [.slice none 0 0, .int .i64 0] := ⟨z68⟩
instance : ZtC Tryz.prog 9 [.string ⟨#[]⟩] := ⟨z9⟩
instance : ZtC Tryz.prog 91 [.pointer none] := ⟨z91⟩
instance : ZtC Tryz.prog 98 [.nilFunc, .nilFunc, .nilFunc, .nilFunc, .nilFunc, .nilFunc, .nilFunc, .nilFunc] := ⟨z98⟩
instance : ElC api_Use.enc 2 := ⟨api_Use.enc_len⟩
instance : ElC api_Seal.enc 2 := ⟨api_Seal.enc_len⟩
instance : ElC api_Certificate.enc 15 := ⟨api_Certificate.enc_len⟩
instance : ElC cipherplanmake_Dice.enc 2 := ⟨cipherplanmake_Dice.enc_len⟩
instance : ElC api_Value.enc 4 := ⟨api_Value.enc_len⟩
instance : ElC catalog_row.enc 5 := ⟨catalog_row.enc_len⟩
instance : ElC certificate_Reader.enc 2 := ⟨certificate_Reader.enc_len⟩
instance : ElC cipherplanref02_row.enc 2 := ⟨cipherplanref02_row.enc_len⟩
instance : ElC cipherplanref03_Reader.enc 3 := ⟨cipherplanref03_Reader.enc_len⟩
end Go.Proofs.YtlcfdnjokgbccaaGreat
