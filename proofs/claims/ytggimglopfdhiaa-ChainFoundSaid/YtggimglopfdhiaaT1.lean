/- Encodings; what is known of types. -/
import Derived.Test.YtggimglopfdhiaaEF
import Derived.Test.YtggimglopfdhiaaP1
import Derived.Test.YtggimglopfdhiaaProg
set_option linter.unusedVariables false
set_option linter.unusedSimpArgs false
set_option maxRecDepth 100000
set_option maxHeartbeats 1600000
namespace Go.Proofs.Ytggimglopfdhiaa
open Go.RowKit
abbrev cipherplanmake_Dice.dv (x : cipherplanmake_Dice) : List DV := [.sl 1 (encL eI x.L), .val (.int .i64 x.At)]
def cipherplanmake_Dice.enc (x : cipherplanmake_Dice) : List C := [.sl 1 (encL eI x.L), .int .i64 x.At]
theorem cipherplanmake_Dice.enc_len (x : cipherplanmake_Dice) : (cipherplanmake_Dice.enc x).length = 2 := rfl
abbrev api_Use.dv (x : api_Use) : List DV := [.val (.int .i64 x.Alg), .val (.int .i64 x.Bits)]
def api_Use.enc (x : api_Use) : List C := [.int .i64 x.Alg, .int .i64 x.Bits]
theorem api_Use.enc_len (x : api_Use) : (api_Use.enc x).length = 2 := rfl
abbrev api_Seal.dv (x : api_Seal) : List DV := [.val (.int .i64 x.Key), .val (.int .i64 x.Sum)]
def api_Seal.enc (x : api_Seal) : List C := [.int .i64 x.Key, .int .i64 x.Sum]
theorem api_Seal.enc_len (x : api_Seal) : (api_Seal.enc x).length = 2 := rfl
abbrev api_Certificate.dv (x : api_Certificate) : List DV := [.val (.int .i64 x.Serial), .val (.string x.Issuer), .val (.string x.Subject), .val (.int .i64 x.Key.Alg), .val (.int .i64 x.Key.Bits), .val (.int .i64 x.KeyId), .val (.int .i64 x.Hash.Alg), .val (.int .i64 x.Hash.Bits), .val (.int .i64 x.From), .val (.int .i64 x.To), .val (.bool x.Authority), .val (.int .i64 x.Path), .sl 1 (encL eS x.Names), .val (.int .i64 x.Seal.Key), .val (.int .i64 x.Seal.Sum)]
def api_Certificate.enc (x : api_Certificate) : List C := [.int .i64 x.Serial, .str x.Issuer, .str x.Subject, .int .i64 x.Key.Alg, .int .i64 x.Key.Bits, .int .i64 x.KeyId, .int .i64 x.Hash.Alg, .int .i64 x.Hash.Bits, .int .i64 x.From, .int .i64 x.To, .bool x.Authority, .int .i64 x.Path, .sl 1 (encL eS x.Names), .int .i64 x.Seal.Key, .int .i64 x.Seal.Sum]
theorem api_Certificate.enc_len (x : api_Certificate) : (api_Certificate.enc x).length = 15 := rfl
abbrev cipherplanref02_row.dv (x : cipherplanref02_row) : List DV := [.val (.string x.name), .val (.int .i64 x.kind)]
def cipherplanref02_row.enc (x : cipherplanref02_row) : List C := [.str x.name, .int .i64 x.kind]
theorem cipherplanref02_row.enc_len (x : cipherplanref02_row) : (cipherplanref02_row.enc x).length = 2 := rfl
mutual
def api_Value.enc : api_Value → List C
 | ⟨Tag, Bytes, Nested, Elements⟩ => [.int .i64 Tag, .sl 1 (encL e8 Bytes), .bool Nested, .sl 4 (api_Value.encs Elements)]
def api_Value.encs : List api_Value → List C
 | [] => []
 | x :: l => api_Value.enc x ++ api_Value.encs l
end
theorem api_Value.encs_eq : ∀ (l : List api_Value), api_Value.encs l = encL api_Value.enc l
 | [] => rfl
 | x :: l => by
  show api_Value.enc x ++ api_Value.encs l = api_Value.enc x ++ encL api_Value.enc l
  rw [api_Value.encs_eq l]
theorem api_Value.enc_eq (x : api_Value) : api_Value.enc x = [.int .i64 x.Tag, .sl 1 (encL e8 x.Bytes), .bool x.Nested, .sl 4 (encL api_Value.enc x.Elements)] := by
 cases x
 simp only [api_Value.enc, api_Value.encs_eq]
theorem api_Value.enc_len (x : api_Value) : (api_Value.enc x).length = 4 := by rw [api_Value.enc_eq]; rfl
abbrev api_Value.dv (x : api_Value) : List DV := [.val (.int .i64 x.Tag), .sl 1 (encL e8 x.Bytes), .val (.bool x.Nested), .sl 4 (encL api_Value.enc x.Elements)]
abbrev catalog_row.dv (x : catalog_row) : List DV := [.val (.string x.name), .val (.int .i64 x.kind), .val (.int .i64 x.way), .sl 1 (encL eI x.sizes), .sl 1 (encL eI x.strengths)]
def catalog_row.enc (x : catalog_row) : List C := [.str x.name, .int .i64 x.kind, .int .i64 x.way, .sl 1 (encL eI x.sizes), .sl 1 (encL eI x.strengths)]
theorem catalog_row.enc_len (x : catalog_row) : (catalog_row.enc x).length = 5 := rfl
abbrev chain_search.dv (x : chain_search) : List DV := [.sl 15 (encL api_Certificate.enc x.pool), .sl 1 (encL eI x.anchors), .sl 1 (encL eI x.hashes), .val (.int .i64 x.day), .val (.string x.name)]
def chain_search.enc (x : chain_search) : List C := [.sl 15 (encL api_Certificate.enc x.pool), .sl 1 (encL eI x.anchors), .sl 1 (encL eI x.hashes), .int .i64 x.day, .str x.name]
theorem chain_search.enc_len (x : chain_search) : (chain_search.enc x).length = 5 := rfl
theorem und3 : Try.prog.underlying 3 = some (.int .i64) := by kernel_rfl
theorem und4 : Try.prog.underlying 4 = some (.bool) := by kernel_rfl
theorem und5 : Try.prog.underlying 5 = some (.int .u8) := by kernel_rfl
theorem und9 : Try.prog.underlying 9 = some (.string) := by kernel_rfl
theorem und30 : Try.prog.underlying 30 = some (.struct ((match Try.prog.underlying 30 with | some (.struct f) => f | _ => #[]))) := by kernel_rfl
theorem und36 : Try.prog.underlying 36 = some (.slice 9) := by kernel_rfl
theorem und38 : Try.prog.underlying 38 = some (.struct ((match Try.prog.underlying 38 with | some (.struct f) => f | _ => #[]))) := by kernel_rfl
theorem und40 : Try.prog.underlying 40 = some (.struct ((match Try.prog.underlying 40 with | some (.struct f) => f | _ => #[]))) := by kernel_rfl
theorem und49 : Try.prog.underlying 49 = some (.struct ((match Try.prog.underlying 49 with | some (.struct f) => f | _ => #[]))) := by kernel_rfl
theorem und54 : Try.prog.underlying 54 = some (.struct ((match Try.prog.underlying 54 with | some (.struct f) => f | _ => #[]))) := by kernel_rfl
theorem und63 : Try.prog.underlying 63 = some (.array 2 33) := by kernel_rfl
theorem und65 : Try.prog.underlying 65 = some (.array 3 33) := by kernel_rfl
theorem und70 : Try.prog.underlying 70 = some (.slice 5) := by kernel_rfl
theorem und87 : Try.prog.underlying 87 = some (.struct ((match Try.prog.underlying 87 with | some (.struct f) => f | _ => #[]))) := by kernel_rfl
theorem und89 : Try.prog.underlying 89 = some (.int .u32) := by kernel_rfl
theorem und94 : Try.prog.underlying 94 = some (.struct ((match Try.prog.underlying 94 with | some (.struct f) => f | _ => #[]))) := by kernel_rfl
theorem und112 : Try.prog.underlying 112 = some (.struct ((match Try.prog.underlying 112 with | some (.struct f) => f | _ => #[]))) := by kernel_rfl
theorem und117 : Try.prog.underlying 117 = some (.int .u64) := by kernel_rfl
theorem und118 : Try.prog.underlying 118 = some (.array 23 112) := by kernel_rfl
theorem und122 : Try.prog.underlying 122 = some (.array 2 3) := by kernel_rfl
theorem und123 : Try.prog.underlying 123 = some (.array 5 122) := by kernel_rfl
theorem fd112_1 : Fd Try.prog 112 1 1 3 := ⟨_, (match Try.prog.underlying 112 with | some (.struct f) => f | _ => #[])[1]!, und112, by kernel_rfl, by kernel_rfl, by kernel_rfl⟩
theorem fd112_2 : Fd Try.prog 112 2 2 3 := ⟨_, (match Try.prog.underlying 112 with | some (.struct f) => f | _ => #[])[2]!, und112, by kernel_rfl, by kernel_rfl, by kernel_rfl⟩
theorem fd112_3 : Fd Try.prog 112 3 3 22 := ⟨_, (match Try.prog.underlying 112 with | some (.struct f) => f | _ => #[])[3]!, und112, by kernel_rfl, by kernel_rfl, by kernel_rfl⟩
theorem fd112_4 : Fd Try.prog 112 4 4 22 := ⟨_, (match Try.prog.underlying 112 with | some (.struct f) => f | _ => #[])[4]!, und112, by kernel_rfl, by kernel_rfl, by kernel_rfl⟩
theorem fd30_0 : Fd Try.prog 30 0 0 3 := ⟨_, (match Try.prog.underlying 30 with | some (.struct f) => f | _ => #[])[0]!, und30, by kernel_rfl, by kernel_rfl, by kernel_rfl⟩
theorem fd30_1 : Fd Try.prog 30 1 1 3 := ⟨_, (match Try.prog.underlying 30 with | some (.struct f) => f | _ => #[])[1]!, und30, by kernel_rfl, by kernel_rfl, by kernel_rfl⟩
theorem fd38_0 : Fd Try.prog 38 0 0 3 := ⟨_, (match Try.prog.underlying 38 with | some (.struct f) => f | _ => #[])[0]!, und38, by kernel_rfl, by kernel_rfl, by kernel_rfl⟩
theorem fd38_1 : Fd Try.prog 38 1 1 3 := ⟨_, (match Try.prog.underlying 38 with | some (.struct f) => f | _ => #[])[1]!, und38, by kernel_rfl, by kernel_rfl, by kernel_rfl⟩
theorem fd40_0 : Fd Try.prog 40 0 0 3 := ⟨_, (match Try.prog.underlying 40 with | some (.struct f) => f | _ => #[])[0]!, und40, by kernel_rfl, by kernel_rfl, by kernel_rfl⟩
theorem fd40_1 : Fd Try.prog 40 1 1 9 := ⟨_, (match Try.prog.underlying 40 with | some (.struct f) => f | _ => #[])[1]!, und40, by kernel_rfl, by kernel_rfl, by kernel_rfl⟩
theorem fd40_10 : Fd Try.prog 40 10 12 36 := ⟨_, (match Try.prog.underlying 40 with | some (.struct f) => f | _ => #[])[10]!, und40, by kernel_rfl, by kernel_rfl, by kernel_rfl⟩
theorem fd40_11 : Fd Try.prog 40 11 13 38 := ⟨_, (match Try.prog.underlying 40 with | some (.struct f) => f | _ => #[])[11]!, und40, by kernel_rfl, by kernel_rfl, by kernel_rfl⟩
theorem fd40_2 : Fd Try.prog 40 2 2 9 := ⟨_, (match Try.prog.underlying 40 with | some (.struct f) => f | _ => #[])[2]!, und40, by kernel_rfl, by kernel_rfl, by kernel_rfl⟩
theorem fd40_3 : Fd Try.prog 40 3 3 30 := ⟨_, (match Try.prog.underlying 40 with | some (.struct f) => f | _ => #[])[3]!, und40, by kernel_rfl, by kernel_rfl, by kernel_rfl⟩
theorem fd40_4 : Fd Try.prog 40 4 5 3 := ⟨_, (match Try.prog.underlying 40 with | some (.struct f) => f | _ => #[])[4]!, und40, by kernel_rfl, by kernel_rfl, by kernel_rfl⟩
theorem fd40_5 : Fd Try.prog 40 5 6 30 := ⟨_, (match Try.prog.underlying 40 with | some (.struct f) => f | _ => #[])[5]!, und40, by kernel_rfl, by kernel_rfl, by kernel_rfl⟩
theorem fd40_6 : Fd Try.prog 40 6 8 3 := ⟨_, (match Try.prog.underlying 40 with | some (.struct f) => f | _ => #[])[6]!, und40, by kernel_rfl, by kernel_rfl, by kernel_rfl⟩
theorem fd40_7 : Fd Try.prog 40 7 9 3 := ⟨_, (match Try.prog.underlying 40 with | some (.struct f) => f | _ => #[])[7]!, und40, by kernel_rfl, by kernel_rfl, by kernel_rfl⟩
theorem fd40_8 : Fd Try.prog 40 8 10 4 := ⟨_, (match Try.prog.underlying 40 with | some (.struct f) => f | _ => #[])[8]!, und40, by kernel_rfl, by kernel_rfl, by kernel_rfl⟩
theorem fd40_9 : Fd Try.prog 40 9 11 3 := ⟨_, (match Try.prog.underlying 40 with | some (.struct f) => f | _ => #[])[9]!, und40, by kernel_rfl, by kernel_rfl, by kernel_rfl⟩
theorem fd49_0 : Fd Try.prog 49 0 0 22 := ⟨_, (match Try.prog.underlying 49 with | some (.struct f) => f | _ => #[])[0]!, und49, by kernel_rfl, by kernel_rfl, by kernel_rfl⟩
theorem fd49_1 : Fd Try.prog 49 1 1 3 := ⟨_, (match Try.prog.underlying 49 with | some (.struct f) => f | _ => #[])[1]!, und49, by kernel_rfl, by kernel_rfl, by kernel_rfl⟩
theorem fd54_0 : Fd Try.prog 54 0 0 27 := ⟨_, (match Try.prog.underlying 54 with | some (.struct f) => f | _ => #[])[0]!, und54, by kernel_rfl, by kernel_rfl, by kernel_rfl⟩
theorem fd54_1 : Fd Try.prog 54 1 1 22 := ⟨_, (match Try.prog.underlying 54 with | some (.struct f) => f | _ => #[])[1]!, und54, by kernel_rfl, by kernel_rfl, by kernel_rfl⟩
theorem fd54_2 : Fd Try.prog 54 2 2 22 := ⟨_, (match Try.prog.underlying 54 with | some (.struct f) => f | _ => #[])[2]!, und54, by kernel_rfl, by kernel_rfl, by kernel_rfl⟩
theorem fd54_3 : Fd Try.prog 54 3 3 3 := ⟨_, (match Try.prog.underlying 54 with | some (.struct f) => f | _ => #[])[3]!, und54, by kernel_rfl, by kernel_rfl, by kernel_rfl⟩
theorem fd54_4 : Fd Try.prog 54 4 4 9 := ⟨_, (match Try.prog.underlying 54 with | some (.struct f) => f | _ => #[])[4]!, und54, by kernel_rfl, by kernel_rfl, by kernel_rfl⟩
theorem fd87_0 : Fd Try.prog 87 0 0 3 := ⟨_, (match Try.prog.underlying 87 with | some (.struct f) => f | _ => #[])[0]!, und87, by kernel_rfl, by kernel_rfl, by kernel_rfl⟩
theorem fd87_1 : Fd Try.prog 87 1 1 70 := ⟨_, (match Try.prog.underlying 87 with | some (.struct f) => f | _ => #[])[1]!, und87, by kernel_rfl, by kernel_rfl, by kernel_rfl⟩
theorem fd87_2 : Fd Try.prog 87 2 2 4 := ⟨_, (match Try.prog.underlying 87 with | some (.struct f) => f | _ => #[])[2]!, und87, by kernel_rfl, by kernel_rfl, by kernel_rfl⟩
theorem fd87_3 : Fd Try.prog 87 3 3 85 := ⟨_, (match Try.prog.underlying 87 with | some (.struct f) => f | _ => #[])[3]!, und87, by kernel_rfl, by kernel_rfl, by kernel_rfl⟩
theorem fd94_1 : Fd Try.prog 94 1 1 3 := ⟨_, (match Try.prog.underlying 94 with | some (.struct f) => f | _ => #[])[1]!, und94, by kernel_rfl, by kernel_rfl, by kernel_rfl⟩
theorem pl112 : ((match Try.prog.underlying 112 with | some (.struct f) => f | _ => #[]) : Array Field).toList.map (fun f => (Try.prog.info? f.type).map fun i => (f.offset, i.size)) = [(0, 1), (1, 1), (2, 1), (3, 1), (4, 1)].map some := by kernel_rfl
theorem pl30 : ((match Try.prog.underlying 30 with | some (.struct f) => f | _ => #[]) : Array Field).toList.map (fun f => (Try.prog.info? f.type).map fun i => (f.offset, i.size)) = [(0, 1), (1, 1)].map some := by kernel_rfl
theorem pl38 : ((match Try.prog.underlying 38 with | some (.struct f) => f | _ => #[]) : Array Field).toList.map (fun f => (Try.prog.info? f.type).map fun i => (f.offset, i.size)) = [(0, 1), (1, 1)].map some := by kernel_rfl
theorem pl40 : ((match Try.prog.underlying 40 with | some (.struct f) => f | _ => #[]) : Array Field).toList.map (fun f => (Try.prog.info? f.type).map fun i => (f.offset, i.size)) = [(0, 1), (1, 1), (2, 1), (3, 2), (5, 1), (6, 2), (8, 1), (9, 1), (10, 1), (11, 1), (12, 1), (13, 2)].map some := by kernel_rfl
theorem pl49 : ((match Try.prog.underlying 49 with | some (.struct f) => f | _ => #[]) : Array Field).toList.map (fun f => (Try.prog.info? f.type).map fun i => (f.offset, i.size)) = [(0, 1), (1, 1)].map some := by kernel_rfl
theorem pl54 : ((match Try.prog.underlying 54 with | some (.struct f) => f | _ => #[]) : Array Field).toList.map (fun f => (Try.prog.info? f.type).map fun i => (f.offset, i.size)) = [(0, 1), (1, 1), (2, 1), (3, 1), (4, 1)].map some := by kernel_rfl
theorem pl87 : ((match Try.prog.underlying 87 with | some (.struct f) => f | _ => #[]) : Array Field).toList.map (fun f => (Try.prog.info? f.type).map fun i => (f.offset, i.size)) = [(0, 1), (1, 1), (2, 1), (3, 1)].map some := by kernel_rfl
theorem pl94 : ((match Try.prog.underlying 94 with | some (.struct f) => f | _ => #[]) : Array Field).toList.map (fun f => (Try.prog.info? f.type).map fun i => (f.offset, i.size)) = [(0, 1), (1, 1)].map some := by kernel_rfl
theorem sl22 : SlT Try.prog 22 3 1 8 := SlT.mk' (z := (.int .i64 0)) (by kernel_rfl) (by kernel_rfl) rfl (by decide) (by decide)
theorem sl27 : SlT Try.prog 27 40 15 152 := SlT.mk' (z := (.agg #[.int .i64 0, .string ⟨#[]⟩, .string ⟨#[]⟩, .int .i64 0, .int .i64 0, .int .i64 0, .int .i64 0, .int .i64 0, .int .i64 0, .int .i64 0, .bool false, .int .i64 0, .slice none 0 0, .int .i64 0, .int .i64 0])) (by kernel_rfl) (by kernel_rfl) rfl (by decide) (by decide)
theorem sl36 : SlT Try.prog 36 9 1 16 := SlT.mk' (z := (.string ⟨#[]⟩)) (by kernel_rfl) (by kernel_rfl) rfl (by decide) (by decide)
theorem sl57 : SlT Try.prog 57 4 1 1 := SlT.mk' (z := (.bool false)) (by kernel_rfl) (by kernel_rfl) rfl (by decide) (by decide)
theorem sl70 : SlT Try.prog 70 5 1 1 := SlT.mk' (z := (.int .u8 0)) (by kernel_rfl) (by kernel_rfl) rfl (by decide) (by decide)
theorem sl85 : SlT Try.prog 85 87 4 64 := SlT.mk' (z := (.agg #[.int .i64 0, .slice none 0 0, .bool false, .slice none 0 0])) (by kernel_rfl) (by kernel_rfl) rfl (by decide) (by decide)
theorem sl95 : SlT Try.prog 95 94 2 24 := SlT.mk' (z := (.agg #[.string ⟨#[]⟩, .int .i64 0])) (by kernel_rfl) (by kernel_rfl) rfl (by decide) (by decide)
theorem ty112 : Ty Try.prog 112 true 5 := ⟨by kernel_rfl, by kernel_rfl⟩
theorem ty118 : Ty Try.prog 118 true 115 := ⟨by kernel_rfl, by kernel_rfl⟩
theorem ty122 : Ty Try.prog 122 true 2 := ⟨by kernel_rfl, by kernel_rfl⟩
theorem ty22 : Ty Try.prog 22 false 1 := ⟨by kernel_rfl, by kernel_rfl⟩
theorem ty27 : Ty Try.prog 27 false 1 := ⟨by kernel_rfl, by kernel_rfl⟩
theorem ty3 : Ty Try.prog 3 false 1 := ⟨by kernel_rfl, by kernel_rfl⟩
theorem ty30 : Ty Try.prog 30 true 2 := ⟨by kernel_rfl, by kernel_rfl⟩
theorem ty33 : Ty Try.prog 33 false 1 := ⟨by kernel_rfl, by kernel_rfl⟩
theorem ty36 : Ty Try.prog 36 false 1 := ⟨by kernel_rfl, by kernel_rfl⟩
theorem ty38 : Ty Try.prog 38 true 2 := ⟨by kernel_rfl, by kernel_rfl⟩
theorem ty4 : Ty Try.prog 4 false 1 := ⟨by kernel_rfl, by kernel_rfl⟩
theorem ty40 : Ty Try.prog 40 true 15 := ⟨by kernel_rfl, by kernel_rfl⟩
theorem ty5 : Ty Try.prog 5 false 1 := ⟨by kernel_rfl, by kernel_rfl⟩
theorem ty54 : Ty Try.prog 54 true 5 := ⟨by kernel_rfl, by kernel_rfl⟩
theorem ty70 : Ty Try.prog 70 false 1 := ⟨by kernel_rfl, by kernel_rfl⟩
theorem ty85 : Ty Try.prog 85 false 1 := ⟨by kernel_rfl, by kernel_rfl⟩
theorem ty87 : Ty Try.prog 87 true 4 := ⟨by kernel_rfl, by kernel_rfl⟩
theorem ty9 : Ty Try.prog 9 false 1 := ⟨by kernel_rfl, by kernel_rfl⟩
theorem z112 : Zt Try.prog 112 [.string ⟨#[]⟩, .int .i64 0, .int .i64 0, .slice none 0 0, .slice none 0 0] := ⟨(.agg #[.string ⟨#[]⟩, .int .i64 0, .int .i64 0, .slice none 0 0, .slice none 0 0]), by kernel_rfl, rfl, by decide⟩
theorem z118 : Zt Try.prog 118 [.string ⟨#[]⟩, .int .i64 0, .int .i64 0, .slice none 0 0, .slice none 0 0, .string ⟨#[]⟩, .int .i64 0, .int .i64 0, .slice none 0 0, .slice none 0 0, .string ⟨#[]⟩, .int .i64 0, .int .i64 0, .slice none 0 0, .slice none 0 0, .string ⟨#[]⟩, .int .i64 0, .int .i64 0, .slice none 0 0, .slice none 0 0, .string ⟨#[]⟩, .int .i64 0, .int .i64 0, .slice none 0 0, .slice none 0 0, .string ⟨#[]⟩, .int .i64 0, .int .i64 0, .slice none 0 0, .slice none 0 0, .string ⟨#[]⟩, .int .i64 0, .int .i64 0, .slice none 0 0, .slice none 0 0, .string ⟨#[]⟩, .int .i64 0, .int .i64 0, .slice none 0 0, .slice none 0 0, .string ⟨#[]⟩, .int .i64 0, .int .i64 0, .slice none 0 0, .slice none 0 0, .string ⟨#[]⟩, .int .i64 0, .int .i64 0, .slice none 0 0, .slice none 0 0, .string ⟨#[]⟩, .int .i64 0, .int .i64 0, .slice none 0 0, .slice none 0 0, .string ⟨#[]⟩, .int .i64 0, .int .i64 0, .slice none 0 0, .slice none 0 0, .string ⟨#[]⟩, .int .i64 0, .int .i64 0, .slice none 0 0, .slice none 0 0, .string ⟨#[]⟩, .int .i64 0, .int .i64 0, .slice none 0 0, .slice none 0 0, .string ⟨#[]⟩, .int .i64 0, .int .i64 0, .slice none 0 0, .slice none 0 0, .string ⟨#[]⟩, .int .i64 0, .int .i64 0, .slice none 0 0, .slice none 0 0, .string ⟨#[]⟩, .int .i64 0, .int .i64 0, .slice none 0 0, .slice none 0 0, .string ⟨#[]⟩, .int .i64 0, .int .i64 0, .slice none 0 0, .slice none 0 0, .string ⟨#[]⟩, .int .i64 0, .int .i64 0, .slice none 0 0, .slice none 0 0, .string ⟨#[]⟩, .int .i64 0, .int .i64 0, .slice none 0 0, .slice none 0 0, .string ⟨#[]⟩, .int .i64 0, .int .i64 0, .slice none 0 0, .slice none 0 0, .string ⟨#[]⟩, .int .i64 0, .int .i64 0, .slice none 0 0, .slice none 0 0, .string ⟨#[]⟩, .int .i64 0, .int .i64 0, .slice none 0 0, .slice none 0 0] := ⟨(.agg #[.string ⟨#[]⟩, .int .i64 0, .int .i64 0, .slice none 0 0, .slice none 0 0, .string ⟨#[]⟩, .int .i64 0, .int .i64 0, .slice none 0 0, .slice none 0 0, .string ⟨#[]⟩, .int .i64 0, .int .i64 0, .slice none 0 0, .slice none 0 0, .string ⟨#[]⟩, .int .i64 0, .int .i64 0, .slice none 0 0, .slice none 0 0, .string ⟨#[]⟩, .int .i64 0, .int .i64 0, .slice none 0 0, .slice none 0 0, .string ⟨#[]⟩, .int .i64 0, .int .i64 0, .slice none 0 0, .slice none 0 0, .string ⟨#[]⟩, .int .i64 0, .int .i64 0, .slice none 0 0, .slice none 0 0, .string ⟨#[]⟩, .int .i64 0, .int .i64 0, .slice none 0 0, .slice none 0 0, .string ⟨#[]⟩, .int .i64 0, .int .i64 0, .slice none 0 0, .slice none 0 0, .string ⟨#[]⟩, .int .i64 0, .int .i64 0, .slice none 0 0, .slice none 0 0, .string ⟨#[]⟩, .int .i64 0, .int .i64 0, .slice none 0 0, .slice none 0 0, .string ⟨#[]⟩, .int .i64 0, .int .i64 0, .slice none 0 0, .slice none 0 0, .string ⟨#[]⟩, .int .i64 0, .int .i64 0, .slice none 0 0, .slice none 0 0, .string ⟨#[]⟩, .int .i64 0, .int .i64 0, .slice none 0 0, .slice none 0 0, .string ⟨#[]⟩, .int .i64 0, .int .i64 0, .slice none 0 0, .slice none 0 0, .string ⟨#[]⟩, .int .i64 0, .int .i64 0, .slice none 0 0, .slice none 0 0, .string ⟨#[]⟩, .int .i64 0, .int .i64 0, .slice none 0 0, .slice none 0 0, .string ⟨#[]⟩, .int .i64 0, .int .i64 0, .slice none 0 0, .slice none 0 0, .string ⟨#[]⟩, .int .i64 0, .int .i64 0, .slice none 0 0, .slice none 0 0, .string ⟨#[]⟩, .int .i64 0, .int .i64 0, .slice none 0 0, .slice none 0 0, .string ⟨#[]⟩, .int .i64 0, .int .i64 0, .slice none 0 0, .slice none 0 0, .string ⟨#[]⟩, .int .i64 0, .int .i64 0, .slice none 0 0, .slice none 0 0, .string ⟨#[]⟩, .int .i64 0, .int .i64 0, .slice none 0 0, .slice none 0 0]), by kernel_rfl, rfl, by decide⟩
theorem z122 : Zt Try.prog 122 [.int .i64 0, .int .i64 0] := ⟨(.agg #[.int .i64 0, .int .i64 0]), by kernel_rfl, rfl, by decide⟩
theorem z123 : Zt Try.prog 123 [.int .i64 0, .int .i64 0, .int .i64 0, .int .i64 0, .int .i64 0, .int .i64 0, .int .i64 0, .int .i64 0, .int .i64 0, .int .i64 0] := ⟨(.agg #[.int .i64 0, .int .i64 0, .int .i64 0, .int .i64 0, .int .i64 0, .int .i64 0, .int .i64 0, .int .i64 0, .int .i64 0, .int .i64 0]), by kernel_rfl, rfl, by decide⟩
theorem z3 : Zt Try.prog 3 [.int .i64 0] := ⟨(.int .i64 0), by kernel_rfl, rfl, by decide⟩
theorem z30 : Zt Try.prog 30 [.int .i64 0, .int .i64 0] := ⟨(.agg #[.int .i64 0, .int .i64 0]), by kernel_rfl, rfl, by decide⟩
theorem z33 : Zt Try.prog 33 [.int .i64 0] := ⟨(.int .i64 0), by kernel_rfl, rfl, by decide⟩
theorem z38 : Zt Try.prog 38 [.int .i64 0, .int .i64 0] := ⟨(.agg #[.int .i64 0, .int .i64 0]), by kernel_rfl, rfl, by decide⟩
theorem z4 : Zt Try.prog 4 [.bool false] := ⟨(.bool false), by kernel_rfl, rfl, by decide⟩
theorem z40 : Zt Try.prog 40 [.int .i64 0, .string ⟨#[]⟩, .string ⟨#[]⟩, .int .i64 0, .int .i64 0, .int .i64 0, .int .i64 0, .int .i64 0, .int .i64 0, .int .i64 0, .bool false, .int .i64 0, .slice none 0 0, .int .i64 0, .int .i64 0] := ⟨(.agg #[.int .i64 0, .string ⟨#[]⟩, .string ⟨#[]⟩, .int .i64 0, .int .i64 0, .int .i64 0, .int .i64 0, .int .i64 0, .int .i64 0, .int .i64 0, .bool false, .int .i64 0, .slice none 0 0, .int .i64 0, .int .i64 0]), by kernel_rfl, rfl, by decide⟩
theorem z49 : Zt Try.prog 49 [.slice none 0 0, .int .i64 0] := ⟨(.agg #[.slice none 0 0, .int .i64 0]), by kernel_rfl, rfl, by decide⟩
theorem z5 : Zt Try.prog 5 [.int .u8 0] := ⟨(.int .u8 0), by kernel_rfl, rfl, by decide⟩
theorem z54 : Zt Try.prog 54 [.slice none 0 0, .slice none 0 0, .slice none 0 0, .int .i64 0, .string ⟨#[]⟩] := ⟨(.agg #[.slice none 0 0, .slice none 0 0, .slice none 0 0, .int .i64 0, .string ⟨#[]⟩]), by kernel_rfl, rfl, by decide⟩
theorem z63 : Zt Try.prog 63 [.int .i64 0, .int .i64 0] := ⟨(.agg #[.int .i64 0, .int .i64 0]), by kernel_rfl, rfl, by decide⟩
theorem z65 : Zt Try.prog 65 [.int .i64 0, .int .i64 0, .int .i64 0] := ⟨(.agg #[.int .i64 0, .int .i64 0, .int .i64 0]), by kernel_rfl, rfl, by decide⟩
theorem z87 : Zt Try.prog 87 [.int .i64 0, .slice none 0 0, .bool false, .slice none 0 0] := ⟨(.agg #[.int .i64 0, .slice none 0 0, .bool false, .slice none 0 0]), by kernel_rfl, rfl, by decide⟩
theorem z9 : Zt Try.prog 9 [.string ⟨#[]⟩] := ⟨(.string ⟨#[]⟩), by kernel_rfl, rfl, by decide⟩
theorem z94 : Zt Try.prog 94 [.string ⟨#[]⟩, .int .i64 0] := ⟨(.agg #[.string ⟨#[]⟩, .int .i64 0]), by kernel_rfl, rfl, by decide⟩
theorem ck3 : cellK Try.prog 20 3 = [none] := by kernel_rfl
theorem ck4 : cellK Try.prog 20 4 = [none] := by kernel_rfl
theorem ck40 : cellK Try.prog 20 40 = [none, none, none, none, none, none, none, none, none, none, none, none, some 1, none, none] := by kernel_rfl
theorem ck5 : cellK Try.prog 20 5 = [none] := by kernel_rfl
theorem ck87 : cellK Try.prog 20 87 = [none, some 1, none, some 4] := by kernel_rfl
theorem ck9 : cellK Try.prog 20 9 = [none] := by kernel_rfl
theorem ck94 : cellK Try.prog 20 94 = [none, none] := by kernel_rfl
theorem eg30 : Try.prog.eqGuardType Try.prog.depth 30 = false := by kernel_rfl
theorem sf30 : Try.prog.underlying 30 = some (.struct (Try.prog.fieldsOf 30)) := by kernel_rfl
theorem sh30 : Try.prog.stoodInHeld 30 = false := by kernel_rfl
theorem se30 (x y : api_Use) (w : World) : (Op.equalIn 10000 30 (.agg #[.int .i64 x.Alg, .int .i64 x.Bits]) (.agg #[.int .i64 y.Alg, .int .i64 y.Bits])).run Try.prog w = .ok (decide (x = y)) w := by
 have u3 := Try.underlying3
 have a3 := Try.isAgg3
 have z3 := Try.sizeOf3
 rw [show (10000 : Nat) = 9999 + 1 from rfl, run_equalIn_agg w 9999 30 _ _ sf30 sh30]
 simp only [Program.fieldsOf, Try.underlying30]
 go_simp
 rcases x with ⟨x0, x1⟩
 rcases y with ⟨y0, y1⟩
 by_cases h0 : x0 = y0 <;> by_cases h1 : x1 = y1 <;> simp [h0, h1]
theorem steq30_eql (x y : api_Use) {X Y : Operand} {tk : Nat} {yt ty : TypeId} {b1 b2 : Option LB} : OpR Try.prog tk (.binOp .eql 30 X Y yt) ty [(.agg [.val (.int .i64 x.Alg), .val (.int .i64 x.Bits)], b1), (.agg [.val (.int .i64 y.Alg), .val (.int .i64 y.Bits)], b2)] [] (v0 (.val (.bool (decide (x = y))))) :=
 .binOpA rfl rfl (fun _ _ => rfl) (fun w => by
  rw [Sem.run_bind, run_eqGuard_agg w _ 30 X Y _ _ eg30]
  simp only [Result.andThen_ok, run_eql_struct]
  exact congrArg (fun r => Result.andThen r _) (se30 x y w))
theorem eg38 : Try.prog.eqGuardType Try.prog.depth 38 = false := by kernel_rfl
theorem sf38 : Try.prog.underlying 38 = some (.struct (Try.prog.fieldsOf 38)) := by kernel_rfl
theorem sh38 : Try.prog.stoodInHeld 38 = false := by kernel_rfl
theorem se38 (x y : api_Seal) (w : World) : (Op.equalIn 10000 38 (.agg #[.int .i64 x.Key, .int .i64 x.Sum]) (.agg #[.int .i64 y.Key, .int .i64 y.Sum])).run Try.prog w = .ok (decide (x = y)) w := by
 have u3 := Try.underlying3
 have a3 := Try.isAgg3
 have z3 := Try.sizeOf3
 rw [show (10000 : Nat) = 9999 + 1 from rfl, run_equalIn_agg w 9999 38 _ _ sf38 sh38]
 simp only [Program.fieldsOf, Try.underlying38]
 go_simp
 rcases x with ⟨x0, x1⟩
 rcases y with ⟨y0, y1⟩
 by_cases h0 : x0 = y0 <;> by_cases h1 : x1 = y1 <;> simp [h0, h1]
theorem steq38_eql (x y : api_Seal) {X Y : Operand} {tk : Nat} {yt ty : TypeId} {b1 b2 : Option LB} : OpR Try.prog tk (.binOp .eql 38 X Y yt) ty [(.agg [.val (.int .i64 x.Key), .val (.int .i64 x.Sum)], b1), (.agg [.val (.int .i64 y.Key), .val (.int .i64 y.Sum)], b2)] [] (v0 (.val (.bool (decide (x = y))))) :=
 .binOpA rfl rfl (fun _ _ => rfl) (fun w => by
  rw [Sem.run_bind, run_eqGuard_agg w _ 38 X Y _ _ eg38]
  simp only [Result.andThen_ok, run_eql_struct]
  exact congrArg (fun r => Result.andThen r _) (se38 x y w))
instance : FdC Try.prog 112 1 1 3 := ⟨fd112_1⟩
instance : FdC Try.prog 112 2 2 3 := ⟨fd112_2⟩
instance : FdC Try.prog 112 3 3 22 := ⟨fd112_3⟩
instance : FdC Try.prog 112 4 4 22 := ⟨fd112_4⟩
instance : FdC Try.prog 30 0 0 3 := ⟨fd30_0⟩
instance : FdC Try.prog 30 1 1 3 := ⟨fd30_1⟩
instance : FdC Try.prog 38 0 0 3 := ⟨fd38_0⟩
instance : FdC Try.prog 38 1 1 3 := ⟨fd38_1⟩
instance : FdC Try.prog 40 0 0 3 := ⟨fd40_0⟩
instance : FdC Try.prog 40 1 1 9 := ⟨fd40_1⟩
instance : FdC Try.prog 40 10 12 36 := ⟨fd40_10⟩
instance : FdC Try.prog 40 11 13 38 := ⟨fd40_11⟩
instance : FdC Try.prog 40 2 2 9 := ⟨fd40_2⟩
instance : FdC Try.prog 40 3 3 30 := ⟨fd40_3⟩
instance : FdC Try.prog 40 4 5 3 := ⟨fd40_4⟩
instance : FdC Try.prog 40 5 6 30 := ⟨fd40_5⟩
instance : FdC Try.prog 40 6 8 3 := ⟨fd40_6⟩
instance : FdC Try.prog 40 7 9 3 := ⟨fd40_7⟩
instance : FdC Try.prog 40 8 10 4 := ⟨fd40_8⟩
instance : FdC Try.prog 40 9 11 3 := ⟨fd40_9⟩
instance : FdC Try.prog 49 0 0 22 := ⟨fd49_0⟩
instance : FdC Try.prog 49 1 1 3 := ⟨fd49_1⟩
instance : FdC Try.prog 54 0 0 27 := ⟨fd54_0⟩
instance : FdC Try.prog 54 1 1 22 := ⟨fd54_1⟩
instance : FdC Try.prog 54 2 2 22 := ⟨fd54_2⟩
instance : FdC Try.prog 54 3 3 3 := ⟨fd54_3⟩
instance : FdC Try.prog 54 4 4 9 := ⟨fd54_4⟩
instance : FdC Try.prog 87 0 0 3 := ⟨fd87_0⟩
instance : FdC Try.prog 87 1 1 70 := ⟨fd87_1⟩
instance : FdC Try.prog 87 2 2 4 := ⟨fd87_2⟩
instance : FdC Try.prog 87 3 3 85 := ⟨fd87_3⟩
instance : FdC Try.prog 94 1 1 3 := ⟨fd94_1⟩
instance : SlC Try.prog 22 3 1 8 := ⟨sl22⟩
instance : SlC Try.prog 27 40 15 152 := ⟨sl27⟩
instance : SlC Try.prog 36 9 1 16 := ⟨sl36⟩
instance : SlC Try.prog 57 4 1 1 := ⟨sl57⟩
instance : SlC Try.prog 70 5 1 1 := ⟨sl70⟩
instance : SlC Try.prog 85 87 4 64 := ⟨sl85⟩
instance : SlC Try.prog 95 94 2 24 := ⟨sl95⟩
instance : TyC Try.prog 112 true 5 := ⟨ty112⟩
instance : TyC Try.prog 118 true 115 := ⟨ty118⟩
instance : TyC Try.prog 122 true 2 := ⟨ty122⟩
instance : TyC Try.prog 22 false 1 := ⟨ty22⟩
instance : TyC Try.prog 27 false 1 := ⟨ty27⟩
instance : TyC Try.prog 3 false 1 := ⟨ty3⟩
instance : TyC Try.prog 30 true 2 := ⟨ty30⟩
instance : TyC Try.prog 33 false 1 := ⟨ty33⟩
instance : TyC Try.prog 36 false 1 := ⟨ty36⟩
instance : TyC Try.prog 38 true 2 := ⟨ty38⟩
instance : TyC Try.prog 4 false 1 := ⟨ty4⟩
instance : TyC Try.prog 40 true 15 := ⟨ty40⟩
instance : TyC Try.prog 5 false 1 := ⟨ty5⟩
instance : TyC Try.prog 54 true 5 := ⟨ty54⟩
instance : TyC Try.prog 70 false 1 := ⟨ty70⟩
instance : TyC Try.prog 85 false 1 := ⟨ty85⟩
instance : TyC Try.prog 87 true 4 := ⟨ty87⟩
instance : TyC Try.prog 9 false 1 := ⟨ty9⟩
instance : ZtC Try.prog 112 [.string ⟨#[]⟩, .int .i64 0, .int .i64 0, .slice none 0 0, .slice none 0 0] := ⟨z112⟩
instance : ZtC Try.prog 118 [.string ⟨#[]⟩, .int .i64 0, .int .i64 0, .slice none 0 0, .slice none 0 0, .string ⟨#[]⟩, .int .i64 0, .int .i64 0, .slice none 0 0, .slice none 0 0, .string ⟨#[]⟩, .int .i64 0, .int .i64 0, .slice none 0 0, .slice none 0 0, .string ⟨#[]⟩, .int .i64 0, .int .i64 0, .slice none 0 0, .slice none 0 0, .string ⟨#[]⟩, .int .i64 0, .int .i64 0, .slice none 0 0, .slice none 0 0, .string ⟨#[]⟩, .int .i64 0, .int .i64 0, .slice none 0 0, .slice none 0 0, .string ⟨#[]⟩, .int .i64 0, .int .i64 0, .slice none 0 0, .slice none 0 0, .string ⟨#[]⟩, .int .i64 0, .int .i64 0, .slice none 0 0, .slice none 0 0, .string ⟨#[]⟩, .int .i64 0, .int .i64 0, .slice none 0 0, .slice none 0 0, .string ⟨#[]⟩, .int .i64 0, .int .i64 0, .slice none 0 0, .slice none 0 0, .string ⟨#[]⟩, .int .i64 0, .int .i64 0, .slice none 0 0, .slice none 0 0, .string ⟨#[]⟩, .int .i64 0, .int .i64 0, .slice none 0 0, .slice none 0 0, .string ⟨#[]⟩, .int .i64 0, .int .i64 0, .slice none 0 0, .slice none 0 0, .string ⟨#[]⟩, .int .i64 0, .int .i64 0, .slice none 0 0, .slice none 0 0, .string ⟨#[]⟩, .int .i64 0, .int .i64 0, .slice none 0 0, .slice none 0 0, .string ⟨#[]⟩, .int .i64 0, .int .i64 0, .slice none 0 0, .slice none 0 0, .string ⟨#[]⟩, .int .i64 0, .int .i64 0, .slice none 0 0, .slice none 0 0, .string ⟨#[]⟩, .int .i64 0, .int .i64 0, .slice none 0 0, .slice none 0 0, .string ⟨#[]⟩, .int .i64 0, .int .i64 0, .slice none 0 0, .slice none 0 0, .string ⟨#[]⟩, .int .i64 0, .int .i64 0, .slice none 0 0, .slice none 0 0, .string ⟨#[]⟩, .int .i64 0, .int .i64 0, .slice none 0 0, .slice none 0 0, .string ⟨#[]⟩, .int .i64 0, .int .i64 0, .slice none 0 0, .slice none 0 0, .string ⟨#[]⟩, .int .i64 0, .int .i64 0, .slice none 0 0, .slice none 0 0] := ⟨z118⟩
instance : ZtC Try.prog 122 [.int .i64 0, .int .i64 0] := ⟨z122⟩
instance : ZtC Try.prog 123 [.int .i64 0, .int .i64 0, .int .i64 0, .int .i64 0, .int .i64 0, .int .i64 0, .int .i64 0, .int .i64 0, .int .i64 0, .int .i64 0] := ⟨z123⟩
instance : ZtC Try.prog 3 [.int .i64 0] := ⟨z3⟩
instance : ZtC Try.prog 30 [.int .i64 0, .int .i64 0] := ⟨z30⟩
instance : ZtC Try.prog 33 [.int .i64 0] := ⟨z33⟩
instance : ZtC Try.prog 38 [.int .i64 0, .int .i64 0] := ⟨z38⟩
instance : ZtC Try.prog 4 [.bool false] := ⟨z4⟩
instance : ZtC Try.prog 40 [.int .i64 0, .string ⟨#[]⟩, .string ⟨#[]⟩, .int .i64 0, .int .i64 0, .int .i64 0, .int .i64 0, .int .i64 0, .int .i64 0, .int .i64 0, .bool false, .int .i64 0, .slice none 0 0, .int .i64 0, .int .i64 0] := ⟨z40⟩
instance : ZtC Try.prog 49 [.slice none 0 0, .int .i64 0] := ⟨z49⟩
instance : ZtC Try.prog 5 [.int .u8 0] := ⟨z5⟩
instance : ZtC Try.prog 54 [.slice none 0 0, .slice none 0 0, .slice none 0 0, .int .i64 0, .string ⟨#[]⟩] := ⟨z54⟩
instance : ZtC Try.prog 63 [.int .i64 0, .int .i64 0] := ⟨z63⟩
instance : ZtC Try.prog 65 [.int .i64 0, .int .i64 0, .int .i64 0] := ⟨z65⟩
instance : ZtC Try.prog 87 [.int .i64 0, .slice none 0 0, .bool false, .slice none 0 0] := ⟨z87⟩
instance : ZtC Try.prog 9 [.string ⟨#[]⟩] := ⟨z9⟩
instance : ZtC Try.prog 94 [.string ⟨#[]⟩, .int .i64 0] := ⟨z94⟩
instance : ElC cipherplanmake_Dice.enc 2 := ⟨cipherplanmake_Dice.enc_len⟩
instance : ElC api_Use.enc 2 := ⟨api_Use.enc_len⟩
instance : ElC api_Seal.enc 2 := ⟨api_Seal.enc_len⟩
instance : ElC api_Certificate.enc 15 := ⟨api_Certificate.enc_len⟩
instance : ElC cipherplanref02_row.enc 2 := ⟨cipherplanref02_row.enc_len⟩
instance : ElC api_Value.enc 4 := ⟨api_Value.enc_len⟩
instance : ElC catalog_row.enc 5 := ⟨catalog_row.enc_len⟩
instance : ElC chain_search.enc 5 := ⟨chain_search.enc_len⟩
end Go.Proofs.Ytggimglopfdhiaa
