/- Encodings; what is known of types. -/
import Derived.Test.YtoekocjflclojaaGreatEF
import Derived.Test.YtoekocjflclojaaGreatP1
import Derived.Test.YtoekocjflclojaaGreatProg
set_option linter.unusedVariables false
set_option linter.unusedSimpArgs false
set_option maxRecDepth 100000
set_option maxHeartbeats 1600000
namespace Go.Proofs.YtoekocjflclojaaGreat
open Go.RowKit
abbrev cipherplanmake_Dice.dv (x : cipherplanmake_Dice) : List DV := [.sl 1 (encL eI x.L), .val (.int .i64 x.At)]
def cipherplanmake_Dice.enc (x : cipherplanmake_Dice) : List C := [.sl 1 (encL eI x.L), .int .i64 x.At]
theorem cipherplanmake_Dice.enc_len (x : cipherplanmake_Dice) : (cipherplanmake_Dice.enc x).length = 2 := rfl
abbrev api_Use.dv (x : api_Use) : List DV := [.val (.int .i64 x.Alg), .val (.int .i64 x.Bits)]
def api_Use.enc (x : api_Use) : List C := [.int .i64 x.Alg, .int .i64 x.Bits]
theorem api_Use.enc_len (x : api_Use) : (api_Use.enc x).length = 2 := rfl
abbrev api_Seal.dv (x : api_Seal) : List DV := [.val (.int .i64 x.Key), .val (.int .i64 x.Sum)]
def api_Seal.enc (x : api_Seal) : List C := [.int .i64 x.Key, .int .i64 x.Sum]
theorem api_Seal.enc_len (x : api_Seal) : (api_Seal.enc x).length = 2 := rfl
abbrev api_Certificate.dv (x : api_Certificate) : List DV := [.val (.int .i64 x.Serial), .val (.string x.Issuer), .val (.string x.Subject), .val (.int .i64 x.Key.Alg), .val (.int .i64 x.Key.Bits), .val (.int .i64 x.KeyId), .val (.int .i64 x.Hash.Alg), .val (.int .i64 x.Hash.Bits), .val (.int .i64 x.From), .val (.int .i64 x.To), .val (.bool x.Authority), .val (.int .i64 x.Path), .sl 1 (encL eS x.Names), .val (.int .i64 x.Seal.Key), .val (.int .i64 x.Seal.Sum)]
def api_Certificate.enc (x : api_Certificate) : List C := [.int .i64 x.Serial, .str x.Issuer, .str x.Subject, .int .i64 x.Key.Alg, .int .i64 x.Key.Bits, .int .i64 x.KeyId, .int .i64 x.Hash.Alg, .int .i64 x.Hash.Bits, .int .i64 x.From, .int .i64 x.To, .bool x.Authority, .int .i64 x.Path, .sl 1 (encL eS x.Names), .int .i64 x.Seal.Key, .int .i64 x.Seal.Sum]
theorem api_Certificate.enc_len (x : api_Certificate) : (api_Certificate.enc x).length = 15 := rfl
abbrev api_Identity.dv (x : api_Identity) : List DV := [.val (.int .i64 x.Key.Alg), .val (.int .i64 x.Key.Bits), .val (.int .i64 x.KeyId), .sl 15 (encL api_Certificate.enc x.Chain)]
def api_Identity.enc (x : api_Identity) : List C := [.int .i64 x.Key.Alg, .int .i64 x.Key.Bits, .int .i64 x.KeyId, .sl 15 (encL api_Certificate.enc x.Chain)]
theorem api_Identity.enc_len (x : api_Identity) : (api_Identity.enc x).length = 4 := rfl
abbrev api_Endpoint.dv (x : api_Endpoint) : List DV := [.val (.string x.Name), .val (.int .i64 x.Least), .val (.int .i64 x.Most), .sl 1 (encL eI x.Suites), .val (.bool x.OwnOrder), .sl 4 (encL api_Identity.enc x.Identities), .sl 1 (encL eI x.Anchors), .sl 1 (encL eI x.Hashes), .val (.bool x.Fallback)]
def api_Endpoint.enc (x : api_Endpoint) : List C := [.str x.Name, .int .i64 x.Least, .int .i64 x.Most, .sl 1 (encL eI x.Suites), .bool x.OwnOrder, .sl 4 (encL api_Identity.enc x.Identities), .sl 1 (encL eI x.Anchors), .sl 1 (encL eI x.Hashes), .bool x.Fallback]
theorem api_Endpoint.enc_len (x : api_Endpoint) : (api_Endpoint.enc x).length = 9 := rfl
abbrev api_Edge.dv (x : api_Edge) : List DV := [.val (.int .i64 x.Client), .val (.int .i64 x.Server)]
def api_Edge.enc (x : api_Edge) : List C := [.int .i64 x.Client, .int .i64 x.Server]
theorem api_Edge.enc_len (x : api_Edge) : (api_Edge.enc x).length = 2 := rfl
abbrev api_Link.dv (x : api_Link) : List DV := [.val (.int .i64 x.Use.Alg), .val (.int .i64 x.Use.Bits), .val (.int .i64 x.Day)]
def api_Link.enc (x : api_Link) : List C := [.int .i64 x.Use.Alg, .int .i64 x.Use.Bits, .int .i64 x.Day]
theorem api_Link.enc_len (x : api_Link) : (api_Link.enc x).length = 3 := rfl
abbrev api_Item.dv (x : api_Item) : List DV := [.val (.string x.Name), .val (.int .i64 x.Kind), .val (.int .i64 x.Purpose), .sl 3 (encL api_Link.enc x.Links), .val (.int .i64 x.Until)]
def api_Item.enc (x : api_Item) : List C := [.str x.Name, .int .i64 x.Kind, .int .i64 x.Purpose, .sl 3 (encL api_Link.enc x.Links), .int .i64 x.Until]
theorem api_Item.enc_len (x : api_Item) : (api_Item.enc x).length = 5 := rfl
abbrev api_Estate.dv (x : api_Estate) : List DV := [.sl 9 (encL api_Endpoint.enc x.Endpoints), .sl 2 (encL api_Edge.enc x.Edges), .sl 5 (encL api_Item.enc x.Items)]
def api_Estate.enc (x : api_Estate) : List C := [.sl 9 (encL api_Endpoint.enc x.Endpoints), .sl 2 (encL api_Edge.enc x.Edges), .sl 5 (encL api_Item.enc x.Items)]
theorem api_Estate.enc_len (x : api_Estate) : (api_Estate.enc x).length = 3 := rfl
abbrev api_Finding.dv (x : api_Finding) : List DV := [.val (.int .i64 x.Source), .val (.string x.Host), .val (.int .i64 x.Machine), .val (.int .i64 x.Day), .val (.int .i64 x.Confidence), .val (.int .i64 x.Kind), .val (.string x.Subject), .val (.int .i64 x.Use.Alg), .val (.int .i64 x.Use.Bits), .val (.int .i64 x.Number), .val (.string x.Text)]
def api_Finding.enc (x : api_Finding) : List C := [.int .i64 x.Source, .str x.Host, .int .i64 x.Machine, .int .i64 x.Day, .int .i64 x.Confidence, .int .i64 x.Kind, .str x.Subject, .int .i64 x.Use.Alg, .int .i64 x.Use.Bits, .int .i64 x.Number, .str x.Text]
theorem api_Finding.enc_len (x : api_Finding) : (api_Finding.enc x).length = 11 := rfl
abbrev cipherplanref02_row.dv (x : cipherplanref02_row) : List DV := [.val (.string x.name), .val (.int .i64 x.kind)]
def cipherplanref02_row.enc (x : cipherplanref02_row) : List C := [.str x.name, .int .i64 x.kind]
theorem cipherplanref02_row.enc_len (x : cipherplanref02_row) : (cipherplanref02_row.enc x).length = 2 := rfl
mutual
def api_Value.enc : api_Value → List C
 | ⟨Tag, Bytes, Nested, Elements⟩ => [.int .i64 Tag, .sl 1 (encL e8 Bytes), .bool Nested, .sl 4 (api_Value.encs Elements)]
def api_Value.encs : List api_Value → List C
 | [] => []
 | x :: l => api_Value.enc x ++ api_Value.encs l
end
theorem api_Value.encs_eq : ∀ (l : List api_Value), api_Value.encs l = encL api_Value.enc l
 | [] => rfl
 | x :: l => by
  show api_Value.enc x ++ api_Value.encs l = api_Value.enc x ++ encL api_Value.enc l
  rw [api_Value.encs_eq l]
theorem api_Value.enc_eq (x : api_Value) : api_Value.enc x = [.int .i64 x.Tag, .sl 1 (encL e8 x.Bytes), .bool x.Nested, .sl 4 (encL api_Value.enc x.Elements)] := by
 cases x
 simp only [api_Value.enc, api_Value.encs_eq]
theorem api_Value.enc_len (x : api_Value) : (api_Value.enc x).length = 4 := by rw [api_Value.enc_eq]; rfl
abbrev api_Value.dv (x : api_Value) : List DV := [.val (.int .i64 x.Tag), .sl 1 (encL e8 x.Bytes), .val (.bool x.Nested), .sl 4 (encL api_Value.enc x.Elements)]
abbrev api_Suite.dv (x : api_Suite) : List DV := [.val (.int .i64 x.Code), .val (.string x.Name), .val (.int .i64 x.Exchange.Alg), .val (.int .i64 x.Exchange.Bits), .val (.int .i64 x.Sign.Alg), .val (.int .i64 x.Sign.Bits), .val (.int .i64 x.Cipher.Alg), .val (.int .i64 x.Cipher.Bits), .val (.int .i64 x.Mac.Alg), .val (.int .i64 x.Mac.Bits), .val (.int .i64 x.Least), .val (.int .i64 x.Most)]
def api_Suite.enc (x : api_Suite) : List C := [.int .i64 x.Code, .str x.Name, .int .i64 x.Exchange.Alg, .int .i64 x.Exchange.Bits, .int .i64 x.Sign.Alg, .int .i64 x.Sign.Bits, .int .i64 x.Cipher.Alg, .int .i64 x.Cipher.Bits, .int .i64 x.Mac.Alg, .int .i64 x.Mac.Bits, .int .i64 x.Least, .int .i64 x.Most]
theorem api_Suite.enc_len (x : api_Suite) : (api_Suite.enc x).length = 12 := rfl
abbrev catalog_row.dv (x : catalog_row) : List DV := [.val (.string x.name), .val (.int .i64 x.kind), .val (.int .i64 x.way), .sl 1 (encL eI x.sizes), .sl 1 (encL eI x.strengths)]
def catalog_row.enc (x : catalog_row) : List C := [.str x.name, .int .i64 x.kind, .int .i64 x.way, .sl 1 (encL eI x.sizes), .sl 1 (encL eI x.strengths)]
theorem catalog_row.enc_len (x : catalog_row) : (catalog_row.enc x).length = 5 := rfl
theorem und3 : Tryz.prog.underlying 3 = some (.int .i64) := by kernel_rfl
theorem und4 : Tryz.prog.underlying 4 = some (.bool) := by kernel_rfl
theorem und5 : Tryz.prog.underlying 5 = some (.int .u8) := by kernel_rfl
theorem und9 : Tryz.prog.underlying 9 = some (.string) := by kernel_rfl
theorem und31 : Tryz.prog.underlying 31 = some (.struct ((match Tryz.prog.underlying 31 with | some (.struct f) => f | _ => #[]))) := by kernel_rfl
theorem und37 : Tryz.prog.underlying 37 = some (.struct ((match Tryz.prog.underlying 37 with | some (.struct f) => f | _ => #[]))) := by kernel_rfl
theorem und42 : Tryz.prog.underlying 42 = some (.struct ((match Tryz.prog.underlying 42 with | some (.struct f) => f | _ => #[]))) := by kernel_rfl
theorem und44 : Tryz.prog.underlying 44 = some (.struct ((match Tryz.prog.underlying 44 with | some (.struct f) => f | _ => #[]))) := by kernel_rfl
theorem und50 : Tryz.prog.underlying 50 = some (.struct ((match Tryz.prog.underlying 50 with | some (.struct f) => f | _ => #[]))) := by kernel_rfl
theorem und58 : Tryz.prog.underlying 58 = some (.struct ((match Tryz.prog.underlying 58 with | some (.struct f) => f | _ => #[]))) := by kernel_rfl
theorem und62 : Tryz.prog.underlying 62 = some (.struct ((match Tryz.prog.underlying 62 with | some (.struct f) => f | _ => #[]))) := by kernel_rfl
theorem und65 : Tryz.prog.underlying 65 = some (.struct ((match Tryz.prog.underlying 65 with | some (.struct f) => f | _ => #[]))) := by kernel_rfl
theorem und79 : Tryz.prog.underlying 79 = some (.struct ((match Tryz.prog.underlying 79 with | some (.struct f) => f | _ => #[]))) := by kernel_rfl
theorem und81 : Tryz.prog.underlying 81 = some (.struct ((match Tryz.prog.underlying 81 with | some (.struct f) => f | _ => #[]))) := by kernel_rfl
theorem und86 : Tryz.prog.underlying 86 = some (.struct ((match Tryz.prog.underlying 86 with | some (.struct f) => f | _ => #[]))) := by kernel_rfl
theorem und103 : Tryz.prog.underlying 103 = some (.slice 5) := by kernel_rfl
theorem und110 : Tryz.prog.underlying 110 = some (.struct ((match Tryz.prog.underlying 110 with | some (.struct f) => f | _ => #[]))) := by kernel_rfl
theorem und122 : Tryz.prog.underlying 122 = some (.struct ((match Tryz.prog.underlying 122 with | some (.struct f) => f | _ => #[]))) := by kernel_rfl
theorem und124 : Tryz.prog.underlying 124 = some (.int .u32) := by kernel_rfl
theorem und128 : Tryz.prog.underlying 128 = some (.struct ((match Tryz.prog.underlying 128 with | some (.struct f) => f | _ => #[]))) := by kernel_rfl
theorem und149 : Tryz.prog.underlying 149 = some (.struct ((match Tryz.prog.underlying 149 with | some (.struct f) => f | _ => #[]))) := by kernel_rfl
theorem und157 : Tryz.prog.underlying 157 = some (.array 23 149) := by kernel_rfl
theorem und161 : Tryz.prog.underlying 161 = some (.array 2 3) := by kernel_rfl
theorem und162 : Tryz.prog.underlying 162 = some (.array 5 161) := by kernel_rfl
theorem fd110_0 : Fd Tryz.prog 110 0 0 3 := ⟨_, (match Tryz.prog.underlying 110 with | some (.struct f) => f | _ => #[])[0]!, und110, by kernel_rfl, by kernel_rfl, by kernel_rfl⟩
theorem fd122_0 : Fd Tryz.prog 122 0 0 3 := ⟨_, (match Tryz.prog.underlying 122 with | some (.struct f) => f | _ => #[])[0]!, und122, by kernel_rfl, by kernel_rfl, by kernel_rfl⟩
theorem fd122_1 : Fd Tryz.prog 122 1 1 103 := ⟨_, (match Tryz.prog.underlying 122 with | some (.struct f) => f | _ => #[])[1]!, und122, by kernel_rfl, by kernel_rfl, by kernel_rfl⟩
theorem fd122_2 : Fd Tryz.prog 122 2 2 4 := ⟨_, (match Tryz.prog.underlying 122 with | some (.struct f) => f | _ => #[])[2]!, und122, by kernel_rfl, by kernel_rfl, by kernel_rfl⟩
theorem fd122_3 : Fd Tryz.prog 122 3 3 120 := ⟨_, (match Tryz.prog.underlying 122 with | some (.struct f) => f | _ => #[])[3]!, und122, by kernel_rfl, by kernel_rfl, by kernel_rfl⟩
theorem fd128_1 : Fd Tryz.prog 128 1 1 3 := ⟨_, (match Tryz.prog.underlying 128 with | some (.struct f) => f | _ => #[])[1]!, und128, by kernel_rfl, by kernel_rfl, by kernel_rfl⟩
theorem fd149_1 : Fd Tryz.prog 149 1 1 3 := ⟨_, (match Tryz.prog.underlying 149 with | some (.struct f) => f | _ => #[])[1]!, und149, by kernel_rfl, by kernel_rfl, by kernel_rfl⟩
theorem fd149_2 : Fd Tryz.prog 149 2 2 3 := ⟨_, (match Tryz.prog.underlying 149 with | some (.struct f) => f | _ => #[])[2]!, und149, by kernel_rfl, by kernel_rfl, by kernel_rfl⟩
theorem fd149_3 : Fd Tryz.prog 149 3 3 22 := ⟨_, (match Tryz.prog.underlying 149 with | some (.struct f) => f | _ => #[])[3]!, und149, by kernel_rfl, by kernel_rfl, by kernel_rfl⟩
theorem fd149_4 : Fd Tryz.prog 149 4 4 22 := ⟨_, (match Tryz.prog.underlying 149 with | some (.struct f) => f | _ => #[])[4]!, und149, by kernel_rfl, by kernel_rfl, by kernel_rfl⟩
theorem fd31_0 : Fd Tryz.prog 31 0 0 27 := ⟨_, (match Tryz.prog.underlying 31 with | some (.struct f) => f | _ => #[])[0]!, und31, by kernel_rfl, by kernel_rfl, by kernel_rfl⟩
theorem fd31_1 : Fd Tryz.prog 31 1 1 28 := ⟨_, (match Tryz.prog.underlying 31 with | some (.struct f) => f | _ => #[])[1]!, und31, by kernel_rfl, by kernel_rfl, by kernel_rfl⟩
theorem fd31_2 : Fd Tryz.prog 31 2 2 29 := ⟨_, (match Tryz.prog.underlying 31 with | some (.struct f) => f | _ => #[])[2]!, und31, by kernel_rfl, by kernel_rfl, by kernel_rfl⟩
theorem fd37_0 : Fd Tryz.prog 37 0 0 9 := ⟨_, (match Tryz.prog.underlying 37 with | some (.struct f) => f | _ => #[])[0]!, und37, by kernel_rfl, by kernel_rfl, by kernel_rfl⟩
theorem fd37_1 : Fd Tryz.prog 37 1 1 3 := ⟨_, (match Tryz.prog.underlying 37 with | some (.struct f) => f | _ => #[])[1]!, und37, by kernel_rfl, by kernel_rfl, by kernel_rfl⟩
theorem fd37_2 : Fd Tryz.prog 37 2 2 3 := ⟨_, (match Tryz.prog.underlying 37 with | some (.struct f) => f | _ => #[])[2]!, und37, by kernel_rfl, by kernel_rfl, by kernel_rfl⟩
theorem fd37_3 : Fd Tryz.prog 37 3 3 22 := ⟨_, (match Tryz.prog.underlying 37 with | some (.struct f) => f | _ => #[])[3]!, und37, by kernel_rfl, by kernel_rfl, by kernel_rfl⟩
theorem fd37_5 : Fd Tryz.prog 37 5 5 35 := ⟨_, (match Tryz.prog.underlying 37 with | some (.struct f) => f | _ => #[])[5]!, und37, by kernel_rfl, by kernel_rfl, by kernel_rfl⟩
theorem fd37_6 : Fd Tryz.prog 37 6 6 22 := ⟨_, (match Tryz.prog.underlying 37 with | some (.struct f) => f | _ => #[])[6]!, und37, by kernel_rfl, by kernel_rfl, by kernel_rfl⟩
theorem fd37_7 : Fd Tryz.prog 37 7 7 22 := ⟨_, (match Tryz.prog.underlying 37 with | some (.struct f) => f | _ => #[])[7]!, und37, by kernel_rfl, by kernel_rfl, by kernel_rfl⟩
theorem fd42_0 : Fd Tryz.prog 42 0 0 3 := ⟨_, (match Tryz.prog.underlying 42 with | some (.struct f) => f | _ => #[])[0]!, und42, by kernel_rfl, by kernel_rfl, by kernel_rfl⟩
theorem fd42_1 : Fd Tryz.prog 42 1 1 3 := ⟨_, (match Tryz.prog.underlying 42 with | some (.struct f) => f | _ => #[])[1]!, und42, by kernel_rfl, by kernel_rfl, by kernel_rfl⟩
theorem fd44_0 : Fd Tryz.prog 44 0 0 3 := ⟨_, (match Tryz.prog.underlying 44 with | some (.struct f) => f | _ => #[])[0]!, und44, by kernel_rfl, by kernel_rfl, by kernel_rfl⟩
theorem fd44_1 : Fd Tryz.prog 44 1 1 9 := ⟨_, (match Tryz.prog.underlying 44 with | some (.struct f) => f | _ => #[])[1]!, und44, by kernel_rfl, by kernel_rfl, by kernel_rfl⟩
theorem fd44_2 : Fd Tryz.prog 44 2 2 3 := ⟨_, (match Tryz.prog.underlying 44 with | some (.struct f) => f | _ => #[])[2]!, und44, by kernel_rfl, by kernel_rfl, by kernel_rfl⟩
theorem fd44_3 : Fd Tryz.prog 44 3 3 3 := ⟨_, (match Tryz.prog.underlying 44 with | some (.struct f) => f | _ => #[])[3]!, und44, by kernel_rfl, by kernel_rfl, by kernel_rfl⟩
theorem fd44_4 : Fd Tryz.prog 44 4 4 3 := ⟨_, (match Tryz.prog.underlying 44 with | some (.struct f) => f | _ => #[])[4]!, und44, by kernel_rfl, by kernel_rfl, by kernel_rfl⟩
theorem fd44_5 : Fd Tryz.prog 44 5 5 3 := ⟨_, (match Tryz.prog.underlying 44 with | some (.struct f) => f | _ => #[])[5]!, und44, by kernel_rfl, by kernel_rfl, by kernel_rfl⟩
theorem fd44_6 : Fd Tryz.prog 44 6 6 9 := ⟨_, (match Tryz.prog.underlying 44 with | some (.struct f) => f | _ => #[])[6]!, und44, by kernel_rfl, by kernel_rfl, by kernel_rfl⟩
theorem fd44_7 : Fd Tryz.prog 44 7 7 42 := ⟨_, (match Tryz.prog.underlying 44 with | some (.struct f) => f | _ => #[])[7]!, und44, by kernel_rfl, by kernel_rfl, by kernel_rfl⟩
theorem fd44_8 : Fd Tryz.prog 44 8 9 3 := ⟨_, (match Tryz.prog.underlying 44 with | some (.struct f) => f | _ => #[])[8]!, und44, by kernel_rfl, by kernel_rfl, by kernel_rfl⟩
theorem fd44_9 : Fd Tryz.prog 44 9 10 9 := ⟨_, (match Tryz.prog.underlying 44 with | some (.struct f) => f | _ => #[])[9]!, und44, by kernel_rfl, by kernel_rfl, by kernel_rfl⟩
theorem fd50_0 : Fd Tryz.prog 50 0 0 22 := ⟨_, (match Tryz.prog.underlying 50 with | some (.struct f) => f | _ => #[])[0]!, und50, by kernel_rfl, by kernel_rfl, by kernel_rfl⟩
theorem fd50_1 : Fd Tryz.prog 50 1 1 3 := ⟨_, (match Tryz.prog.underlying 50 with | some (.struct f) => f | _ => #[])[1]!, und50, by kernel_rfl, by kernel_rfl, by kernel_rfl⟩
theorem fd58_0 : Fd Tryz.prog 58 0 0 42 := ⟨_, (match Tryz.prog.underlying 58 with | some (.struct f) => f | _ => #[])[0]!, und58, by kernel_rfl, by kernel_rfl, by kernel_rfl⟩
theorem fd58_1 : Fd Tryz.prog 58 1 2 3 := ⟨_, (match Tryz.prog.underlying 58 with | some (.struct f) => f | _ => #[])[1]!, und58, by kernel_rfl, by kernel_rfl, by kernel_rfl⟩
theorem fd58_2 : Fd Tryz.prog 58 2 3 56 := ⟨_, (match Tryz.prog.underlying 58 with | some (.struct f) => f | _ => #[])[2]!, und58, by kernel_rfl, by kernel_rfl, by kernel_rfl⟩
theorem fd62_0 : Fd Tryz.prog 62 0 0 3 := ⟨_, (match Tryz.prog.underlying 62 with | some (.struct f) => f | _ => #[])[0]!, und62, by kernel_rfl, by kernel_rfl, by kernel_rfl⟩
theorem fd62_1 : Fd Tryz.prog 62 1 1 3 := ⟨_, (match Tryz.prog.underlying 62 with | some (.struct f) => f | _ => #[])[1]!, und62, by kernel_rfl, by kernel_rfl, by kernel_rfl⟩
theorem fd65_0 : Fd Tryz.prog 65 0 0 9 := ⟨_, (match Tryz.prog.underlying 65 with | some (.struct f) => f | _ => #[])[0]!, und65, by kernel_rfl, by kernel_rfl, by kernel_rfl⟩
theorem fd65_1 : Fd Tryz.prog 65 1 1 3 := ⟨_, (match Tryz.prog.underlying 65 with | some (.struct f) => f | _ => #[])[1]!, und65, by kernel_rfl, by kernel_rfl, by kernel_rfl⟩
theorem fd65_2 : Fd Tryz.prog 65 2 2 3 := ⟨_, (match Tryz.prog.underlying 65 with | some (.struct f) => f | _ => #[])[2]!, und65, by kernel_rfl, by kernel_rfl, by kernel_rfl⟩
theorem fd65_3 : Fd Tryz.prog 65 3 3 63 := ⟨_, (match Tryz.prog.underlying 65 with | some (.struct f) => f | _ => #[])[3]!, und65, by kernel_rfl, by kernel_rfl, by kernel_rfl⟩
theorem fd65_4 : Fd Tryz.prog 65 4 4 3 := ⟨_, (match Tryz.prog.underlying 65 with | some (.struct f) => f | _ => #[])[4]!, und65, by kernel_rfl, by kernel_rfl, by kernel_rfl⟩
theorem fd79_0 : Fd Tryz.prog 79 0 0 3 := ⟨_, (match Tryz.prog.underlying 79 with | some (.struct f) => f | _ => #[])[0]!, und79, by kernel_rfl, by kernel_rfl, by kernel_rfl⟩
theorem fd79_1 : Fd Tryz.prog 79 1 1 3 := ⟨_, (match Tryz.prog.underlying 79 with | some (.struct f) => f | _ => #[])[1]!, und79, by kernel_rfl, by kernel_rfl, by kernel_rfl⟩
theorem fd81_0 : Fd Tryz.prog 81 0 0 3 := ⟨_, (match Tryz.prog.underlying 81 with | some (.struct f) => f | _ => #[])[0]!, und81, by kernel_rfl, by kernel_rfl, by kernel_rfl⟩
theorem fd81_1 : Fd Tryz.prog 81 1 1 9 := ⟨_, (match Tryz.prog.underlying 81 with | some (.struct f) => f | _ => #[])[1]!, und81, by kernel_rfl, by kernel_rfl, by kernel_rfl⟩
theorem fd81_10 : Fd Tryz.prog 81 10 12 51 := ⟨_, (match Tryz.prog.underlying 81 with | some (.struct f) => f | _ => #[])[10]!, und81, by kernel_rfl, by kernel_rfl, by kernel_rfl⟩
theorem fd81_11 : Fd Tryz.prog 81 11 13 79 := ⟨_, (match Tryz.prog.underlying 81 with | some (.struct f) => f | _ => #[])[11]!, und81, by kernel_rfl, by kernel_rfl, by kernel_rfl⟩
theorem fd81_2 : Fd Tryz.prog 81 2 2 9 := ⟨_, (match Tryz.prog.underlying 81 with | some (.struct f) => f | _ => #[])[2]!, und81, by kernel_rfl, by kernel_rfl, by kernel_rfl⟩
theorem fd81_3 : Fd Tryz.prog 81 3 3 42 := ⟨_, (match Tryz.prog.underlying 81 with | some (.struct f) => f | _ => #[])[3]!, und81, by kernel_rfl, by kernel_rfl, by kernel_rfl⟩
theorem fd81_4 : Fd Tryz.prog 81 4 5 3 := ⟨_, (match Tryz.prog.underlying 81 with | some (.struct f) => f | _ => #[])[4]!, und81, by kernel_rfl, by kernel_rfl, by kernel_rfl⟩
theorem fd81_5 : Fd Tryz.prog 81 5 6 42 := ⟨_, (match Tryz.prog.underlying 81 with | some (.struct f) => f | _ => #[])[5]!, und81, by kernel_rfl, by kernel_rfl, by kernel_rfl⟩
theorem fd81_6 : Fd Tryz.prog 81 6 8 3 := ⟨_, (match Tryz.prog.underlying 81 with | some (.struct f) => f | _ => #[])[6]!, und81, by kernel_rfl, by kernel_rfl, by kernel_rfl⟩
theorem fd81_7 : Fd Tryz.prog 81 7 9 3 := ⟨_, (match Tryz.prog.underlying 81 with | some (.struct f) => f | _ => #[])[7]!, und81, by kernel_rfl, by kernel_rfl, by kernel_rfl⟩
theorem fd81_8 : Fd Tryz.prog 81 8 10 4 := ⟨_, (match Tryz.prog.underlying 81 with | some (.struct f) => f | _ => #[])[8]!, und81, by kernel_rfl, by kernel_rfl, by kernel_rfl⟩
theorem fd81_9 : Fd Tryz.prog 81 9 11 3 := ⟨_, (match Tryz.prog.underlying 81 with | some (.struct f) => f | _ => #[])[9]!, und81, by kernel_rfl, by kernel_rfl, by kernel_rfl⟩
theorem fd86_0 : Fd Tryz.prog 86 0 0 42 := ⟨_, (match Tryz.prog.underlying 86 with | some (.struct f) => f | _ => #[])[0]!, und86, by kernel_rfl, by kernel_rfl, by kernel_rfl⟩
theorem fd86_1 : Fd Tryz.prog 86 1 2 3 := ⟨_, (match Tryz.prog.underlying 86 with | some (.struct f) => f | _ => #[])[1]!, und86, by kernel_rfl, by kernel_rfl, by kernel_rfl⟩
theorem pl110 : ((match Tryz.prog.underlying 110 with | some (.struct f) => f | _ => #[]) : Array Field).toList.map (fun f => (Tryz.prog.info? f.type).map fun i => (f.offset, i.size)) = [(0, 1), (1, 1), (2, 2), (4, 2), (6, 2), (8, 2), (10, 1), (11, 1)].map some := by kernel_rfl
theorem pl122 : ((match Tryz.prog.underlying 122 with | some (.struct f) => f | _ => #[]) : Array Field).toList.map (fun f => (Tryz.prog.info? f.type).map fun i => (f.offset, i.size)) = [(0, 1), (1, 1), (2, 1), (3, 1)].map some := by kernel_rfl
theorem pl128 : ((match Tryz.prog.underlying 128 with | some (.struct f) => f | _ => #[]) : Array Field).toList.map (fun f => (Tryz.prog.info? f.type).map fun i => (f.offset, i.size)) = [(0, 1), (1, 1)].map some := by kernel_rfl
theorem pl149 : ((match Tryz.prog.underlying 149 with | some (.struct f) => f | _ => #[]) : Array Field).toList.map (fun f => (Tryz.prog.info? f.type).map fun i => (f.offset, i.size)) = [(0, 1), (1, 1), (2, 1), (3, 1), (4, 1)].map some := by kernel_rfl
theorem pl37 : ((match Tryz.prog.underlying 37 with | some (.struct f) => f | _ => #[]) : Array Field).toList.map (fun f => (Tryz.prog.info? f.type).map fun i => (f.offset, i.size)) = [(0, 1), (1, 1), (2, 1), (3, 1), (4, 1), (5, 1), (6, 1), (7, 1), (8, 1)].map some := by kernel_rfl
theorem pl42 : ((match Tryz.prog.underlying 42 with | some (.struct f) => f | _ => #[]) : Array Field).toList.map (fun f => (Tryz.prog.info? f.type).map fun i => (f.offset, i.size)) = [(0, 1), (1, 1)].map some := by kernel_rfl
theorem pl44 : ((match Tryz.prog.underlying 44 with | some (.struct f) => f | _ => #[]) : Array Field).toList.map (fun f => (Tryz.prog.info? f.type).map fun i => (f.offset, i.size)) = [(0, 1), (1, 1), (2, 1), (3, 1), (4, 1), (5, 1), (6, 1), (7, 2), (9, 1), (10, 1)].map some := by kernel_rfl
theorem pl50 : ((match Tryz.prog.underlying 50 with | some (.struct f) => f | _ => #[]) : Array Field).toList.map (fun f => (Tryz.prog.info? f.type).map fun i => (f.offset, i.size)) = [(0, 1), (1, 1)].map some := by kernel_rfl
theorem pl58 : ((match Tryz.prog.underlying 58 with | some (.struct f) => f | _ => #[]) : Array Field).toList.map (fun f => (Tryz.prog.info? f.type).map fun i => (f.offset, i.size)) = [(0, 2), (2, 1), (3, 1)].map some := by kernel_rfl
theorem pl62 : ((match Tryz.prog.underlying 62 with | some (.struct f) => f | _ => #[]) : Array Field).toList.map (fun f => (Tryz.prog.info? f.type).map fun i => (f.offset, i.size)) = [(0, 1), (1, 1)].map some := by kernel_rfl
theorem pl65 : ((match Tryz.prog.underlying 65 with | some (.struct f) => f | _ => #[]) : Array Field).toList.map (fun f => (Tryz.prog.info? f.type).map fun i => (f.offset, i.size)) = [(0, 1), (1, 1), (2, 1), (3, 1), (4, 1)].map some := by kernel_rfl
theorem pl79 : ((match Tryz.prog.underlying 79 with | some (.struct f) => f | _ => #[]) : Array Field).toList.map (fun f => (Tryz.prog.info? f.type).map fun i => (f.offset, i.size)) = [(0, 1), (1, 1)].map some := by kernel_rfl
theorem pl81 : ((match Tryz.prog.underlying 81 with | some (.struct f) => f | _ => #[]) : Array Field).toList.map (fun f => (Tryz.prog.info? f.type).map fun i => (f.offset, i.size)) = [(0, 1), (1, 1), (2, 1), (3, 2), (5, 1), (6, 2), (8, 1), (9, 1), (10, 1), (11, 1), (12, 1), (13, 2)].map some := by kernel_rfl
theorem pl86 : ((match Tryz.prog.underlying 86 with | some (.struct f) => f | _ => #[]) : Array Field).toList.map (fun f => (Tryz.prog.info? f.type).map fun i => (f.offset, i.size)) = [(0, 2), (2, 1)].map some := by kernel_rfl
theorem sl103 : SlT Tryz.prog 103 5 1 1 := SlT.mk' (z := (.int .u8 0)) (by kernel_rfl) (by kernel_rfl) rfl (by decide) (by decide)
theorem sl120 : SlT Tryz.prog 120 122 4 64 := SlT.mk' (z := (.agg #[.int .i64 0, .slice none 0 0, .bool false, .slice none 0 0])) (by kernel_rfl) (by kernel_rfl) rfl (by decide) (by decide)
theorem sl125 : SlT Tryz.prog 125 110 12 104 := SlT.mk' (z := (.agg #[.int .i64 0, .string ⟨#[]⟩, .int .i64 0, .int .i64 0, .int .i64 0, .int .i64 0, .int .i64 0, .int .i64 0, .int .i64 0, .int .i64 0, .int .i64 0, .int .i64 0])) (by kernel_rfl) (by kernel_rfl) rfl (by decide) (by decide)
theorem sl129 : SlT Tryz.prog 129 128 2 24 := SlT.mk' (z := (.agg #[.string ⟨#[]⟩, .int .i64 0])) (by kernel_rfl) (by kernel_rfl) rfl (by decide) (by decide)
theorem sl22 : SlT Tryz.prog 22 3 1 8 := SlT.mk' (z := (.int .i64 0)) (by kernel_rfl) (by kernel_rfl) rfl (by decide) (by decide)
theorem sl27 : SlT Tryz.prog 27 37 9 144 := SlT.mk' (z := (.agg #[.string ⟨#[]⟩, .int .i64 0, .int .i64 0, .slice none 0 0, .bool false, .slice none 0 0, .slice none 0 0, .slice none 0 0, .bool false])) (by kernel_rfl) (by kernel_rfl) rfl (by decide) (by decide)
theorem sl28 : SlT Tryz.prog 28 62 2 16 := SlT.mk' (z := (.agg #[.int .i64 0, .int .i64 0])) (by kernel_rfl) (by kernel_rfl) rfl (by decide) (by decide)
theorem sl29 : SlT Tryz.prog 29 65 5 64 := SlT.mk' (z := (.agg #[.string ⟨#[]⟩, .int .i64 0, .int .i64 0, .slice none 0 0, .int .i64 0])) (by kernel_rfl) (by kernel_rfl) rfl (by decide) (by decide)
theorem sl33 : SlT Tryz.prog 33 44 11 112 := SlT.mk' (z := (.agg #[.int .i64 0, .string ⟨#[]⟩, .int .i64 0, .int .i64 0, .int .i64 0, .int .i64 0, .string ⟨#[]⟩, .int .i64 0, .int .i64 0, .int .i64 0, .string ⟨#[]⟩])) (by kernel_rfl) (by kernel_rfl) rfl (by decide) (by decide)
theorem sl35 : SlT Tryz.prog 35 58 4 48 := SlT.mk' (z := (.agg #[.int .i64 0, .int .i64 0, .int .i64 0, .slice none 0 0])) (by kernel_rfl) (by kernel_rfl) rfl (by decide) (by decide)
theorem sl51 : SlT Tryz.prog 51 9 1 16 := SlT.mk' (z := (.string ⟨#[]⟩)) (by kernel_rfl) (by kernel_rfl) rfl (by decide) (by decide)
theorem sl54 : SlT Tryz.prog 54 22 1 24 := SlT.mk' (z := (.slice none 0 0)) (by kernel_rfl) (by kernel_rfl) rfl (by decide) (by decide)
theorem sl56 : SlT Tryz.prog 56 81 15 152 := SlT.mk' (z := (.agg #[.int .i64 0, .string ⟨#[]⟩, .string ⟨#[]⟩, .int .i64 0, .int .i64 0, .int .i64 0, .int .i64 0, .int .i64 0, .int .i64 0, .int .i64 0, .bool false, .int .i64 0, .slice none 0 0, .int .i64 0, .int .i64 0])) (by kernel_rfl) (by kernel_rfl) rfl (by decide) (by decide)
theorem sl63 : SlT Tryz.prog 63 86 3 24 := SlT.mk' (z := (.agg #[.int .i64 0, .int .i64 0, .int .i64 0])) (by kernel_rfl) (by kernel_rfl) rfl (by decide) (by decide)
theorem sl84 : SlT Tryz.prog 84 42 2 16 := SlT.mk' (z := (.agg #[.int .i64 0, .int .i64 0])) (by kernel_rfl) (by kernel_rfl) rfl (by decide) (by decide)
theorem ty103 : Ty Tryz.prog 103 false 1 := ⟨by kernel_rfl, by kernel_rfl⟩
theorem ty110 : Ty Tryz.prog 110 true 12 := ⟨by kernel_rfl, by kernel_rfl⟩
theorem ty120 : Ty Tryz.prog 120 false 1 := ⟨by kernel_rfl, by kernel_rfl⟩
theorem ty122 : Ty Tryz.prog 122 true 4 := ⟨by kernel_rfl, by kernel_rfl⟩
theorem ty149 : Ty Tryz.prog 149 true 5 := ⟨by kernel_rfl, by kernel_rfl⟩
theorem ty157 : Ty Tryz.prog 157 true 115 := ⟨by kernel_rfl, by kernel_rfl⟩
theorem ty161 : Ty Tryz.prog 161 true 2 := ⟨by kernel_rfl, by kernel_rfl⟩
theorem ty22 : Ty Tryz.prog 22 false 1 := ⟨by kernel_rfl, by kernel_rfl⟩
theorem ty27 : Ty Tryz.prog 27 false 1 := ⟨by kernel_rfl, by kernel_rfl⟩
theorem ty28 : Ty Tryz.prog 28 false 1 := ⟨by kernel_rfl, by kernel_rfl⟩
theorem ty29 : Ty Tryz.prog 29 false 1 := ⟨by kernel_rfl, by kernel_rfl⟩
theorem ty3 : Ty Tryz.prog 3 false 1 := ⟨by kernel_rfl, by kernel_rfl⟩
theorem ty31 : Ty Tryz.prog 31 true 3 := ⟨by kernel_rfl, by kernel_rfl⟩
theorem ty35 : Ty Tryz.prog 35 false 1 := ⟨by kernel_rfl, by kernel_rfl⟩
theorem ty37 : Ty Tryz.prog 37 true 9 := ⟨by kernel_rfl, by kernel_rfl⟩
theorem ty4 : Ty Tryz.prog 4 false 1 := ⟨by kernel_rfl, by kernel_rfl⟩
theorem ty42 : Ty Tryz.prog 42 true 2 := ⟨by kernel_rfl, by kernel_rfl⟩
theorem ty44 : Ty Tryz.prog 44 true 11 := ⟨by kernel_rfl, by kernel_rfl⟩
theorem ty5 : Ty Tryz.prog 5 false 1 := ⟨by kernel_rfl, by kernel_rfl⟩
theorem ty51 : Ty Tryz.prog 51 false 1 := ⟨by kernel_rfl, by kernel_rfl⟩
theorem ty55 : Ty Tryz.prog 55 false 1 := ⟨by kernel_rfl, by kernel_rfl⟩
theorem ty56 : Ty Tryz.prog 56 false 1 := ⟨by kernel_rfl, by kernel_rfl⟩
theorem ty58 : Ty Tryz.prog 58 true 4 := ⟨by kernel_rfl, by kernel_rfl⟩
theorem ty62 : Ty Tryz.prog 62 true 2 := ⟨by kernel_rfl, by kernel_rfl⟩
theorem ty63 : Ty Tryz.prog 63 false 1 := ⟨by kernel_rfl, by kernel_rfl⟩
theorem ty65 : Ty Tryz.prog 65 true 5 := ⟨by kernel_rfl, by kernel_rfl⟩
theorem ty79 : Ty Tryz.prog 79 true 2 := ⟨by kernel_rfl, by kernel_rfl⟩
theorem ty81 : Ty Tryz.prog 81 true 15 := ⟨by kernel_rfl, by kernel_rfl⟩
theorem ty86 : Ty Tryz.prog 86 true 3 := ⟨by kernel_rfl, by kernel_rfl⟩
theorem ty9 : Ty Tryz.prog 9 false 1 := ⟨by kernel_rfl, by kernel_rfl⟩
theorem z110 : Zt Tryz.prog 110 [.int .i64 0, .string ⟨#[]⟩, .int .i64 0, .int .i64 0, .int .i64 0, .int .i64 0, .int .i64 0, .int .i64 0, .int .i64 0, .int .i64 0, .int .i64 0, .int .i64 0] := ⟨(.agg #[.int .i64 0, .string ⟨#[]⟩, .int .i64 0, .int .i64 0, .int .i64 0, .int .i64 0, .int .i64 0, .int .i64 0, .int .i64 0, .int .i64 0, .int .i64 0, .int .i64 0]), by kernel_rfl, rfl, by decide⟩
theorem z122 : Zt Tryz.prog 122 [.int .i64 0, .slice none 0 0, .bool false, .slice none 0 0] := ⟨(.agg #[.int .i64 0, .slice none 0 0, .bool false, .slice none 0 0]), by kernel_rfl, rfl, by decide⟩
theorem z128 : Zt Tryz.prog 128 [.string ⟨#[]⟩, .int .i64 0] := ⟨(.agg #[.string ⟨#[]⟩, .int .i64 0]), by kernel_rfl, rfl, by decide⟩
theorem z149 : Zt Tryz.prog 149 [.string ⟨#[]⟩, .int .i64 0, .int .i64 0, .slice none 0 0, .slice none 0 0] := ⟨(.agg #[.string ⟨#[]⟩, .int .i64 0, .int .i64 0, .slice none 0 0, .slice none 0 0]), by kernel_rfl, rfl, by decide⟩
theorem z157 : Zt Tryz.prog 157 [.string ⟨#[]⟩, .int .i64 0, .int .i64 0, .slice none 0 0, .slice none 0 0, .string ⟨#[]⟩, .int .i64 0, .int .i64 0, .slice none 0 0, .slice none 0 0, .string ⟨#[]⟩, .int .i64 0, .int .i64 0, .slice none 0 0, .slice none 0 0, .string ⟨#[]⟩, .int .i64 0, .int .i64 0, .slice none 0 0, .slice none 0 0, .string ⟨#[]⟩, .int .i64 0, .int .i64 0, .slice none 0 0, .slice none 0 0, .string ⟨#[]⟩, .int .i64 0, .int .i64 0, .slice none 0 0, .slice none 0 0, .string ⟨#[]⟩, .int .i64 0, .int .i64 0, .slice none 0 0, .slice none 0 0, .string ⟨#[]⟩, .int .i64 0, .int .i64 0, .slice none 0 0, .slice none 0 0, .string ⟨#[]⟩, .int .i64 0, .int .i64 0, .slice none 0 0, .slice none 0 0, .string ⟨#[]⟩, .int .i64 0, .int .i64 0, .slice none 0 0, .slice none 0 0, .string ⟨#[]⟩, .int .i64 0, .int .i64 0, .slice none 0 0, .slice none 0 0, .string ⟨#[]⟩, .int .i64 0, .int .i64 0, .slice none 0 0, .slice none 0 0, .string ⟨#[]⟩, .int .i64 0, .int .i64 0, .slice none 0 0, .slice none 0 0, .string ⟨#[]⟩, .int .i64 0, .int .i64 0, .slice none 0 0, .slice none 0 0, .string ⟨#[]⟩, .int .i64 0, .int .i64 0, .slice none 0 0, .slice none 0 0, .string ⟨#[]⟩, .int .i64 0, .int .i64 0, .slice none 0 0, .slice none 0 0, .string ⟨#[]⟩, .int .i64 0, .int .i64 0, .slice none 0 0, .slice none 0 0, .string ⟨#[]⟩, .int .i64 0, .int .i64 0, .slice none 0 0, .slice none 0 0, .string ⟨#[]⟩, .int .i64 0, .int .i64 0, .slice none 0 0, .slice none 0 0, .string ⟨#[]⟩, .int .i64 0, .int .i64 0, .slice none 0 0, .slice none 0 0, .string ⟨#[]⟩, .int .i64 0, .int .i64 0, .slice none 0 0, .slice none 0 0, .string ⟨#[]⟩, .int .i64 0, .int .i64 0, .slice none 0 0, .slice none 0 0, .string ⟨#[]⟩, .int .i64 0, .int .i64 0, .slice none 0 0, .slice none 0 0] := ⟨(.agg #[.string ⟨#[]⟩, .int .i64 0, .int .i64 0, .slice none 0 0, .slice none 0 0, .string ⟨#[]⟩, .int .i64 0, .int .i64 0, .slice none 0 0, .slice none 0 0, .string ⟨#[]⟩, .int .i64 0, .int .i64 0, .slice none 0 0, .slice none 0 0, .string ⟨#[]⟩, .int .i64 0, .int .i64 0, .slice none 0 0, .slice none 0 0, .string ⟨#[]⟩, .int .i64 0, .int .i64 0, .slice none 0 0, .slice none 0 0, .string ⟨#[]⟩, .int .i64 0, .int .i64 0, .slice none 0 0, .slice none 0 0, .string ⟨#[]⟩, .int .i64 0, .int .i64 0, .slice none 0 0, .slice none 0 0, .string ⟨#[]⟩, .int .i64 0, .int .i64 0, .slice none 0 0, .slice none 0 0, .string ⟨#[]⟩, .int .i64 0, .int .i64 0, .slice none 0 0, .slice none 0 0, .string ⟨#[]⟩, .int .i64 0, .int .i64 0, .slice none 0 0, .slice none 0 0, .string ⟨#[]⟩, .int .i64 0, .int .i64 0, .slice none 0 0, .slice none 0 0, .string ⟨#[]⟩, .int .i64 0, .int .i64 0, .slice none 0 0, .slice none 0 0, .string ⟨#[]⟩, .int .i64 0, .int .i64 0, .slice none 0 0, .slice none 0 0, .string ⟨#[]⟩, .int .i64 0, .int .i64 0, .slice none 0 0, .slice none 0 0, .string ⟨#[]⟩, .int .i64 0, .int .i64 0, .slice none 0 0, .slice none 0 0, .string ⟨#[]⟩, .int .i64 0, .int .i64 0, .slice none 0 0, .slice none 0 0, .string ⟨#[]⟩, .int .i64 0, .int .i64 0, .slice none 0 0, .slice none 0 0, .string ⟨#[]⟩, .int .i64 0, .int .i64 0, .slice none 0 0, .slice none 0 0, .string ⟨#[]⟩, .int .i64 0, .int .i64 0, .slice none 0 0, .slice none 0 0, .string ⟨#[]⟩, .int .i64 0, .int .i64 0, .slice none 0 0, .slice none 0 0, .string ⟨#[]⟩, .int .i64 0, .int .i64 0, .slice none 0 0, .slice none 0 0, .string ⟨#[]⟩, .int .i64 0, .int .i64 0, .slice none 0 0, .slice none 0 0, .string ⟨#[]⟩, .int .i64 0, .int .i64 0, .slice none 0 0, .slice none 0 0]), by kernel_rfl, rfl, by decide⟩
theorem z161 : Zt Tryz.prog 161 [.int .i64 0, .int .i64 0] := ⟨(.agg #[.int .i64 0, .int .i64 0]), by kernel_rfl, rfl, by decide⟩
theorem z162 : Zt Tryz.prog 162 [.int .i64 0, .int .i64 0, .int .i64 0, .int .i64 0, .int .i64 0, .int .i64 0, .int .i64 0, .int .i64 0, .int .i64 0, .int .i64 0] := ⟨(.agg #[.int .i64 0, .int .i64 0, .int .i64 0, .int .i64 0, .int .i64 0, .int .i64 0, .int .i64 0, .int .i64 0, .int .i64 0, .int .i64 0]), by kernel_rfl, rfl, by decide⟩
theorem z22 : Zt Tryz.prog 22 [.slice none 0 0] := ⟨(.slice none 0 0), by kernel_rfl, rfl, by decide⟩
theorem z3 : Zt Tryz.prog 3 [.int .i64 0] := ⟨(.int .i64 0), by kernel_rfl, rfl, by decide⟩
theorem z31 : Zt Tryz.prog 31 [.slice none 0 0, .slice none 0 0, .slice none 0 0] := ⟨(.agg #[.slice none 0 0, .slice none 0 0, .slice none 0 0]), by kernel_rfl, rfl, by decide⟩
theorem z37 : Zt Tryz.prog 37 [.string ⟨#[]⟩, .int .i64 0, .int .i64 0, .slice none 0 0, .bool false, .slice none 0 0, .slice none 0 0, .slice none 0 0, .bool false] := ⟨(.agg #[.string ⟨#[]⟩, .int .i64 0, .int .i64 0, .slice none 0 0, .bool false, .slice none 0 0, .slice none 0 0, .slice none 0 0, .bool false]), by kernel_rfl, rfl, by decide⟩
theorem z42 : Zt Tryz.prog 42 [.int .i64 0, .int .i64 0] := ⟨(.agg #[.int .i64 0, .int .i64 0]), by kernel_rfl, rfl, by decide⟩
theorem z44 : Zt Tryz.prog 44 [.int .i64 0, .string ⟨#[]⟩, .int .i64 0, .int .i64 0, .int .i64 0, .int .i64 0, .string ⟨#[]⟩, .int .i64 0, .int .i64 0, .int .i64 0, .string ⟨#[]⟩] := ⟨(.agg #[.int .i64 0, .string ⟨#[]⟩, .int .i64 0, .int .i64 0, .int .i64 0, .int .i64 0, .string ⟨#[]⟩, .int .i64 0, .int .i64 0, .int .i64 0, .string ⟨#[]⟩]), by kernel_rfl, rfl, by decide⟩
theorem z5 : Zt Tryz.prog 5 [.int .u8 0] := ⟨(.int .u8 0), by kernel_rfl, rfl, by decide⟩
theorem z50 : Zt Tryz.prog 50 [.slice none 0 0, .int .i64 0] := ⟨(.agg #[.slice none 0 0, .int .i64 0]), by kernel_rfl, rfl, by decide⟩
theorem z58 : Zt Tryz.prog 58 [.int .i64 0, .int .i64 0, .int .i64 0, .slice none 0 0] := ⟨(.agg #[.int .i64 0, .int .i64 0, .int .i64 0, .slice none 0 0]), by kernel_rfl, rfl, by decide⟩
theorem z62 : Zt Tryz.prog 62 [.int .i64 0, .int .i64 0] := ⟨(.agg #[.int .i64 0, .int .i64 0]), by kernel_rfl, rfl, by decide⟩
theorem z65 : Zt Tryz.prog 65 [.string ⟨#[]⟩, .int .i64 0, .int .i64 0, .slice none 0 0, .int .i64 0] := ⟨(.agg #[.string ⟨#[]⟩, .int .i64 0, .int .i64 0, .slice none 0 0, .int .i64 0]), by kernel_rfl, rfl, by decide⟩
theorem z79 : Zt Tryz.prog 79 [.int .i64 0, .int .i64 0] := ⟨(.agg #[.int .i64 0, .int .i64 0]), by kernel_rfl, rfl, by decide⟩
theorem z81 : Zt Tryz.prog 81 [.int .i64 0, .string ⟨#[]⟩, .string ⟨#[]⟩, .int .i64 0, .int .i64 0, .int .i64 0, .int .i64 0, .int .i64 0, .int .i64 0, .int .i64 0, .bool false, .int .i64 0, .slice none 0 0, .int .i64 0, .int .i64 0] := ⟨(.agg #[.int .i64 0, .string ⟨#[]⟩, .string ⟨#[]⟩, .int .i64 0, .int .i64 0, .int .i64 0, .int .i64 0, .int .i64 0, .int .i64 0, .int .i64 0, .bool false, .int .i64 0, .slice none 0 0, .int .i64 0, .int .i64 0]), by kernel_rfl, rfl, by decide⟩
theorem z86 : Zt Tryz.prog 86 [.int .i64 0, .int .i64 0, .int .i64 0] := ⟨(.agg #[.int .i64 0, .int .i64 0, .int .i64 0]), by kernel_rfl, rfl, by decide⟩
theorem z9 : Zt Tryz.prog 9 [.string ⟨#[]⟩] := ⟨(.string ⟨#[]⟩), by kernel_rfl, rfl, by decide⟩
theorem ck110 : cellK Tryz.prog 20 110 = [none, none, none, none, none, none, none, none, none, none, none, none] := by kernel_rfl
theorem ck122 : cellK Tryz.prog 20 122 = [none, some 1, none, some 4] := by kernel_rfl
theorem ck128 : cellK Tryz.prog 20 128 = [none, none] := by kernel_rfl
theorem ck22 : cellK Tryz.prog 20 22 = [some 1] := by kernel_rfl
theorem ck3 : cellK Tryz.prog 20 3 = [none] := by kernel_rfl
theorem ck37 : cellK Tryz.prog 20 37 = [none, none, none, some 1, none, some 4, some 1, some 1, none] := by kernel_rfl
theorem ck42 : cellK Tryz.prog 20 42 = [none, none] := by kernel_rfl
theorem ck44 : cellK Tryz.prog 20 44 = [none, none, none, none, none, none, none, none, none, none, none] := by kernel_rfl
theorem ck5 : cellK Tryz.prog 20 5 = [none] := by kernel_rfl
theorem ck58 : cellK Tryz.prog 20 58 = [none, none, none, some 15] := by kernel_rfl
theorem ck62 : cellK Tryz.prog 20 62 = [none, none] := by kernel_rfl
theorem ck65 : cellK Tryz.prog 20 65 = [none, none, none, some 3, none] := by kernel_rfl
theorem ck81 : cellK Tryz.prog 20 81 = [none, none, none, none, none, none, none, none, none, none, none, none, some 1, none, none] := by kernel_rfl
theorem ck86 : cellK Tryz.prog 20 86 = [none, none, none] := by kernel_rfl
theorem ck9 : cellK Tryz.prog 20 9 = [none] := by kernel_rfl
theorem x112 (s : ByteArray) (c : UInt8) (w : World) : (callFunc 112 [.string s, .int .u8 (c.toNat : Int)].toArray).run Tryz.prog w = .ok (.value (.int .i64 (idxB s c))) w := run_idxB Tryz.func112 rfl rfl (by kernel_rfl) (by kernel_rfl) s c w
theorem eg42 : Tryz.prog.eqGuardType Tryz.prog.depth 42 = false := by kernel_rfl
theorem sf42 : Tryz.prog.underlying 42 = some (.struct (Tryz.prog.fieldsOf 42)) := by kernel_rfl
theorem sh42 : Tryz.prog.stoodInHeld 42 = false := by kernel_rfl
theorem se42 (x y : api_Use) (w : World) : (Op.equalIn 10000 42 (.agg #[.int .i64 x.Alg, .int .i64 x.Bits]) (.agg #[.int .i64 y.Alg, .int .i64 y.Bits])).run Tryz.prog w = .ok (decide (x = y)) w := by
 have u3 := Tryz.underlying3
 have a3 := Tryz.isAgg3
 have z3 := Tryz.sizeOf3
 rw [show (10000 : Nat) = 9999 + 1 from rfl, run_equalIn_agg w 9999 42 _ _ sf42 sh42]
 simp only [Program.fieldsOf, Tryz.underlying42]
 go_simp
 rcases x with ⟨x0, x1⟩
 rcases y with ⟨y0, y1⟩
 by_cases h0 : x0 = y0 <;> by_cases h1 : x1 = y1 <;> simp [h0, h1]
theorem steq42_eql (x y : api_Use) {X Y : Operand} {tk : Nat} {yt ty : TypeId} {b1 b2 : Option LB} : OpR Tryz.prog tk (.binOp .eql 42 X Y yt) ty [(.agg [.val (.int .i64 x.Alg), .val (.int .i64 x.Bits)], b1), (.agg [.val (.int .i64 y.Alg), .val (.int .i64 y.Bits)], b2)] [] (v0 (.val (.bool (decide (x = y))))) :=
 .binOpA rfl rfl (fun _ _ => rfl) (fun w => by
  rw [Sem.run_bind, run_eqGuard_agg w _ 42 X Y _ _ eg42]
  simp only [Result.andThen_ok, run_eql_struct]
  exact congrArg (fun r => Result.andThen r _) (se42 x y w))
instance : FdC Tryz.prog 110 0 0 3 := ⟨fd110_0⟩
instance : FdC Tryz.prog 122 0 0 3 := ⟨fd122_0⟩
instance : FdC Tryz.prog 122 1 1 103 := ⟨fd122_1⟩
instance : FdC Tryz.prog 122 2 2 4 := ⟨fd122_2⟩
instance : FdC Tryz.prog 122 3 3 120 := ⟨fd122_3⟩
instance : FdC Tryz.prog 128 1 1 3 := ⟨fd128_1⟩
instance : FdC Tryz.prog 149 1 1 3 := ⟨fd149_1⟩
instance : FdC Tryz.prog 149 2 2 3 := ⟨fd149_2⟩
instance : FdC Tryz.prog 149 3 3 22 := ⟨fd149_3⟩
instance : FdC Tryz.prog 149 4 4 22 := ⟨fd149_4⟩
instance : FdC Tryz.prog 31 0 0 27 := ⟨fd31_0⟩
instance : FdC Tryz.prog 31 1 1 28 := ⟨fd31_1⟩
instance : FdC Tryz.prog 31 2 2 29 := ⟨fd31_2⟩
instance : FdC Tryz.prog 37 0 0 9 := ⟨fd37_0⟩
instance : FdC Tryz.prog 37 1 1 3 := ⟨fd37_1⟩
instance : FdC Tryz.prog 37 2 2 3 := ⟨fd37_2⟩
instance : FdC Tryz.prog 37 3 3 22 := ⟨fd37_3⟩
instance : FdC Tryz.prog 37 5 5 35 := ⟨fd37_5⟩
instance : FdC Tryz.prog 37 6 6 22 := ⟨fd37_6⟩
instance : FdC Tryz.prog 37 7 7 22 := ⟨fd37_7⟩
instance : FdC Tryz.prog 42 0 0 3 := ⟨fd42_0⟩
instance : FdC Tryz.prog 42 1 1 3 := ⟨fd42_1⟩
instance : FdC Tryz.prog 44 0 0 3 := ⟨fd44_0⟩
instance : FdC Tryz.prog 44 1 1 9 := ⟨fd44_1⟩
instance : FdC Tryz.prog 44 2 2 3 := ⟨fd44_2⟩
instance : FdC Tryz.prog 44 3 3 3 := ⟨fd44_3⟩
instance : FdC Tryz.prog 44 4 4 3 := ⟨fd44_4⟩
instance : FdC Tryz.prog 44 5 5 3 := ⟨fd44_5⟩
instance : FdC Tryz.prog 44 6 6 9 := ⟨fd44_6⟩
instance : FdC Tryz.prog 44 7 7 42 := ⟨fd44_7⟩
instance : FdC Tryz.prog 44 8 9 3 := ⟨fd44_8⟩
instance : FdC Tryz.prog 44 9 10 9 := ⟨fd44_9⟩
instance : FdC Tryz.prog 50 0 0 22 := ⟨fd50_0⟩
instance : FdC Tryz.prog 50 1 1 3 := ⟨fd50_1⟩
instance : FdC Tryz.prog 58 0 0 42 := ⟨fd58_0⟩
instance : FdC Tryz.prog 58 1 2 3 := ⟨fd58_1⟩
instance : FdC Tryz.prog 58 2 3 56 := ⟨fd58_2⟩
instance : FdC Tryz.prog 62 0 0 3 := ⟨fd62_0⟩
instance : FdC Tryz.prog 62 1 1 3 := ⟨fd62_1⟩
instance : FdC Tryz.prog 65 0 0 9 := ⟨fd65_0⟩
instance : FdC Tryz.prog 65 1 1 3 := ⟨fd65_1⟩
instance : FdC Tryz.prog 65 2 2 3 := ⟨fd65_2⟩
instance : FdC Tryz.prog 65 3 3 63 := ⟨fd65_3⟩
instance : FdC Tryz.prog 65 4 4 3 := ⟨fd65_4⟩
instance : FdC Tryz.prog 79 0 0 3 := ⟨fd79_0⟩
instance : FdC Tryz.prog 79 1 1 3 := ⟨fd79_1⟩
instance : FdC Tryz.prog 81 0 0 3 := ⟨fd81_0⟩
instance : FdC Tryz.prog 81 1 1 9 := ⟨fd81_1⟩
instance : FdC Tryz.prog 81 10 12 51 := ⟨fd81_10⟩
instance : FdC Tryz.prog 81 11 13 79 := ⟨fd81_11⟩
instance : FdC Tryz.prog 81 2 2 9 := ⟨fd81_2⟩
instance : FdC Tryz.prog 81 3 3 42 := ⟨fd81_3⟩
instance : FdC Tryz.prog 81 4 5 3 := ⟨fd81_4⟩
instance : FdC Tryz.prog 81 5 6 42 := ⟨fd81_5⟩
instance : FdC Tryz.prog 81 6 8 3 := ⟨fd81_6⟩
instance : FdC Tryz.prog 81 7 9 3 := ⟨fd81_7⟩
instance : FdC Tryz.prog 81 8 10 4 := ⟨fd81_8⟩
instance : FdC Tryz.prog 81 9 11 3 := ⟨fd81_9⟩
instance : FdC Tryz.prog 86 0 0 42 := ⟨fd86_0⟩
instance : FdC Tryz.prog 86 1 2 3 := ⟨fd86_1⟩
instance : SlC Tryz.prog 103 5 1 1 := ⟨sl103⟩
instance : SlC Tryz.prog 120 122 4 64 := ⟨sl120⟩
instance : SlC Tryz.prog 125 110 12 104 := ⟨sl125⟩
instance : SlC Tryz.prog 129 128 2 24 := ⟨sl129⟩
instance : SlC Tryz.prog 22 3 1 8 := ⟨sl22⟩
instance : SlC Tryz.prog 27 37 9 144 := ⟨sl27⟩
instance : SlC Tryz.prog 28 62 2 16 := ⟨sl28⟩
instance : SlC Tryz.prog 29 65 5 64 := ⟨sl29⟩
instance : SlC Tryz.prog 33 44 11 112 := ⟨sl33⟩
instance : SlC Tryz.prog 35 58 4 48 := ⟨sl35⟩
instance : SlC Tryz.prog 51 9 1 16 := ⟨sl51⟩
instance : SlC Tryz.prog 54 22 1 24 := ⟨sl54⟩
instance : SlC Tryz.prog 56 81 15 152 := ⟨sl56⟩
instance : SlC Tryz.prog 63 86 3 24 := ⟨sl63⟩
instance : SlC Tryz.prog 84 42 2 16 := ⟨sl84⟩
instance : TyC Tryz.prog 103 false 1 := ⟨ty103⟩
instance : TyC Tryz.prog 110 true 12 := ⟨ty110⟩
instance : TyC Tryz.prog 120 false 1 := ⟨ty120⟩
instance : TyC Tryz.prog 122 true 4 := ⟨ty122⟩
instance : TyC Tryz.prog 149 true 5 := ⟨ty149⟩
instance : TyC Tryz.prog 157 true 115 := ⟨ty157⟩
instance : TyC Tryz.prog 161 true 2 := ⟨ty161⟩
instance : TyC Tryz.prog 22 false 1 := ⟨ty22⟩
instance : TyC Tryz.prog 27 false 1 := ⟨ty27⟩
instance : TyC Tryz.prog 28 false 1 := ⟨ty28⟩
instance : TyC Tryz.prog 29 false 1 := ⟨ty29⟩
instance : TyC Tryz.prog 3 false 1 := ⟨ty3⟩
instance : TyC Tryz.prog 31 true 3 := ⟨ty31⟩
instance : TyC Tryz.prog 35 false 1 := ⟨ty35⟩
instance : TyC Tryz.prog 37 true 9 := ⟨ty37⟩
instance : TyC Tryz.prog 4 false 1 := ⟨ty4⟩
instance : TyC Tryz.prog 42 true 2 := ⟨ty42⟩
instance : TyC Tryz.prog 44 true 11 := ⟨ty44⟩
instance : TyC Tryz.prog 5 false 1 := ⟨ty5⟩
instance : TyC Tryz.prog 51 false 1 := ⟨ty51⟩
instance : TyC Tryz.prog 55 false 1 := ⟨ty55⟩
instance : TyC Tryz.prog 56 false 1 := ⟨ty56⟩
instance : TyC Tryz.prog 58 true 4 := ⟨ty58⟩
instance : TyC Tryz.prog 62 true 2 := ⟨ty62⟩
instance : TyC Tryz.prog 63 false 1 := ⟨ty63⟩
instance : TyC Tryz.prog 65 true 5 := ⟨ty65⟩
instance : TyC Tryz.prog 79 true 2 := ⟨ty79⟩
instance : TyC Tryz.prog 81 true 15 := ⟨ty81⟩
instance : TyC Tryz.prog 86 true 3 := ⟨ty86⟩
instance : TyC Tryz.prog 9 false 1 := ⟨ty9⟩
instance : ZtC Tryz.prog 110 [.int .i64 0, .string ⟨#[]⟩, .int .i64 0, .int .i64 0, .int .i64 0, .int .i64 0, .int .i64 0, .int .i64 0, .int .i64 0, .int .i64 0, .int .i64 0, .int .i64 0] := ⟨z110⟩
instance : ZtC Tryz.prog 122 [.int .i64 0, .slice none 0 0, .bool false, .slice none 0 0] := ⟨z122⟩
instance : ZtC Tryz.prog 128 [.string ⟨#[]⟩, .int .i64 0] := ⟨z128⟩
instance : ZtC Tryz.prog 149 [.string ⟨#[]⟩, .int .i64 0, .int .i64 0, .slice none 0 0, .slice none 0 0] := ⟨z149⟩
instance : ZtC Tryz.prog 157 [.string ⟨#[]⟩, .int .i64 0, .int .i64 0, .slice none 0 0, .slice none 0 0, .string ⟨#[]⟩, .int .i64 0, .int .i64 0, .slice none 0 0, .slice none 0 0, .string ⟨#[]⟩, .int .i64 0, .int .i64 0, .slice none 0 0, .slice none 0 0, .string ⟨#[]⟩, .int .i64 0, .int .i64 0, .slice none 0 0, .slice none 0 0, .string ⟨#[]⟩, .int .i64 0, .int .i64 0, .slice none 0 0, .slice none 0 0, .string ⟨#[]⟩, .int .i64 0, .int .i64 0, .slice none 0 0, .slice none 0 0, .string ⟨#[]⟩, .int .i64 0, .int .i64 0, .slice none 0 0, .slice none 0 0, .string ⟨#[]⟩, .int .i64 0, .int .i64 0, .slice none 0 0, .slice none 0 0, .string ⟨#[]⟩, .int .i64 0, .int .i64 0, .slice none 0 0, .slice none 0 0, .string ⟨#[]⟩, .int .i64 0, .int .i64 0, .slice none 0 0, .slice none 0 0, .string ⟨#[]⟩, .int .i64 0, .int .i64 0, .slice none 0 0, .slice none 0 0, .string ⟨#[]⟩, .int .i64 0, .int .i64 0, .slice none 0 0, .slice none 0 0, .string ⟨#[]⟩, .int .i64 0, .int .i64 0, .slice none 0 0, .slice none 0 0, .string ⟨#[]⟩, .int .i64 0, .int .i64 0, .slice none 0 0, .slice none 0 0, .string ⟨#[]⟩, .int .i64 0, .int .i64 0, .slice none 0 0, .slice none 0 0, .string ⟨#[]⟩, .int .i64 0, .int .i64 0, .slice none 0 0, .slice none 0 0, .string ⟨#[]⟩, .int .i64 0, .int .i64 0, .slice none 0 0, .slice none 0 0, .string ⟨#[]⟩, .int .i64 0, .int .i64 0, .slice none 0 0, .slice none 0 0, .string ⟨#[]⟩, .int .i64 0, .int .i64 0, .slice none 0 0, .slice none 0 0, .string ⟨#[]⟩, .int .i64 0, .int .i64 0, .slice none 0 0, .slice none 0 0, .string ⟨#[]⟩, .int .i64 0, .int .i64 0, .slice none 0 0, .slice none 0 0, .string ⟨#[]⟩, .int .i64 0, .int .i64 0, .slice none 0 0, .slice none 0 0, .string ⟨#[]⟩, .int .i64 0, .int .i64 0, .slice none 0 0, .slice none 0 0] := ⟨z157⟩
instance : ZtC Tryz.prog 161 [.int .i64 0, .int .i64 0] := ⟨z161⟩
instance : ZtC Tryz.prog 162 [.int .i64 0, .int .i64 0, .int .i64 0, .int .i64 0, .int .i64 0, .int .i64 0, .int .i64 0, .int .i64 0, .int .i64 0, .int .i64 0] := ⟨z162⟩
instance : ZtC Tryz.prog 22 [.slice none 0 0] := ⟨z22⟩
instance : ZtC Tryz.prog 3 [.int .i64 0] := ⟨z3⟩
instance : ZtC Tryz.prog 31 [.slice none 0 0, .slice none 0 0, .slice none 0 0] := ⟨z31⟩
instance : ZtC Tryz.prog 37 [.string ⟨#[]⟩, .int .i64 0, .int .i64 0, .slice none 0 0, .bool false, .slice none 0 0, .slice none 0 0, .slice none 0 0, .bool false] := ⟨z37⟩
instance : ZtC Tryz.prog 42 [.int .i64 0, .int .i64 0] := ⟨z42⟩
instance : ZtC Tryz.prog 44 [.int .i64 0, .string ⟨#[]⟩, .int .i64 0, .int .i64 0, .int .i64 0, .int .i64 0, .string ⟨#[]⟩, .int .i64 0, .int .i64 0, .int .i64 0, .string ⟨#[]⟩] := ⟨z44⟩
instance : ZtC Tryz.prog 5 [.int .u8 0] := ⟨z5⟩
instance : ZtC Tryz.prog 50 [.slice none 0 0, .int .i64 0] := ⟨z50⟩
instance : ZtC Tryz.prog 58 [.int .i64 0, .int .i64 0, .int .i64 0, .slice none 0 0] := ⟨z58⟩
instance : ZtC Tryz.prog 62 [.int .i64 0, .int .i64 0] := ⟨z62⟩
instance : ZtC Tryz.prog 65 [.string ⟨#[]⟩, .int .i64 0, .int .i64 0, .slice none 0 0, .int .i64 0] := ⟨z65⟩
instance : ZtC Tryz.prog 79 [.int .i64 0, .int .i64 0] := ⟨z79⟩
instance : ZtC Tryz.prog 81 [.int .i64 0, .string ⟨#[]⟩, .string ⟨#[]⟩, .int .i64 0, .int .i64 0, .int .i64 0, .int .i64 0, .int .i64 0, .int .i64 0, .int .i64 0, .bool false, .int .i64 0, .slice none 0 0, .int .i64 0, .int .i64 0] := ⟨z81⟩
instance : ZtC Tryz.prog 86 [.int .i64 0, .int .i64 0, .int .i64 0] := ⟨z86⟩
instance : ZtC Tryz.prog 9 [.string ⟨#[]⟩] := ⟨z9⟩
instance : ElC cipherplanmake_Dice.enc 2 := ⟨cipherplanmake_Dice.enc_len⟩
instance : ElC api_Use.enc 2 := ⟨api_Use.enc_len⟩
instance : ElC api_Seal.enc 2 := ⟨api_Seal.enc_len⟩
instance : ElC api_Certificate.enc 15 := ⟨api_Certificate.enc_len⟩
instance : ElC api_Identity.enc 4 := ⟨api_Identity.enc_len⟩
instance : ElC api_Endpoint.enc 9 := ⟨api_Endpoint.enc_len⟩
instance : ElC api_Edge.enc 2 := ⟨api_Edge.enc_len⟩
instance : ElC api_Link.enc 3 := ⟨api_Link.enc_len⟩
instance : ElC api_Item.enc 5 := ⟨api_Item.enc_len⟩
instance : ElC api_Estate.enc 3 := ⟨api_Estate.enc_len⟩
instance : ElC api_Finding.enc 11 := ⟨api_Finding.enc_len⟩
instance : ElC cipherplanref02_row.enc 2 := ⟨cipherplanref02_row.enc_len⟩
instance : ElC api_Value.enc 4 := ⟨api_Value.enc_len⟩
instance : ElC api_Suite.enc 12 := ⟨api_Suite.enc_len⟩
instance : ElC catalog_row.enc 5 := ⟨catalog_row.enc_len⟩
end Go.Proofs.YtoekocjflclojaaGreat
