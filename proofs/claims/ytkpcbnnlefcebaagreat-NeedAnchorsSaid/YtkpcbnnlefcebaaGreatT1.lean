/- Encodings; what is known of types. -/
import Derived.Test.YtkpcbnnlefcebaaGreatEH
import Derived.Test.YtkpcbnnlefcebaaGreatP1
import Derived.Test.YtkpcbnnlefcebaaGreatProg
set_option linter.unusedVariables false
set_option linter.unusedSimpArgs false
set_option maxRecDepth 100000
set_option maxHeartbeats 1600000
namespace Go.Proofs.YtkpcbnnlefcebaaGreat
open Go.RowKit
abbrev cipherplanmake_Dice.dv (x : cipherplanmake_Dice) : List DV := [.sl 1 (encL eI x.L), .val (.int .i64 x.At)]
def cipherplanmake_Dice.enc (x : cipherplanmake_Dice) : List C := [.sl 1 (encL eI x.L), .int .i64 x.At]
theorem cipherplanmake_Dice.enc_len (x : cipherplanmake_Dice) : (cipherplanmake_Dice.enc x).length = 2 := rfl
abbrev api_Use.dv (x : api_Use) : List DV := [.val (.int .i64 x.Alg), .val (.int .i64 x.Bits)]
def api_Use.enc (x : api_Use) : List C := [.int .i64 x.Alg, .int .i64 x.Bits]
theorem api_Use.enc_len (x : api_Use) : (api_Use.enc x).length = 2 := rfl
abbrev api_Seal.dv (x : api_Seal) : List DV := [.val (.int .i64 x.Key), .val (.int .i64 x.Sum)]
def api_Seal.enc (x : api_Seal) : List C := [.int .i64 x.Key, .int .i64 x.Sum]
theorem api_Seal.enc_len (x : api_Seal) : (api_Seal.enc x).length = 2 := rfl
abbrev api_Certificate.dv (x : api_Certificate) : List DV := [.val (.int .i64 x.Serial), .val (.string x.Issuer), .val (.string x.Subject), .val (.int .i64 x.Key.Alg), .val (.int .i64 x.Key.Bits), .val (.int .i64 x.KeyId), .val (.int .i64 x.Hash.Alg), .val (.int .i64 x.Hash.Bits), .val (.int .i64 x.From), .val (.int .i64 x.To), .val (.bool x.Authority), .val (.int .i64 x.Path), .sl 1 (encL eS x.Names), .val (.int .i64 x.Seal.Key), .val (.int .i64 x.Seal.Sum)]
def api_Certificate.enc (x : api_Certificate) : List C := [.int .i64 x.Serial, .str x.Issuer, .str x.Subject, .int .i64 x.Key.Alg, .int .i64 x.Key.Bits, .int .i64 x.KeyId, .int .i64 x.Hash.Alg, .int .i64 x.Hash.Bits, .int .i64 x.From, .int .i64 x.To, .bool x.Authority, .int .i64 x.Path, .sl 1 (encL eS x.Names), .int .i64 x.Seal.Key, .int .i64 x.Seal.Sum]
theorem api_Certificate.enc_len (x : api_Certificate) : (api_Certificate.enc x).length = 15 := rfl
abbrev api_Identity.dv (x : api_Identity) : List DV := [.val (.int .i64 x.Key.Alg), .val (.int .i64 x.Key.Bits), .val (.int .i64 x.KeyId), .sl 15 (encL api_Certificate.enc x.Chain)]
def api_Identity.enc (x : api_Identity) : List C := [.int .i64 x.Key.Alg, .int .i64 x.Key.Bits, .int .i64 x.KeyId, .sl 15 (encL api_Certificate.enc x.Chain)]
theorem api_Identity.enc_len (x : api_Identity) : (api_Identity.enc x).length = 4 := rfl
abbrev api_Endpoint.dv (x : api_Endpoint) : List DV := [.val (.string x.Name), .val (.int .i64 x.Least), .val (.int .i64 x.Most), .sl 1 (encL eI x.Suites), .val (.bool x.OwnOrder), .sl 4 (encL api_Identity.enc x.Identities), .sl 1 (encL eI x.Anchors), .sl 1 (encL eI x.Hashes), .val (.bool x.Fallback)]
def api_Endpoint.enc (x : api_Endpoint) : List C := [.str x.Name, .int .i64 x.Least, .int .i64 x.Most, .sl 1 (encL eI x.Suites), .bool x.OwnOrder, .sl 4 (encL api_Identity.enc x.Identities), .sl 1 (encL eI x.Anchors), .sl 1 (encL eI x.Hashes), .bool x.Fallback]
theorem api_Endpoint.enc_len (x : api_Endpoint) : (api_Endpoint.enc x).length = 9 := rfl
abbrev api_Edge.dv (x : api_Edge) : List DV := [.val (.int .i64 x.Client), .val (.int .i64 x.Server)]
def api_Edge.enc (x : api_Edge) : List C := [.int .i64 x.Client, .int .i64 x.Server]
theorem api_Edge.enc_len (x : api_Edge) : (api_Edge.enc x).length = 2 := rfl
abbrev api_Link.dv (x : api_Link) : List DV := [.val (.int .i64 x.Use.Alg), .val (.int .i64 x.Use.Bits), .val (.int .i64 x.Day)]
def api_Link.enc (x : api_Link) : List C := [.int .i64 x.Use.Alg, .int .i64 x.Use.Bits, .int .i64 x.Day]
theorem api_Link.enc_len (x : api_Link) : (api_Link.enc x).length = 3 := rfl
abbrev api_Item.dv (x : api_Item) : List DV := [.val (.string x.Name), .val (.int .i64 x.Kind), .val (.int .i64 x.Purpose), .sl 3 (encL api_Link.enc x.Links), .val (.int .i64 x.Until)]
def api_Item.enc (x : api_Item) : List C := [.str x.Name, .int .i64 x.Kind, .int .i64 x.Purpose, .sl 3 (encL api_Link.enc x.Links), .int .i64 x.Until]
theorem api_Item.enc_len (x : api_Item) : (api_Item.enc x).length = 5 := rfl
abbrev api_Estate.dv (x : api_Estate) : List DV := [.sl 9 (encL api_Endpoint.enc x.Endpoints), .sl 2 (encL api_Edge.enc x.Edges), .sl 5 (encL api_Item.enc x.Items)]
def api_Estate.enc (x : api_Estate) : List C := [.sl 9 (encL api_Endpoint.enc x.Endpoints), .sl 2 (encL api_Edge.enc x.Edges), .sl 5 (encL api_Item.enc x.Items)]
theorem api_Estate.enc_len (x : api_Estate) : (api_Estate.enc x).length = 3 := rfl
abbrev api_Change.dv (x : api_Change) : List DV := [.val (.int .i64 x.Endpoint), .val (.int .i64 x.Kind), .val (.int .i64 x.Number), .val (.int .i64 x.At), .val (.int .i64 x.Identity.Key.Alg), .val (.int .i64 x.Identity.Key.Bits), .val (.int .i64 x.Identity.KeyId), .sl 15 (encL api_Certificate.enc x.Identity.Chain)]
def api_Change.enc (x : api_Change) : List C := [.int .i64 x.Endpoint, .int .i64 x.Kind, .int .i64 x.Number, .int .i64 x.At, .int .i64 x.Identity.Key.Alg, .int .i64 x.Identity.Key.Bits, .int .i64 x.Identity.KeyId, .sl 15 (encL api_Certificate.enc x.Identity.Chain)]
theorem api_Change.enc_len (x : api_Change) : (api_Change.enc x).length = 8 := rfl
abbrev api_Required.dv (x : api_Required) : List DV := [.val (.int .i64 x.First), .val (.int .i64 x.Then)]
def api_Required.enc (x : api_Required) : List C := [.int .i64 x.First, .int .i64 x.Then]
theorem api_Required.enc_len (x : api_Required) : (api_Required.enc x).length = 2 := rfl
abbrev need_required.dv (x : need_required) : List DV := [.val (.int .i64 x.First), .val (.int .i64 x.Then)]
def need_required.enc (x : need_required) : List C := [.int .i64 x.First, .int .i64 x.Then]
theorem need_required.enc_len (x : need_required) : (need_required.enc x).length = 2 := rfl
abbrev cipherplanref02_row.dv (x : cipherplanref02_row) : List DV := [.val (.string x.name), .val (.int .i64 x.kind)]
def cipherplanref02_row.enc (x : cipherplanref02_row) : List C := [.str x.name, .int .i64 x.kind]
theorem cipherplanref02_row.enc_len (x : cipherplanref02_row) : (cipherplanref02_row.enc x).length = 2 := rfl
mutual
def api_Value.enc : api_Value → List C
 | ⟨Tag, Bytes, Nested, Elements⟩ => [.int .i64 Tag, .sl 1 (encL e8 Bytes), .bool Nested, .sl 4 (api_Value.encs Elements)]
def api_Value.encs : List api_Value → List C
 | [] => []
 | x :: l => api_Value.enc x ++ api_Value.encs l
end
theorem api_Value.encs_eq : ∀ (l : List api_Value), api_Value.encs l = encL api_Value.enc l
 | [] => rfl
 | x :: l => by
  show api_Value.enc x ++ api_Value.encs l = api_Value.enc x ++ encL api_Value.enc l
  rw [api_Value.encs_eq l]
theorem api_Value.enc_eq (x : api_Value) : api_Value.enc x = [.int .i64 x.Tag, .sl 1 (encL e8 x.Bytes), .bool x.Nested, .sl 4 (encL api_Value.enc x.Elements)] := by
 cases x
 simp only [api_Value.enc, api_Value.encs_eq]
theorem api_Value.enc_len (x : api_Value) : (api_Value.enc x).length = 4 := by rw [api_Value.enc_eq]; rfl
abbrev api_Value.dv (x : api_Value) : List DV := [.val (.int .i64 x.Tag), .sl 1 (encL e8 x.Bytes), .val (.bool x.Nested), .sl 4 (encL api_Value.enc x.Elements)]
abbrev api_Suite.dv (x : api_Suite) : List DV := [.val (.int .i64 x.Code), .val (.string x.Name), .val (.int .i64 x.Exchange.Alg), .val (.int .i64 x.Exchange.Bits), .val (.int .i64 x.Sign.Alg), .val (.int .i64 x.Sign.Bits), .val (.int .i64 x.Cipher.Alg), .val (.int .i64 x.Cipher.Bits), .val (.int .i64 x.Mac.Alg), .val (.int .i64 x.Mac.Bits), .val (.int .i64 x.Least), .val (.int .i64 x.Most)]
def api_Suite.enc (x : api_Suite) : List C := [.int .i64 x.Code, .str x.Name, .int .i64 x.Exchange.Alg, .int .i64 x.Exchange.Bits, .int .i64 x.Sign.Alg, .int .i64 x.Sign.Bits, .int .i64 x.Cipher.Alg, .int .i64 x.Cipher.Bits, .int .i64 x.Mac.Alg, .int .i64 x.Mac.Bits, .int .i64 x.Least, .int .i64 x.Most]
theorem api_Suite.enc_len (x : api_Suite) : (api_Suite.enc x).length = 12 := rfl
abbrev catalog_row.dv (x : catalog_row) : List DV := [.val (.string x.name), .val (.int .i64 x.kind), .val (.int .i64 x.way), .sl 1 (encL eI x.sizes), .sl 1 (encL eI x.strengths)]
def catalog_row.enc (x : catalog_row) : List C := [.str x.name, .int .i64 x.kind, .int .i64 x.way, .sl 1 (encL eI x.sizes), .sl 1 (encL eI x.strengths)]
theorem catalog_row.enc_len (x : catalog_row) : (catalog_row.enc x).length = 5 := rfl
theorem und3 : Tryz.prog.underlying 3 = some (.int .i64) := by kernel_rfl
theorem und4 : Tryz.prog.underlying 4 = some (.bool) := by kernel_rfl
theorem und5 : Tryz.prog.underlying 5 = some (.int .u8) := by kernel_rfl
theorem und9 : Tryz.prog.underlying 9 = some (.string) := by kernel_rfl
theorem und29 : Tryz.prog.underlying 29 = some (.struct ((match Tryz.prog.underlying 29 with | some (.struct f) => f | _ => #[]))) := by kernel_rfl
theorem und34 : Tryz.prog.underlying 34 = some (.struct ((match Tryz.prog.underlying 34 with | some (.struct f) => f | _ => #[]))) := by kernel_rfl
theorem und37 : Tryz.prog.underlying 37 = some (.struct ((match Tryz.prog.underlying 37 with | some (.struct f) => f | _ => #[]))) := by kernel_rfl
theorem und39 : Tryz.prog.underlying 39 = some (.struct ((match Tryz.prog.underlying 39 with | some (.struct f) => f | _ => #[]))) := by kernel_rfl
theorem und42 : Tryz.prog.underlying 42 = some (.struct ((match Tryz.prog.underlying 42 with | some (.struct f) => f | _ => #[]))) := by kernel_rfl
theorem und44 : Tryz.prog.underlying 44 = some (.struct ((match Tryz.prog.underlying 44 with | some (.struct f) => f | _ => #[]))) := by kernel_rfl
theorem und53 : Tryz.prog.underlying 53 = some (.struct ((match Tryz.prog.underlying 53 with | some (.struct f) => f | _ => #[]))) := by kernel_rfl
theorem und77 : Tryz.prog.underlying 77 = some (.struct ((match Tryz.prog.underlying 77 with | some (.struct f) => f | _ => #[]))) := by kernel_rfl
theorem und81 : Tryz.prog.underlying 81 = some (.struct ((match Tryz.prog.underlying 81 with | some (.struct f) => f | _ => #[]))) := by kernel_rfl
theorem und83 : Tryz.prog.underlying 83 = some (.struct ((match Tryz.prog.underlying 83 with | some (.struct f) => f | _ => #[]))) := by kernel_rfl
theorem und85 : Tryz.prog.underlying 85 = some (.struct ((match Tryz.prog.underlying 85 with | some (.struct f) => f | _ => #[]))) := by kernel_rfl
theorem und107 : Tryz.prog.underlying 107 = some (.struct ((match Tryz.prog.underlying 107 with | some (.struct f) => f | _ => #[]))) := by kernel_rfl
theorem und110 : Tryz.prog.underlying 110 = some (.slice 5) := by kernel_rfl
theorem und122 : Tryz.prog.underlying 122 = some (.struct ((match Tryz.prog.underlying 122 with | some (.struct f) => f | _ => #[]))) := by kernel_rfl
theorem und138 : Tryz.prog.underlying 138 = some (.struct ((match Tryz.prog.underlying 138 with | some (.struct f) => f | _ => #[]))) := by kernel_rfl
theorem und140 : Tryz.prog.underlying 140 = some (.int .u32) := by kernel_rfl
theorem und148 : Tryz.prog.underlying 148 = some (.int .u64) := by kernel_rfl
theorem und152 : Tryz.prog.underlying 152 = some (.struct ((match Tryz.prog.underlying 152 with | some (.struct f) => f | _ => #[]))) := by kernel_rfl
theorem und157 : Tryz.prog.underlying 157 = some (.struct ((match Tryz.prog.underlying 157 with | some (.struct f) => f | _ => #[]))) := by kernel_rfl
theorem und180 : Tryz.prog.underlying 180 = some (.int .u64) := by kernel_rfl
theorem und189 : Tryz.prog.underlying 189 = some (.struct ((match Tryz.prog.underlying 189 with | some (.struct f) => f | _ => #[]))) := by kernel_rfl
theorem und201 : Tryz.prog.underlying 201 = some (.array 23 189) := by kernel_rfl
theorem und205 : Tryz.prog.underlying 205 = some (.array 2 3) := by kernel_rfl
theorem und206 : Tryz.prog.underlying 206 = some (.array 5 205) := by kernel_rfl
theorem fd107_0 : Fd Tryz.prog 107 0 0 39 := ⟨_, (match Tryz.prog.underlying 107 with | some (.struct f) => f | _ => #[])[0]!, und107, by kernel_rfl, by kernel_rfl, by kernel_rfl⟩
theorem fd107_1 : Fd Tryz.prog 107 1 2 3 := ⟨_, (match Tryz.prog.underlying 107 with | some (.struct f) => f | _ => #[])[1]!, und107, by kernel_rfl, by kernel_rfl, by kernel_rfl⟩
theorem fd122_0 : Fd Tryz.prog 122 0 0 3 := ⟨_, (match Tryz.prog.underlying 122 with | some (.struct f) => f | _ => #[])[0]!, und122, by kernel_rfl, by kernel_rfl, by kernel_rfl⟩
theorem fd122_1 : Fd Tryz.prog 122 1 1 3 := ⟨_, (match Tryz.prog.underlying 122 with | some (.struct f) => f | _ => #[])[1]!, und122, by kernel_rfl, by kernel_rfl, by kernel_rfl⟩
theorem fd138_0 : Fd Tryz.prog 138 0 0 3 := ⟨_, (match Tryz.prog.underlying 138 with | some (.struct f) => f | _ => #[])[0]!, und138, by kernel_rfl, by kernel_rfl, by kernel_rfl⟩
theorem fd138_1 : Fd Tryz.prog 138 1 1 110 := ⟨_, (match Tryz.prog.underlying 138 with | some (.struct f) => f | _ => #[])[1]!, und138, by kernel_rfl, by kernel_rfl, by kernel_rfl⟩
theorem fd138_2 : Fd Tryz.prog 138 2 2 4 := ⟨_, (match Tryz.prog.underlying 138 with | some (.struct f) => f | _ => #[])[2]!, und138, by kernel_rfl, by kernel_rfl, by kernel_rfl⟩
theorem fd138_3 : Fd Tryz.prog 138 3 3 136 := ⟨_, (match Tryz.prog.underlying 138 with | some (.struct f) => f | _ => #[])[3]!, und138, by kernel_rfl, by kernel_rfl, by kernel_rfl⟩
theorem fd152_0 : Fd Tryz.prog 152 0 0 3 := ⟨_, (match Tryz.prog.underlying 152 with | some (.struct f) => f | _ => #[])[0]!, und152, by kernel_rfl, by kernel_rfl, by kernel_rfl⟩
theorem fd157_1 : Fd Tryz.prog 157 1 1 3 := ⟨_, (match Tryz.prog.underlying 157 with | some (.struct f) => f | _ => #[])[1]!, und157, by kernel_rfl, by kernel_rfl, by kernel_rfl⟩
theorem fd189_1 : Fd Tryz.prog 189 1 1 3 := ⟨_, (match Tryz.prog.underlying 189 with | some (.struct f) => f | _ => #[])[1]!, und189, by kernel_rfl, by kernel_rfl, by kernel_rfl⟩
theorem fd189_2 : Fd Tryz.prog 189 2 2 3 := ⟨_, (match Tryz.prog.underlying 189 with | some (.struct f) => f | _ => #[])[2]!, und189, by kernel_rfl, by kernel_rfl, by kernel_rfl⟩
theorem fd189_3 : Fd Tryz.prog 189 3 3 22 := ⟨_, (match Tryz.prog.underlying 189 with | some (.struct f) => f | _ => #[])[3]!, und189, by kernel_rfl, by kernel_rfl, by kernel_rfl⟩
theorem fd189_4 : Fd Tryz.prog 189 4 4 22 := ⟨_, (match Tryz.prog.underlying 189 with | some (.struct f) => f | _ => #[])[4]!, und189, by kernel_rfl, by kernel_rfl, by kernel_rfl⟩
theorem fd29_0 : Fd Tryz.prog 29 0 0 25 := ⟨_, (match Tryz.prog.underlying 29 with | some (.struct f) => f | _ => #[])[0]!, und29, by kernel_rfl, by kernel_rfl, by kernel_rfl⟩
theorem fd29_1 : Fd Tryz.prog 29 1 1 26 := ⟨_, (match Tryz.prog.underlying 29 with | some (.struct f) => f | _ => #[])[1]!, und29, by kernel_rfl, by kernel_rfl, by kernel_rfl⟩
theorem fd29_2 : Fd Tryz.prog 29 2 2 27 := ⟨_, (match Tryz.prog.underlying 29 with | some (.struct f) => f | _ => #[])[2]!, und29, by kernel_rfl, by kernel_rfl, by kernel_rfl⟩
theorem fd34_0 : Fd Tryz.prog 34 0 0 3 := ⟨_, (match Tryz.prog.underlying 34 with | some (.struct f) => f | _ => #[])[0]!, und34, by kernel_rfl, by kernel_rfl, by kernel_rfl⟩
theorem fd34_1 : Fd Tryz.prog 34 1 1 3 := ⟨_, (match Tryz.prog.underlying 34 with | some (.struct f) => f | _ => #[])[1]!, und34, by kernel_rfl, by kernel_rfl, by kernel_rfl⟩
theorem fd37_0 : Fd Tryz.prog 37 0 0 9 := ⟨_, (match Tryz.prog.underlying 37 with | some (.struct f) => f | _ => #[])[0]!, und37, by kernel_rfl, by kernel_rfl, by kernel_rfl⟩
theorem fd37_1 : Fd Tryz.prog 37 1 1 3 := ⟨_, (match Tryz.prog.underlying 37 with | some (.struct f) => f | _ => #[])[1]!, und37, by kernel_rfl, by kernel_rfl, by kernel_rfl⟩
theorem fd37_2 : Fd Tryz.prog 37 2 2 3 := ⟨_, (match Tryz.prog.underlying 37 with | some (.struct f) => f | _ => #[])[2]!, und37, by kernel_rfl, by kernel_rfl, by kernel_rfl⟩
theorem fd37_3 : Fd Tryz.prog 37 3 3 22 := ⟨_, (match Tryz.prog.underlying 37 with | some (.struct f) => f | _ => #[])[3]!, und37, by kernel_rfl, by kernel_rfl, by kernel_rfl⟩
theorem fd37_5 : Fd Tryz.prog 37 5 5 35 := ⟨_, (match Tryz.prog.underlying 37 with | some (.struct f) => f | _ => #[])[5]!, und37, by kernel_rfl, by kernel_rfl, by kernel_rfl⟩
theorem fd37_6 : Fd Tryz.prog 37 6 6 22 := ⟨_, (match Tryz.prog.underlying 37 with | some (.struct f) => f | _ => #[])[6]!, und37, by kernel_rfl, by kernel_rfl, by kernel_rfl⟩
theorem fd37_7 : Fd Tryz.prog 37 7 7 22 := ⟨_, (match Tryz.prog.underlying 37 with | some (.struct f) => f | _ => #[])[7]!, und37, by kernel_rfl, by kernel_rfl, by kernel_rfl⟩
theorem fd39_0 : Fd Tryz.prog 39 0 0 3 := ⟨_, (match Tryz.prog.underlying 39 with | some (.struct f) => f | _ => #[])[0]!, und39, by kernel_rfl, by kernel_rfl, by kernel_rfl⟩
theorem fd39_1 : Fd Tryz.prog 39 1 1 3 := ⟨_, (match Tryz.prog.underlying 39 with | some (.struct f) => f | _ => #[])[1]!, und39, by kernel_rfl, by kernel_rfl, by kernel_rfl⟩
theorem fd42_0 : Fd Tryz.prog 42 0 0 39 := ⟨_, (match Tryz.prog.underlying 42 with | some (.struct f) => f | _ => #[])[0]!, und42, by kernel_rfl, by kernel_rfl, by kernel_rfl⟩
theorem fd42_1 : Fd Tryz.prog 42 1 2 3 := ⟨_, (match Tryz.prog.underlying 42 with | some (.struct f) => f | _ => #[])[1]!, und42, by kernel_rfl, by kernel_rfl, by kernel_rfl⟩
theorem fd42_2 : Fd Tryz.prog 42 2 3 40 := ⟨_, (match Tryz.prog.underlying 42 with | some (.struct f) => f | _ => #[])[2]!, und42, by kernel_rfl, by kernel_rfl, by kernel_rfl⟩
theorem fd44_0 : Fd Tryz.prog 44 0 0 3 := ⟨_, (match Tryz.prog.underlying 44 with | some (.struct f) => f | _ => #[])[0]!, und44, by kernel_rfl, by kernel_rfl, by kernel_rfl⟩
theorem fd44_1 : Fd Tryz.prog 44 1 1 3 := ⟨_, (match Tryz.prog.underlying 44 with | some (.struct f) => f | _ => #[])[1]!, und44, by kernel_rfl, by kernel_rfl, by kernel_rfl⟩
theorem fd44_2 : Fd Tryz.prog 44 2 2 3 := ⟨_, (match Tryz.prog.underlying 44 with | some (.struct f) => f | _ => #[])[2]!, und44, by kernel_rfl, by kernel_rfl, by kernel_rfl⟩
theorem fd53_0 : Fd Tryz.prog 53 0 0 3 := ⟨_, (match Tryz.prog.underlying 53 with | some (.struct f) => f | _ => #[])[0]!, und53, by kernel_rfl, by kernel_rfl, by kernel_rfl⟩
theorem fd53_1 : Fd Tryz.prog 53 1 1 3 := ⟨_, (match Tryz.prog.underlying 53 with | some (.struct f) => f | _ => #[])[1]!, und53, by kernel_rfl, by kernel_rfl, by kernel_rfl⟩
theorem fd77_0 : Fd Tryz.prog 77 0 0 9 := ⟨_, (match Tryz.prog.underlying 77 with | some (.struct f) => f | _ => #[])[0]!, und77, by kernel_rfl, by kernel_rfl, by kernel_rfl⟩
theorem fd77_1 : Fd Tryz.prog 77 1 1 3 := ⟨_, (match Tryz.prog.underlying 77 with | some (.struct f) => f | _ => #[])[1]!, und77, by kernel_rfl, by kernel_rfl, by kernel_rfl⟩
theorem fd77_2 : Fd Tryz.prog 77 2 2 3 := ⟨_, (match Tryz.prog.underlying 77 with | some (.struct f) => f | _ => #[])[2]!, und77, by kernel_rfl, by kernel_rfl, by kernel_rfl⟩
theorem fd77_3 : Fd Tryz.prog 77 3 3 75 := ⟨_, (match Tryz.prog.underlying 77 with | some (.struct f) => f | _ => #[])[3]!, und77, by kernel_rfl, by kernel_rfl, by kernel_rfl⟩
theorem fd77_4 : Fd Tryz.prog 77 4 4 3 := ⟨_, (match Tryz.prog.underlying 77 with | some (.struct f) => f | _ => #[])[4]!, und77, by kernel_rfl, by kernel_rfl, by kernel_rfl⟩
theorem fd81_0 : Fd Tryz.prog 81 0 0 22 := ⟨_, (match Tryz.prog.underlying 81 with | some (.struct f) => f | _ => #[])[0]!, und81, by kernel_rfl, by kernel_rfl, by kernel_rfl⟩
theorem fd81_1 : Fd Tryz.prog 81 1 1 3 := ⟨_, (match Tryz.prog.underlying 81 with | some (.struct f) => f | _ => #[])[1]!, und81, by kernel_rfl, by kernel_rfl, by kernel_rfl⟩
theorem fd83_0 : Fd Tryz.prog 83 0 0 3 := ⟨_, (match Tryz.prog.underlying 83 with | some (.struct f) => f | _ => #[])[0]!, und83, by kernel_rfl, by kernel_rfl, by kernel_rfl⟩
theorem fd83_1 : Fd Tryz.prog 83 1 1 3 := ⟨_, (match Tryz.prog.underlying 83 with | some (.struct f) => f | _ => #[])[1]!, und83, by kernel_rfl, by kernel_rfl, by kernel_rfl⟩
theorem fd85_0 : Fd Tryz.prog 85 0 0 3 := ⟨_, (match Tryz.prog.underlying 85 with | some (.struct f) => f | _ => #[])[0]!, und85, by kernel_rfl, by kernel_rfl, by kernel_rfl⟩
theorem fd85_1 : Fd Tryz.prog 85 1 1 9 := ⟨_, (match Tryz.prog.underlying 85 with | some (.struct f) => f | _ => #[])[1]!, und85, by kernel_rfl, by kernel_rfl, by kernel_rfl⟩
theorem fd85_10 : Fd Tryz.prog 85 10 12 71 := ⟨_, (match Tryz.prog.underlying 85 with | some (.struct f) => f | _ => #[])[10]!, und85, by kernel_rfl, by kernel_rfl, by kernel_rfl⟩
theorem fd85_11 : Fd Tryz.prog 85 11 13 83 := ⟨_, (match Tryz.prog.underlying 85 with | some (.struct f) => f | _ => #[])[11]!, und85, by kernel_rfl, by kernel_rfl, by kernel_rfl⟩
theorem fd85_2 : Fd Tryz.prog 85 2 2 9 := ⟨_, (match Tryz.prog.underlying 85 with | some (.struct f) => f | _ => #[])[2]!, und85, by kernel_rfl, by kernel_rfl, by kernel_rfl⟩
theorem fd85_3 : Fd Tryz.prog 85 3 3 39 := ⟨_, (match Tryz.prog.underlying 85 with | some (.struct f) => f | _ => #[])[3]!, und85, by kernel_rfl, by kernel_rfl, by kernel_rfl⟩
theorem fd85_4 : Fd Tryz.prog 85 4 5 3 := ⟨_, (match Tryz.prog.underlying 85 with | some (.struct f) => f | _ => #[])[4]!, und85, by kernel_rfl, by kernel_rfl, by kernel_rfl⟩
theorem fd85_5 : Fd Tryz.prog 85 5 6 39 := ⟨_, (match Tryz.prog.underlying 85 with | some (.struct f) => f | _ => #[])[5]!, und85, by kernel_rfl, by kernel_rfl, by kernel_rfl⟩
theorem fd85_6 : Fd Tryz.prog 85 6 8 3 := ⟨_, (match Tryz.prog.underlying 85 with | some (.struct f) => f | _ => #[])[6]!, und85, by kernel_rfl, by kernel_rfl, by kernel_rfl⟩
theorem fd85_7 : Fd Tryz.prog 85 7 9 3 := ⟨_, (match Tryz.prog.underlying 85 with | some (.struct f) => f | _ => #[])[7]!, und85, by kernel_rfl, by kernel_rfl, by kernel_rfl⟩
theorem fd85_8 : Fd Tryz.prog 85 8 10 4 := ⟨_, (match Tryz.prog.underlying 85 with | some (.struct f) => f | _ => #[])[8]!, und85, by kernel_rfl, by kernel_rfl, by kernel_rfl⟩
theorem fd85_9 : Fd Tryz.prog 85 9 11 3 := ⟨_, (match Tryz.prog.underlying 85 with | some (.struct f) => f | _ => #[])[9]!, und85, by kernel_rfl, by kernel_rfl, by kernel_rfl⟩
theorem pl107 : ((match Tryz.prog.underlying 107 with | some (.struct f) => f | _ => #[]) : Array Field).toList.map (fun f => (Tryz.prog.info? f.type).map fun i => (f.offset, i.size)) = [(0, 2), (2, 1)].map some := by kernel_rfl
theorem pl138 : ((match Tryz.prog.underlying 138 with | some (.struct f) => f | _ => #[]) : Array Field).toList.map (fun f => (Tryz.prog.info? f.type).map fun i => (f.offset, i.size)) = [(0, 1), (1, 1), (2, 1), (3, 1)].map some := by kernel_rfl
theorem pl152 : ((match Tryz.prog.underlying 152 with | some (.struct f) => f | _ => #[]) : Array Field).toList.map (fun f => (Tryz.prog.info? f.type).map fun i => (f.offset, i.size)) = [(0, 1), (1, 1), (2, 2), (4, 2), (6, 2), (8, 2), (10, 1), (11, 1)].map some := by kernel_rfl
theorem pl157 : ((match Tryz.prog.underlying 157 with | some (.struct f) => f | _ => #[]) : Array Field).toList.map (fun f => (Tryz.prog.info? f.type).map fun i => (f.offset, i.size)) = [(0, 1), (1, 1)].map some := by kernel_rfl
theorem pl189 : ((match Tryz.prog.underlying 189 with | some (.struct f) => f | _ => #[]) : Array Field).toList.map (fun f => (Tryz.prog.info? f.type).map fun i => (f.offset, i.size)) = [(0, 1), (1, 1), (2, 1), (3, 1), (4, 1)].map some := by kernel_rfl
theorem pl34 : ((match Tryz.prog.underlying 34 with | some (.struct f) => f | _ => #[]) : Array Field).toList.map (fun f => (Tryz.prog.info? f.type).map fun i => (f.offset, i.size)) = [(0, 1), (1, 1)].map some := by kernel_rfl
theorem pl37 : ((match Tryz.prog.underlying 37 with | some (.struct f) => f | _ => #[]) : Array Field).toList.map (fun f => (Tryz.prog.info? f.type).map fun i => (f.offset, i.size)) = [(0, 1), (1, 1), (2, 1), (3, 1), (4, 1), (5, 1), (6, 1), (7, 1), (8, 1)].map some := by kernel_rfl
theorem pl39 : ((match Tryz.prog.underlying 39 with | some (.struct f) => f | _ => #[]) : Array Field).toList.map (fun f => (Tryz.prog.info? f.type).map fun i => (f.offset, i.size)) = [(0, 1), (1, 1)].map some := by kernel_rfl
theorem pl42 : ((match Tryz.prog.underlying 42 with | some (.struct f) => f | _ => #[]) : Array Field).toList.map (fun f => (Tryz.prog.info? f.type).map fun i => (f.offset, i.size)) = [(0, 2), (2, 1), (3, 1)].map some := by kernel_rfl
theorem pl44 : ((match Tryz.prog.underlying 44 with | some (.struct f) => f | _ => #[]) : Array Field).toList.map (fun f => (Tryz.prog.info? f.type).map fun i => (f.offset, i.size)) = [(0, 1), (1, 1), (2, 1), (3, 1), (4, 4)].map some := by kernel_rfl
theorem pl53 : ((match Tryz.prog.underlying 53 with | some (.struct f) => f | _ => #[]) : Array Field).toList.map (fun f => (Tryz.prog.info? f.type).map fun i => (f.offset, i.size)) = [(0, 1), (1, 1)].map some := by kernel_rfl
theorem pl77 : ((match Tryz.prog.underlying 77 with | some (.struct f) => f | _ => #[]) : Array Field).toList.map (fun f => (Tryz.prog.info? f.type).map fun i => (f.offset, i.size)) = [(0, 1), (1, 1), (2, 1), (3, 1), (4, 1)].map some := by kernel_rfl
theorem pl81 : ((match Tryz.prog.underlying 81 with | some (.struct f) => f | _ => #[]) : Array Field).toList.map (fun f => (Tryz.prog.info? f.type).map fun i => (f.offset, i.size)) = [(0, 1), (1, 1)].map some := by kernel_rfl
theorem pl83 : ((match Tryz.prog.underlying 83 with | some (.struct f) => f | _ => #[]) : Array Field).toList.map (fun f => (Tryz.prog.info? f.type).map fun i => (f.offset, i.size)) = [(0, 1), (1, 1)].map some := by kernel_rfl
theorem pl85 : ((match Tryz.prog.underlying 85 with | some (.struct f) => f | _ => #[]) : Array Field).toList.map (fun f => (Tryz.prog.info? f.type).map fun i => (f.offset, i.size)) = [(0, 1), (1, 1), (2, 1), (3, 2), (5, 1), (6, 2), (8, 1), (9, 1), (10, 1), (11, 1), (12, 1), (13, 2)].map some := by kernel_rfl
theorem sl110 : SlT Tryz.prog 110 5 1 1 := SlT.mk' (z := (.int .u8 0)) (by kernel_rfl) (by kernel_rfl) rfl (by decide) (by decide)
theorem sl121 : SlT Tryz.prog 121 122 2 16 := SlT.mk' (z := (.agg #[.int .i64 0, .int .i64 0])) (by kernel_rfl) (by kernel_rfl) rfl (by decide) (by decide)
theorem sl136 : SlT Tryz.prog 136 138 4 64 := SlT.mk' (z := (.agg #[.int .i64 0, .slice none 0 0, .bool false, .slice none 0 0])) (by kernel_rfl) (by kernel_rfl) rfl (by decide) (by decide)
theorem sl158 : SlT Tryz.prog 158 157 2 24 := SlT.mk' (z := (.agg #[.string ⟨#[]⟩, .int .i64 0])) (by kernel_rfl) (by kernel_rfl) rfl (by decide) (by decide)
theorem sl181 : SlT Tryz.prog 181 152 12 104 := SlT.mk' (z := (.agg #[.int .i64 0, .string ⟨#[]⟩, .int .i64 0, .int .i64 0, .int .i64 0, .int .i64 0, .int .i64 0, .int .i64 0, .int .i64 0, .int .i64 0, .int .i64 0, .int .i64 0])) (by kernel_rfl) (by kernel_rfl) rfl (by decide) (by decide)
theorem sl22 : SlT Tryz.prog 22 3 1 8 := SlT.mk' (z := (.int .i64 0)) (by kernel_rfl) (by kernel_rfl) rfl (by decide) (by decide)
theorem sl25 : SlT Tryz.prog 25 37 9 144 := SlT.mk' (z := (.agg #[.string ⟨#[]⟩, .int .i64 0, .int .i64 0, .slice none 0 0, .bool false, .slice none 0 0, .slice none 0 0, .slice none 0 0, .bool false])) (by kernel_rfl) (by kernel_rfl) rfl (by decide) (by decide)
theorem sl26 : SlT Tryz.prog 26 34 2 16 := SlT.mk' (z := (.agg #[.int .i64 0, .int .i64 0])) (by kernel_rfl) (by kernel_rfl) rfl (by decide) (by decide)
theorem sl27 : SlT Tryz.prog 27 77 5 64 := SlT.mk' (z := (.agg #[.string ⟨#[]⟩, .int .i64 0, .int .i64 0, .slice none 0 0, .int .i64 0])) (by kernel_rfl) (by kernel_rfl) rfl (by decide) (by decide)
theorem sl35 : SlT Tryz.prog 35 42 4 48 := SlT.mk' (z := (.agg #[.int .i64 0, .int .i64 0, .int .i64 0, .slice none 0 0])) (by kernel_rfl) (by kernel_rfl) rfl (by decide) (by decide)
theorem sl40 : SlT Tryz.prog 40 85 15 152 := SlT.mk' (z := (.agg #[.int .i64 0, .string ⟨#[]⟩, .string ⟨#[]⟩, .int .i64 0, .int .i64 0, .int .i64 0, .int .i64 0, .int .i64 0, .int .i64 0, .int .i64 0, .bool false, .int .i64 0, .slice none 0 0, .int .i64 0, .int .i64 0])) (by kernel_rfl) (by kernel_rfl) rfl (by decide) (by decide)
theorem sl47 : SlT Tryz.prog 47 44 8 80 := SlT.mk' (z := (.agg #[.int .i64 0, .int .i64 0, .int .i64 0, .int .i64 0, .int .i64 0, .int .i64 0, .int .i64 0, .slice none 0 0])) (by kernel_rfl) (by kernel_rfl) rfl (by decide) (by decide)
theorem sl48 : SlT Tryz.prog 48 53 2 16 := SlT.mk' (z := (.agg #[.int .i64 0, .int .i64 0])) (by kernel_rfl) (by kernel_rfl) rfl (by decide) (by decide)
theorem sl71 : SlT Tryz.prog 71 9 1 16 := SlT.mk' (z := (.string ⟨#[]⟩)) (by kernel_rfl) (by kernel_rfl) rfl (by decide) (by decide)
theorem sl74 : SlT Tryz.prog 74 22 1 24 := SlT.mk' (z := (.slice none 0 0)) (by kernel_rfl) (by kernel_rfl) rfl (by decide) (by decide)
theorem sl75 : SlT Tryz.prog 75 107 3 24 := SlT.mk' (z := (.agg #[.int .i64 0, .int .i64 0, .int .i64 0])) (by kernel_rfl) (by kernel_rfl) rfl (by decide) (by decide)
theorem sl99 : SlT Tryz.prog 99 39 2 16 := SlT.mk' (z := (.agg #[.int .i64 0, .int .i64 0])) (by kernel_rfl) (by kernel_rfl) rfl (by decide) (by decide)
theorem ty107 : Ty Tryz.prog 107 true 3 := ⟨by kernel_rfl, by kernel_rfl⟩
theorem ty110 : Ty Tryz.prog 110 false 1 := ⟨by kernel_rfl, by kernel_rfl⟩
theorem ty122 : Ty Tryz.prog 122 true 2 := ⟨by kernel_rfl, by kernel_rfl⟩
theorem ty136 : Ty Tryz.prog 136 false 1 := ⟨by kernel_rfl, by kernel_rfl⟩
theorem ty138 : Ty Tryz.prog 138 true 4 := ⟨by kernel_rfl, by kernel_rfl⟩
theorem ty152 : Ty Tryz.prog 152 true 12 := ⟨by kernel_rfl, by kernel_rfl⟩
theorem ty189 : Ty Tryz.prog 189 true 5 := ⟨by kernel_rfl, by kernel_rfl⟩
theorem ty201 : Ty Tryz.prog 201 true 115 := ⟨by kernel_rfl, by kernel_rfl⟩
theorem ty205 : Ty Tryz.prog 205 true 2 := ⟨by kernel_rfl, by kernel_rfl⟩
theorem ty22 : Ty Tryz.prog 22 false 1 := ⟨by kernel_rfl, by kernel_rfl⟩
theorem ty25 : Ty Tryz.prog 25 false 1 := ⟨by kernel_rfl, by kernel_rfl⟩
theorem ty26 : Ty Tryz.prog 26 false 1 := ⟨by kernel_rfl, by kernel_rfl⟩
theorem ty27 : Ty Tryz.prog 27 false 1 := ⟨by kernel_rfl, by kernel_rfl⟩
theorem ty29 : Ty Tryz.prog 29 true 3 := ⟨by kernel_rfl, by kernel_rfl⟩
theorem ty3 : Ty Tryz.prog 3 false 1 := ⟨by kernel_rfl, by kernel_rfl⟩
theorem ty34 : Ty Tryz.prog 34 true 2 := ⟨by kernel_rfl, by kernel_rfl⟩
theorem ty35 : Ty Tryz.prog 35 false 1 := ⟨by kernel_rfl, by kernel_rfl⟩
theorem ty37 : Ty Tryz.prog 37 true 9 := ⟨by kernel_rfl, by kernel_rfl⟩
theorem ty39 : Ty Tryz.prog 39 true 2 := ⟨by kernel_rfl, by kernel_rfl⟩
theorem ty4 : Ty Tryz.prog 4 false 1 := ⟨by kernel_rfl, by kernel_rfl⟩
theorem ty40 : Ty Tryz.prog 40 false 1 := ⟨by kernel_rfl, by kernel_rfl⟩
theorem ty42 : Ty Tryz.prog 42 true 4 := ⟨by kernel_rfl, by kernel_rfl⟩
theorem ty44 : Ty Tryz.prog 44 true 8 := ⟨by kernel_rfl, by kernel_rfl⟩
theorem ty5 : Ty Tryz.prog 5 false 1 := ⟨by kernel_rfl, by kernel_rfl⟩
theorem ty53 : Ty Tryz.prog 53 true 2 := ⟨by kernel_rfl, by kernel_rfl⟩
theorem ty59 : Ty Tryz.prog 59 false 1 := ⟨by kernel_rfl, by kernel_rfl⟩
theorem ty71 : Ty Tryz.prog 71 false 1 := ⟨by kernel_rfl, by kernel_rfl⟩
theorem ty75 : Ty Tryz.prog 75 false 1 := ⟨by kernel_rfl, by kernel_rfl⟩
theorem ty77 : Ty Tryz.prog 77 true 5 := ⟨by kernel_rfl, by kernel_rfl⟩
theorem ty83 : Ty Tryz.prog 83 true 2 := ⟨by kernel_rfl, by kernel_rfl⟩
theorem ty85 : Ty Tryz.prog 85 true 15 := ⟨by kernel_rfl, by kernel_rfl⟩
theorem ty9 : Ty Tryz.prog 9 false 1 := ⟨by kernel_rfl, by kernel_rfl⟩
theorem z107 : Zt Tryz.prog 107 [.int .i64 0, .int .i64 0, .int .i64 0] := ⟨(.agg #[.int .i64 0, .int .i64 0, .int .i64 0]), by kernel_rfl, rfl, by decide⟩
theorem z122 : Zt Tryz.prog 122 [.int .i64 0, .int .i64 0] := ⟨(.agg #[.int .i64 0, .int .i64 0]), by kernel_rfl, rfl, by decide⟩
theorem z138 : Zt Tryz.prog 138 [.int .i64 0, .slice none 0 0, .bool false, .slice none 0 0] := ⟨(.agg #[.int .i64 0, .slice none 0 0, .bool false, .slice none 0 0]), by kernel_rfl, rfl, by decide⟩
theorem z152 : Zt Tryz.prog 152 [.int .i64 0, .string ⟨#[]⟩, .int .i64 0, .int .i64 0, .int .i64 0, .int .i64 0, .int .i64 0, .int .i64 0, .int .i64 0, .int .i64 0, .int .i64 0, .int .i64 0] := ⟨(.agg #[.int .i64 0, .string ⟨#[]⟩, .int .i64 0, .int .i64 0, .int .i64 0, .int .i64 0, .int .i64 0, .int .i64 0, .int .i64 0, .int .i64 0, .int .i64 0, .int .i64 0]), by kernel_rfl, rfl, by decide⟩
theorem z157 : Zt Tryz.prog 157 [.string ⟨#[]⟩, .int .i64 0] := ⟨(.agg #[.string ⟨#[]⟩, .int .i64 0]), by kernel_rfl, rfl, by decide⟩
theorem z189 : Zt Tryz.prog 189 [.string ⟨#[]⟩, .int .i64 0, .int .i64 0, .slice none 0 0, .slice none 0 0] := ⟨(.agg #[.string ⟨#[]⟩, .int .i64 0, .int .i64 0, .slice none 0 0, .slice none 0 0]), by kernel_rfl, rfl, by decide⟩
theorem z201 : Zt Tryz.prog 201 [.string ⟨#[]⟩, .int .i64 0, .int .i64 0, .slice none 0 0, .slice none 0 0, .string ⟨#[]⟩, .int .i64 0, .int .i64 0, .slice none 0 0, .slice none 0 0, .string ⟨#[]⟩, .int .i64 0, .int .i64 0, .slice none 0 0, .slice none 0 0, .string ⟨#[]⟩, .int .i64 0, .int .i64 0, .slice none 0 0, .slice none 0 0, .string ⟨#[]⟩, .int .i64 0, .int .i64 0, .slice none 0 0, .slice none 0 0, .string ⟨#[]⟩, .int .i64 0, .int .i64 0, .slice none 0 0, .slice none 0 0, .string ⟨#[]⟩, .int .i64 0, .int .i64 0, .slice none 0 0, .slice none 0 0, .string ⟨#[]⟩, .int .i64 0, .int .i64 0, .slice none 0 0, .slice none 0 0, .string ⟨#[]⟩, .int .i64 0, .int .i64 0, .slice none 0 0, .slice none 0 0, .string ⟨#[]⟩, .int .i64 0, .int .i64 0, .slice none 0 0, .slice none 0 0, .string ⟨#[]⟩, .int .i64 0, .int .i64 0, .slice none 0 0, .slice none 0 0, .string ⟨#[]⟩, .int .i64 0, .int .i64 0, .slice none 0 0, .slice none 0 0, .string ⟨#[]⟩, .int .i64 0, .int .i64 0, .slice none 0 0, .slice none 0 0, .string ⟨#[]⟩, .int .i64 0, .int .i64 0, .slice none 0 0, .slice none 0 0, .string ⟨#[]⟩, .int .i64 0, .int .i64 0, .slice none 0 0, .slice none 0 0, .string ⟨#[]⟩, .int .i64 0, .int .i64 0, .slice none 0 0, .slice none 0 0, .string ⟨#[]⟩, .int .i64 0, .int .i64 0, .slice none 0 0, .slice none 0 0, .string ⟨#[]⟩, .int .i64 0, .int .i64 0, .slice none 0 0, .slice none 0 0, .string ⟨#[]⟩, .int .i64 0, .int .i64 0, .slice none 0 0, .slice none 0 0, .string ⟨#[]⟩, .int .i64 0, .int .i64 0, .slice none 0 0, .slice none 0 0, .string ⟨#[]⟩, .int .i64 0, .int .i64 0, .slice none 0 0, .slice none 0 0, .string ⟨#[]⟩, .int .i64 0, .int .i64 0, .slice none 0 0, .slice none 0 0, .string ⟨#[]⟩, .int .i64 0, .int .i64 0, .slice none 0 0, .slice none 0 0] := ⟨(.agg #[.string ⟨#[]⟩, .int .i64 0, .int .i64 0, .slice none 0 0, .slice none 0 0, .string ⟨#[]⟩, .int .i64 0, .int .i64 0, .slice none 0 0, .slice none 0 0, .string ⟨#[]⟩, .int .i64 0, .int .i64 0, .slice none 0 0, .slice none 0 0, .string ⟨#[]⟩, .int .i64 0, .int .i64 0, .slice none 0 0, .slice none 0 0, .string ⟨#[]⟩, .int .i64 0, .int .i64 0, .slice none 0 0, .slice none 0 0, .string ⟨#[]⟩, .int .i64 0, .int .i64 0, .slice none 0 0, .slice none 0 0, .string ⟨#[]⟩, .int .i64 0, .int .i64 0, .slice none 0 0, .slice none 0 0, .string ⟨#[]⟩, .int .i64 0, .int .i64 0, .slice none 0 0, .slice none 0 0, .string ⟨#[]⟩, .int .i64 0, .int .i64 0, .slice none 0 0, .slice none 0 0, .string ⟨#[]⟩, .int .i64 0, .int .i64 0, .slice none 0 0, .slice none 0 0, .string ⟨#[]⟩, .int .i64 0, .int .i64 0, .slice none 0 0, .slice none 0 0, .string ⟨#[]⟩, .int .i64 0, .int .i64 0, .slice none 0 0, .slice none 0 0, .string ⟨#[]⟩, .int .i64 0, .int .i64 0, .slice none 0 0, .slice none 0 0, .string ⟨#[]⟩, .int .i64 0, .int .i64 0, .slice none 0 0, .slice none 0 0, .string ⟨#[]⟩, .int .i64 0, .int .i64 0, .slice none 0 0, .slice none 0 0, .string ⟨#[]⟩, .int .i64 0, .int .i64 0, .slice none 0 0, .slice none 0 0, .string ⟨#[]⟩, .int .i64 0, .int .i64 0, .slice none 0 0, .slice none 0 0, .string ⟨#[]⟩, .int .i64 0, .int .i64 0, .slice none 0 0, .slice none 0 0, .string ⟨#[]⟩, .int .i64 0, .int .i64 0, .slice none 0 0, .slice none 0 0, .string ⟨#[]⟩, .int .i64 0, .int .i64 0, .slice none 0 0, .slice none 0 0, .string ⟨#[]⟩, .int .i64 0, .int .i64 0, .slice none 0 0, .slice none 0 0, .string ⟨#[]⟩, .int .i64 0, .int .i64 0, .slice none 0 0, .slice none 0 0, .string ⟨#[]⟩, .int .i64 0, .int .i64 0, .slice none 0 0, .slice none 0 0]), by kernel_rfl, rfl, by decide⟩
theorem z205 : Zt Tryz.prog 205 [.int .i64 0, .int .i64 0] := ⟨(.agg #[.int .i64 0, .int .i64 0]), by kernel_rfl, rfl, by decide⟩
theorem z206 : Zt Tryz.prog 206 [.int .i64 0, .int .i64 0, .int .i64 0, .int .i64 0, .int .i64 0, .int .i64 0, .int .i64 0, .int .i64 0, .int .i64 0, .int .i64 0] := ⟨(.agg #[.int .i64 0, .int .i64 0, .int .i64 0, .int .i64 0, .int .i64 0, .int .i64 0, .int .i64 0, .int .i64 0, .int .i64 0, .int .i64 0]), by kernel_rfl, rfl, by decide⟩
theorem z22 : Zt Tryz.prog 22 [.slice none 0 0] := ⟨(.slice none 0 0), by kernel_rfl, rfl, by decide⟩
theorem z29 : Zt Tryz.prog 29 [.slice none 0 0, .slice none 0 0, .slice none 0 0] := ⟨(.agg #[.slice none 0 0, .slice none 0 0, .slice none 0 0]), by kernel_rfl, rfl, by decide⟩
theorem z3 : Zt Tryz.prog 3 [.int .i64 0] := ⟨(.int .i64 0), by kernel_rfl, rfl, by decide⟩
theorem z34 : Zt Tryz.prog 34 [.int .i64 0, .int .i64 0] := ⟨(.agg #[.int .i64 0, .int .i64 0]), by kernel_rfl, rfl, by decide⟩
theorem z37 : Zt Tryz.prog 37 [.string ⟨#[]⟩, .int .i64 0, .int .i64 0, .slice none 0 0, .bool false, .slice none 0 0, .slice none 0 0, .slice none 0 0, .bool false] := ⟨(.agg #[.string ⟨#[]⟩, .int .i64 0, .int .i64 0, .slice none 0 0, .bool false, .slice none 0 0, .slice none 0 0, .slice none 0 0, .bool false]), by kernel_rfl, rfl, by decide⟩
theorem z39 : Zt Tryz.prog 39 [.int .i64 0, .int .i64 0] := ⟨(.agg #[.int .i64 0, .int .i64 0]), by kernel_rfl, rfl, by decide⟩
theorem z42 : Zt Tryz.prog 42 [.int .i64 0, .int .i64 0, .int .i64 0, .slice none 0 0] := ⟨(.agg #[.int .i64 0, .int .i64 0, .int .i64 0, .slice none 0 0]), by kernel_rfl, rfl, by decide⟩
theorem z44 : Zt Tryz.prog 44 [.int .i64 0, .int .i64 0, .int .i64 0, .int .i64 0, .int .i64 0, .int .i64 0, .int .i64 0, .slice none 0 0] := ⟨(.agg #[.int .i64 0, .int .i64 0, .int .i64 0, .int .i64 0, .int .i64 0, .int .i64 0, .int .i64 0, .slice none 0 0]), by kernel_rfl, rfl, by decide⟩
theorem z5 : Zt Tryz.prog 5 [.int .u8 0] := ⟨(.int .u8 0), by kernel_rfl, rfl, by decide⟩
theorem z53 : Zt Tryz.prog 53 [.int .i64 0, .int .i64 0] := ⟨(.agg #[.int .i64 0, .int .i64 0]), by kernel_rfl, rfl, by decide⟩
theorem z77 : Zt Tryz.prog 77 [.string ⟨#[]⟩, .int .i64 0, .int .i64 0, .slice none 0 0, .int .i64 0] := ⟨(.agg #[.string ⟨#[]⟩, .int .i64 0, .int .i64 0, .slice none 0 0, .int .i64 0]), by kernel_rfl, rfl, by decide⟩
theorem z81 : Zt Tryz.prog 81 [.slice none 0 0, .int .i64 0] := ⟨(.agg #[.slice none 0 0, .int .i64 0]), by kernel_rfl, rfl, by decide⟩
theorem z83 : Zt Tryz.prog 83 [.int .i64 0, .int .i64 0] := ⟨(.agg #[.int .i64 0, .int .i64 0]), by kernel_rfl, rfl, by decide⟩
theorem z85 : Zt Tryz.prog 85 [.int .i64 0, .string ⟨#[]⟩, .string ⟨#[]⟩, .int .i64 0, .int .i64 0, .int .i64 0, .int .i64 0, .int .i64 0, .int .i64 0, .int .i64 0, .bool false, .int .i64 0, .slice none 0 0, .int .i64 0, .int .i64 0] := ⟨(.agg #[.int .i64 0, .string ⟨#[]⟩, .string ⟨#[]⟩, .int .i64 0, .int .i64 0, .int .i64 0, .int .i64 0, .int .i64 0, .int .i64 0, .int .i64 0, .bool false, .int .i64 0, .slice none 0 0, .int .i64 0, .int .i64 0]), by kernel_rfl, rfl, by decide⟩
theorem z9 : Zt Tryz.prog 9 [.string ⟨#[]⟩] := ⟨(.string ⟨#[]⟩), by kernel_rfl, rfl, by decide⟩
theorem ck107 : cellK Tryz.prog 20 107 = [none, none, none] := by kernel_rfl
theorem ck122 : cellK Tryz.prog 20 122 = [none, none] := by kernel_rfl
theorem ck138 : cellK Tryz.prog 20 138 = [none, some 1, none, some 4] := by kernel_rfl
theorem ck152 : cellK Tryz.prog 20 152 = [none, none, none, none, none, none, none, none, none, none, none, none] := by kernel_rfl
theorem ck157 : cellK Tryz.prog 20 157 = [none, none] := by kernel_rfl
theorem ck22 : cellK Tryz.prog 20 22 = [some 1] := by kernel_rfl
theorem ck3 : cellK Tryz.prog 20 3 = [none] := by kernel_rfl
theorem ck34 : cellK Tryz.prog 20 34 = [none, none] := by kernel_rfl
theorem ck37 : cellK Tryz.prog 20 37 = [none, none, none, some 1, none, some 4, some 1, some 1, none] := by kernel_rfl
theorem ck39 : cellK Tryz.prog 20 39 = [none, none] := by kernel_rfl
theorem ck42 : cellK Tryz.prog 20 42 = [none, none, none, some 15] := by kernel_rfl
theorem ck44 : cellK Tryz.prog 20 44 = [none, none, none, none, none, none, none, some 15] := by kernel_rfl
theorem ck5 : cellK Tryz.prog 20 5 = [none] := by kernel_rfl
theorem ck53 : cellK Tryz.prog 20 53 = [none, none] := by kernel_rfl
theorem ck77 : cellK Tryz.prog 20 77 = [none, none, none, some 3, none] := by kernel_rfl
theorem ck85 : cellK Tryz.prog 20 85 = [none, none, none, none, none, none, none, none, none, none, none, none, some 1, none, none] := by kernel_rfl
theorem ck9 : cellK Tryz.prog 20 9 = [none] := by kernel_rfl
theorem x164 (s : ByteArray) (c : UInt8) (w : World) : (callFunc 164 [.string s, .int .u8 (c.toNat : Int)].toArray).run Tryz.prog w = .ok (.value (.int .i64 (idxB s c))) w := run_idxB Tryz.func164 rfl rfl (by kernel_rfl) (by kernel_rfl) s c w
theorem eg122 : Tryz.prog.eqGuardType Tryz.prog.depth 122 = false := by kernel_rfl
theorem sf122 : Tryz.prog.underlying 122 = some (.struct (Tryz.prog.fieldsOf 122)) := by kernel_rfl
theorem sh122 : Tryz.prog.stoodInHeld 122 = false := by kernel_rfl
theorem se122 (x y : need_required) (w : World) : (Op.equalIn 10000 122 (.agg #[.int .i64 x.First, .int .i64 x.Then]) (.agg #[.int .i64 y.First, .int .i64 y.Then])).run Tryz.prog w = .ok (decide (x = y)) w := by
 have u3 := Tryz.underlying3
 have a3 := Tryz.isAgg3
 have z3 := Tryz.sizeOf3
 rw [show (10000 : Nat) = 9999 + 1 from rfl, run_equalIn_agg w 9999 122 _ _ sf122 sh122]
 simp only [Program.fieldsOf, Tryz.underlying122]
 go_simp
 rcases x with ⟨x0, x1⟩
 rcases y with ⟨y0, y1⟩
 by_cases h0 : x0 = y0 <;> by_cases h1 : x1 = y1 <;> simp [h0, h1]
theorem steq122_eql (x y : need_required) {X Y : Operand} {tk : Nat} {yt ty : TypeId} {b1 b2 : Option LB} : OpR Tryz.prog tk (.binOp .eql 122 X Y yt) ty [(.agg [.val (.int .i64 x.First), .val (.int .i64 x.Then)], b1), (.agg [.val (.int .i64 y.First), .val (.int .i64 y.Then)], b2)] [] (v0 (.val (.bool (decide (x = y))))) :=
 .binOpA rfl rfl (fun _ _ => rfl) (fun w => by
  rw [Sem.run_bind, run_eqGuard_agg w _ 122 X Y _ _ eg122]
  simp only [Result.andThen_ok, run_eql_struct]
  exact congrArg (fun r => Result.andThen r _) (se122 x y w))
theorem steq122_neq (x y : need_required) {X Y : Operand} {tk : Nat} {yt ty : TypeId} {b1 b2 : Option LB} : OpR Tryz.prog tk (.binOp .neq 122 X Y yt) ty [(.agg [.val (.int .i64 x.First), .val (.int .i64 x.Then)], b1), (.agg [.val (.int .i64 y.First), .val (.int .i64 y.Then)], b2)] [] (v0 (.val (.bool (!decide (x = y))))) :=
 .binOpA rfl rfl (fun _ _ => rfl) (fun w => by
  rw [Sem.run_bind, run_eqGuard_agg w _ 122 X Y _ _ eg122]
  simp only [Result.andThen_ok, run_neq_struct]
  exact congrArg (fun r => Result.andThen r _) (se122 x y w))
theorem eg34 : Tryz.prog.eqGuardType Tryz.prog.depth 34 = false := by kernel_rfl
theorem sf34 : Tryz.prog.underlying 34 = some (.struct (Tryz.prog.fieldsOf 34)) := by kernel_rfl
theorem sh34 : Tryz.prog.stoodInHeld 34 = false := by kernel_rfl
theorem se34 (x y : api_Edge) (w : World) : (Op.equalIn 10000 34 (.agg #[.int .i64 x.Client, .int .i64 x.Server]) (.agg #[.int .i64 y.Client, .int .i64 y.Server])).run Tryz.prog w = .ok (decide (x = y)) w := by
 have u3 := Tryz.underlying3
 have a3 := Tryz.isAgg3
 have z3 := Tryz.sizeOf3
 rw [show (10000 : Nat) = 9999 + 1 from rfl, run_equalIn_agg w 9999 34 _ _ sf34 sh34]
 simp only [Program.fieldsOf, Tryz.underlying34]
 go_simp
 rcases x with ⟨x0, x1⟩
 rcases y with ⟨y0, y1⟩
 by_cases h0 : x0 = y0 <;> by_cases h1 : x1 = y1 <;> simp [h0, h1]
theorem steq34_eql (x y : api_Edge) {X Y : Operand} {tk : Nat} {yt ty : TypeId} {b1 b2 : Option LB} : OpR Tryz.prog tk (.binOp .eql 34 X Y yt) ty [(.agg [.val (.int .i64 x.Client), .val (.int .i64 x.Server)], b1), (.agg [.val (.int .i64 y.Client), .val (.int .i64 y.Server)], b2)] [] (v0 (.val (.bool (decide (x = y))))) :=
 .binOpA rfl rfl (fun _ _ => rfl) (fun w => by
  rw [Sem.run_bind, run_eqGuard_agg w _ 34 X Y _ _ eg34]
  simp only [Result.andThen_ok, run_eql_struct]
  exact congrArg (fun r => Result.andThen r _) (se34 x y w))
theorem eg39 : Tryz.prog.eqGuardType Tryz.prog.depth 39 = false := by kernel_rfl
theorem sf39 : Tryz.prog.underlying 39 = some (.struct (Tryz.prog.fieldsOf 39)) := by kernel_rfl
theorem sh39 : Tryz.prog.stoodInHeld 39 = false := by kernel_rfl
theorem se39 (x y : api_Use) (w : World) : (Op.equalIn 10000 39 (.agg #[.int .i64 x.Alg, .int .i64 x.Bits]) (.agg #[.int .i64 y.Alg, .int .i64 y.Bits])).run Tryz.prog w = .ok (decide (x = y)) w := by
 have u3 := Tryz.underlying3
 have a3 := Tryz.isAgg3
 have z3 := Tryz.sizeOf3
 rw [show (10000 : Nat) = 9999 + 1 from rfl, run_equalIn_agg w 9999 39 _ _ sf39 sh39]
 simp only [Program.fieldsOf, Tryz.underlying39]
 go_simp
 rcases x with ⟨x0, x1⟩
 rcases y with ⟨y0, y1⟩
 by_cases h0 : x0 = y0 <;> by_cases h1 : x1 = y1 <;> simp [h0, h1]
theorem steq39_eql (x y : api_Use) {X Y : Operand} {tk : Nat} {yt ty : TypeId} {b1 b2 : Option LB} : OpR Tryz.prog tk (.binOp .eql 39 X Y yt) ty [(.agg [.val (.int .i64 x.Alg), .val (.int .i64 x.Bits)], b1), (.agg [.val (.int .i64 y.Alg), .val (.int .i64 y.Bits)], b2)] [] (v0 (.val (.bool (decide (x = y))))) :=
 .binOpA rfl rfl (fun _ _ => rfl) (fun w => by
  rw [Sem.run_bind, run_eqGuard_agg w _ 39 X Y _ _ eg39]
  simp only [Result.andThen_ok, run_eql_struct]
  exact congrArg (fun r => Result.andThen r _) (se39 x y w))
theorem eg53 : Tryz.prog.eqGuardType Tryz.prog.depth 53 = false := by kernel_rfl
theorem sf53 : Tryz.prog.underlying 53 = some (.struct (Tryz.prog.fieldsOf 53)) := by kernel_rfl
theorem sh53 : Tryz.prog.stoodInHeld 53 = false := by kernel_rfl
theorem se53 (x y : api_Required) (w : World) : (Op.equalIn 10000 53 (.agg #[.int .i64 x.First, .int .i64 x.Then]) (.agg #[.int .i64 y.First, .int .i64 y.Then])).run Tryz.prog w = .ok (decide (x = y)) w := by
 have u3 := Tryz.underlying3
 have a3 := Tryz.isAgg3
 have z3 := Tryz.sizeOf3
 rw [show (10000 : Nat) = 9999 + 1 from rfl, run_equalIn_agg w 9999 53 _ _ sf53 sh53]
 simp only [Program.fieldsOf, Tryz.underlying53]
 go_simp
 rcases x with ⟨x0, x1⟩
 rcases y with ⟨y0, y1⟩
 by_cases h0 : x0 = y0 <;> by_cases h1 : x1 = y1 <;> simp [h0, h1]
theorem steq53_eql (x y : api_Required) {X Y : Operand} {tk : Nat} {yt ty : TypeId} {b1 b2 : Option LB} : OpR Tryz.prog tk (.binOp .eql 53 X Y yt) ty [(.agg [.val (.int .i64 x.First), .val (.int .i64 x.Then)], b1), (.agg [.val (.int .i64 y.First), .val (.int .i64 y.Then)], b2)] [] (v0 (.val (.bool (decide (x = y))))) :=
 .binOpA rfl rfl (fun _ _ => rfl) (fun w => by
  rw [Sem.run_bind, run_eqGuard_agg w _ 53 X Y _ _ eg53]
  simp only [Result.andThen_ok, run_eql_struct]
  exact congrArg (fun r => Result.andThen r _) (se53 x y w))
theorem steq53_neq (x y : api_Required) {X Y : Operand} {tk : Nat} {yt ty : TypeId} {b1 b2 : Option LB} : OpR Tryz.prog tk (.binOp .neq 53 X Y yt) ty [(.agg [.val (.int .i64 x.First), .val (.int .i64 x.Then)], b1), (.agg [.val (.int .i64 y.First), .val (.int .i64 y.Then)], b2)] [] (v0 (.val (.bool (!decide (x = y))))) :=
 .binOpA rfl rfl (fun _ _ => rfl) (fun w => by
  rw [Sem.run_bind, run_eqGuard_agg w _ 53 X Y _ _ eg53]
  simp only [Result.andThen_ok, run_neq_struct]
  exact congrArg (fun r => Result.andThen r _) (se53 x y w))
theorem undm96 : Tryz.prog.underlying 96 = some (.map 53 4) := by kernel_rfl
abbrev vv53 (x : api_Required) : Value := .agg #[.int .i64 x.First, .int .i64 x.Then]
theorem zv4 (w : World) : (zeroValue 4).run Tryz.prog w = .ok (.bool false) w := zv_of (by kernel_rfl) w
theorem keyt53 : KeyT Tryz.prog 53 vv53 := keyA (by kernel_rfl) (fun x => ⟨_, rfl⟩) (fun e x w => chk_fields sf53 (by simp only [Program.fieldsOf, Tryz.underlying53]; intro f hf; simp at hf; rcases hf with rfl | rfl <;> exact ⟨by kernel_rfl, _, rfl⟩)) (fun x y w => se53 x y w) (fun x => by simp [Instr.sameBits])
instance : FdC Tryz.prog 107 0 0 39 := ⟨fd107_0⟩
instance : FdC Tryz.prog 107 1 2 3 := ⟨fd107_1⟩
instance : FdC Tryz.prog 122 0 0 3 := ⟨fd122_0⟩
instance : FdC Tryz.prog 122 1 1 3 := ⟨fd122_1⟩
instance : FdC Tryz.prog 138 0 0 3 := ⟨fd138_0⟩
instance : FdC Tryz.prog 138 1 1 110 := ⟨fd138_1⟩
instance : FdC Tryz.prog 138 2 2 4 := ⟨fd138_2⟩
instance : FdC Tryz.prog 138 3 3 136 := ⟨fd138_3⟩
instance : FdC Tryz.prog 152 0 0 3 := ⟨fd152_0⟩
instance : FdC Tryz.prog 157 1 1 3 := ⟨fd157_1⟩
instance : FdC Tryz.prog 189 1 1 3 := ⟨fd189_1⟩
instance : FdC Tryz.prog 189 2 2 3 := ⟨fd189_2⟩
instance : FdC Tryz.prog 189 3 3 22 := ⟨fd189_3⟩
instance : FdC Tryz.prog 189 4 4 22 := ⟨fd189_4⟩
instance : FdC Tryz.prog 29 0 0 25 := ⟨fd29_0⟩
instance : FdC Tryz.prog 29 1 1 26 := ⟨fd29_1⟩
instance : FdC Tryz.prog 29 2 2 27 := ⟨fd29_2⟩
instance : FdC Tryz.prog 34 0 0 3 := ⟨fd34_0⟩
instance : FdC Tryz.prog 34 1 1 3 := ⟨fd34_1⟩
instance : FdC Tryz.prog 37 0 0 9 := ⟨fd37_0⟩
instance : FdC Tryz.prog 37 1 1 3 := ⟨fd37_1⟩
instance : FdC Tryz.prog 37 2 2 3 := ⟨fd37_2⟩
instance : FdC Tryz.prog 37 3 3 22 := ⟨fd37_3⟩
instance : FdC Tryz.prog 37 5 5 35 := ⟨fd37_5⟩
instance : FdC Tryz.prog 37 6 6 22 := ⟨fd37_6⟩
instance : FdC Tryz.prog 37 7 7 22 := ⟨fd37_7⟩
instance : FdC Tryz.prog 39 0 0 3 := ⟨fd39_0⟩
instance : FdC Tryz.prog 39 1 1 3 := ⟨fd39_1⟩
instance : FdC Tryz.prog 42 0 0 39 := ⟨fd42_0⟩
instance : FdC Tryz.prog 42 1 2 3 := ⟨fd42_1⟩
instance : FdC Tryz.prog 42 2 3 40 := ⟨fd42_2⟩
instance : FdC Tryz.prog 44 0 0 3 := ⟨fd44_0⟩
instance : FdC Tryz.prog 44 1 1 3 := ⟨fd44_1⟩
instance : FdC Tryz.prog 44 2 2 3 := ⟨fd44_2⟩
instance : FdC Tryz.prog 53 0 0 3 := ⟨fd53_0⟩
instance : FdC Tryz.prog 53 1 1 3 := ⟨fd53_1⟩
instance : FdC Tryz.prog 77 0 0 9 := ⟨fd77_0⟩
instance : FdC Tryz.prog 77 1 1 3 := ⟨fd77_1⟩
instance : FdC Tryz.prog 77 2 2 3 := ⟨fd77_2⟩
instance : FdC Tryz.prog 77 3 3 75 := ⟨fd77_3⟩
instance : FdC Tryz.prog 77 4 4 3 := ⟨fd77_4⟩
instance : FdC Tryz.prog 81 0 0 22 := ⟨fd81_0⟩
instance : FdC Tryz.prog 81 1 1 3 := ⟨fd81_1⟩
instance : FdC Tryz.prog 83 0 0 3 := ⟨fd83_0⟩
instance : FdC Tryz.prog 83 1 1 3 := ⟨fd83_1⟩
instance : FdC Tryz.prog 85 0 0 3 := ⟨fd85_0⟩
instance : FdC Tryz.prog 85 1 1 9 := ⟨fd85_1⟩
instance : FdC Tryz.prog 85 10 12 71 := ⟨fd85_10⟩
instance : FdC Tryz.prog 85 11 13 83 := ⟨fd85_11⟩
instance : FdC Tryz.prog 85 2 2 9 := ⟨fd85_2⟩
instance : FdC Tryz.prog 85 3 3 39 := ⟨fd85_3⟩
instance : FdC Tryz.prog 85 4 5 3 := ⟨fd85_4⟩
instance : FdC Tryz.prog 85 5 6 39 := ⟨fd85_5⟩
instance : FdC Tryz.prog 85 6 8 3 := ⟨fd85_6⟩
instance : FdC Tryz.prog 85 7 9 3 := ⟨fd85_7⟩
instance : FdC Tryz.prog 85 8 10 4 := ⟨fd85_8⟩
instance : FdC Tryz.prog 85 9 11 3 := ⟨fd85_9⟩
instance : SlC Tryz.prog 110 5 1 1 := ⟨sl110⟩
instance : SlC Tryz.prog 121 122 2 16 := ⟨sl121⟩
instance : SlC Tryz.prog 136 138 4 64 := ⟨sl136⟩
instance : SlC Tryz.prog 158 157 2 24 := ⟨sl158⟩
instance : SlC Tryz.prog 181 152 12 104 := ⟨sl181⟩
instance : SlC Tryz.prog 22 3 1 8 := ⟨sl22⟩
instance : SlC Tryz.prog 25 37 9 144 := ⟨sl25⟩
instance : SlC Tryz.prog 26 34 2 16 := ⟨sl26⟩
instance : SlC Tryz.prog 27 77 5 64 := ⟨sl27⟩
instance : SlC Tryz.prog 35 42 4 48 := ⟨sl35⟩
instance : SlC Tryz.prog 40 85 15 152 := ⟨sl40⟩
instance : SlC Tryz.prog 47 44 8 80 := ⟨sl47⟩
instance : SlC Tryz.prog 48 53 2 16 := ⟨sl48⟩
instance : SlC Tryz.prog 71 9 1 16 := ⟨sl71⟩
instance : SlC Tryz.prog 74 22 1 24 := ⟨sl74⟩
instance : SlC Tryz.prog 75 107 3 24 := ⟨sl75⟩
instance : SlC Tryz.prog 99 39 2 16 := ⟨sl99⟩
instance : TyC Tryz.prog 107 true 3 := ⟨ty107⟩
instance : TyC Tryz.prog 110 false 1 := ⟨ty110⟩
instance : TyC Tryz.prog 122 true 2 := ⟨ty122⟩
instance : TyC Tryz.prog 136 false 1 := ⟨ty136⟩
instance : TyC Tryz.prog 138 true 4 := ⟨ty138⟩
instance : TyC Tryz.prog 152 true 12 := ⟨ty152⟩
instance : TyC Tryz.prog 189 true 5 := ⟨ty189⟩
instance : TyC Tryz.prog 201 true 115 := ⟨ty201⟩
instance : TyC Tryz.prog 205 true 2 := ⟨ty205⟩
instance : TyC Tryz.prog 22 false 1 := ⟨ty22⟩
instance : TyC Tryz.prog 25 false 1 := ⟨ty25⟩
instance : TyC Tryz.prog 26 false 1 := ⟨ty26⟩
instance : TyC Tryz.prog 27 false 1 := ⟨ty27⟩
instance : TyC Tryz.prog 29 true 3 := ⟨ty29⟩
instance : TyC Tryz.prog 3 false 1 := ⟨ty3⟩
instance : TyC Tryz.prog 34 true 2 := ⟨ty34⟩
instance : TyC Tryz.prog 35 false 1 := ⟨ty35⟩
instance : TyC Tryz.prog 37 true 9 := ⟨ty37⟩
instance : TyC Tryz.prog 39 true 2 := ⟨ty39⟩
instance : TyC Tryz.prog 4 false 1 := ⟨ty4⟩
instance : TyC Tryz.prog 40 false 1 := ⟨ty40⟩
instance : TyC Tryz.prog 42 true 4 := ⟨ty42⟩
instance : TyC Tryz.prog 44 true 8 := ⟨ty44⟩
instance : TyC Tryz.prog 5 false 1 := ⟨ty5⟩
instance : TyC Tryz.prog 53 true 2 := ⟨ty53⟩
instance : TyC Tryz.prog 59 false 1 := ⟨ty59⟩
instance : TyC Tryz.prog 71 false 1 := ⟨ty71⟩
instance : TyC Tryz.prog 75 false 1 := ⟨ty75⟩
instance : TyC Tryz.prog 77 true 5 := ⟨ty77⟩
instance : TyC Tryz.prog 83 true 2 := ⟨ty83⟩
instance : TyC Tryz.prog 85 true 15 := ⟨ty85⟩
instance : TyC Tryz.prog 9 false 1 := ⟨ty9⟩
instance : ZtC Tryz.prog 107 [.int .i64 0, .int .i64 0, .int .i64 0] := ⟨z107⟩
instance : ZtC Tryz.prog 122 [.int .i64 0, .int .i64 0] := ⟨z122⟩
instance : ZtC Tryz.prog 138 [.int .i64 0, .slice none 0 0, .bool false, .slice none 0 0] := ⟨z138⟩
instance : ZtC Tryz.prog 152 [.int .i64 0, .string ⟨#[]⟩, .int .i64 0, .int .i64 0, .int .i64 0, .int .i64 0, .int .i64 0, .int .i64 0, .int .i64 0, .int .i64 0, .int .i64 0, .int .i64 0] := ⟨z152⟩
instance : ZtC Tryz.prog 157 [.string ⟨#[]⟩, .int .i64 0] := ⟨z157⟩
instance : ZtC Tryz.prog 189 [.string ⟨#[]⟩, .int .i64 0, .int .i64 0, .slice none 0 0, .slice none 0 0] := ⟨z189⟩
instance : ZtC Tryz.prog 201 [.string ⟨#[]⟩, .int .i64 0, .int .i64 0, .slice none 0 0, .slice none 0 0, .string ⟨#[]⟩, .int .i64 0, .int .i64 0, .slice none 0 0, .slice none 0 0, .string ⟨#[]⟩, .int .i64 0, .int .i64 0, .slice none 0 0, .slice none 0 0, .string ⟨#[]⟩, .int .i64 0, .int .i64 0, .slice none 0 0, .slice none 0 0, .string ⟨#[]⟩, .int .i64 0, .int .i64 0, .slice none 0 0, .slice none 0 0, .string ⟨#[]⟩, .int .i64 0, .int .i64 0, .slice none 0 0, .slice none 0 0, .string ⟨#[]⟩, .int .i64 0, .int .i64 0, .slice none 0 0, .slice none 0 0, .string ⟨#[]⟩, .int .i64 0, .int .i64 0, .slice none 0 0, .slice none 0 0, .string ⟨#[]⟩, .int .i64 0, .int .i64 0, .slice none 0 0, .slice none 0 0, .string ⟨#[]⟩, .int .i64 0, .int .i64 0, .slice none 0 0, .slice none 0 0, .string ⟨#[]⟩, .int .i64 0, .int .i64 0, .slice none 0 0, .slice none 0 0, .string ⟨#[]⟩, .int .i64 0, .int .i64 0, .slice none 0 0, .slice none 0 0, .string ⟨#[]⟩, .int .i64 0, .int .i64 0, .slice none 0 0, .slice none 0 0, .string ⟨#[]⟩, .int .i64 0, .int .i64 0, .slice none 0 0, .slice none 0 0, .string ⟨#[]⟩, .int .i64 0, .int .i64 0, .slice none 0 0, .slice none 0 0, .string ⟨#[]⟩, .int .i64 0, .int .i64 0, .slice none 0 0, .slice none 0 0, .string ⟨#[]⟩, .int .i64 0, .int .i64 0, .slice none 0 0, .slice none 0 0, .string ⟨#[]⟩, .int .i64 0, .int .i64 0, .slice none 0 0, .slice none 0 0, .string ⟨#[]⟩, .int .i64 0, .int .i64 0, .slice none 0 0, .slice none 0 0, .string ⟨#[]⟩, .int .i64 0, .int .i64 0, .slice none 0 0, .slice none 0 0, .string ⟨#[]⟩, .int .i64 0, .int .i64 0, .slice none 0 0, .slice none 0 0, .string ⟨#[]⟩, .int .i64 0, .int .i64 0, .slice none 0 0, .slice none 0 0, .string ⟨#[]⟩, .int .i64 0, .int .i64 0, .slice none 0 0, .slice none 0 0] := ⟨z201⟩
instance : ZtC Tryz.prog 205 [.int .i64 0, .int .i64 0] := ⟨z205⟩
instance : ZtC Tryz.prog 206 [.int .i64 0, .int .i64 0, .int .i64 0, .int .i64 0, .int .i64 0, .int .i64 0, .int .i64 0, .int .i64 0, .int .i64 0, .int .i64 0] := ⟨z206⟩
instance : ZtC Tryz.prog 22 [.slice none 0 0] := ⟨z22⟩
instance : ZtC Tryz.prog 29 [.slice none 0 0, .slice none 0 0, .slice none 0 0] := ⟨z29⟩
instance : ZtC Tryz.prog 3 [.int .i64 0] := ⟨z3⟩
instance : ZtC Tryz.prog 34 [.int .i64 0, .int .i64 0] := ⟨z34⟩
instance : ZtC Tryz.prog 37 [.string ⟨#[]⟩, .int .i64 0, .int .i64 0, .slice none 0 0, .bool false, .slice none 0 0, .slice none 0 0, .slice none 0 0, .bool false] := ⟨z37⟩
instance : ZtC Tryz.prog 39 [.int .i64 0, .int .i64 0] := ⟨z39⟩
instance : ZtC Tryz.prog 42 [.int .i64 0, .int .i64 0, .int .i64 0, .slice none 0 0] := ⟨z42⟩
instance : ZtC Tryz.prog 44 [.int .i64 0, .int .i64 0, .int .i64 0, .int .i64 0, .int .i64 0, .int .i64 0, .int .i64 0, .slice none 0 0] := ⟨z44⟩
instance : ZtC Tryz.prog 5 [.int .u8 0] := ⟨z5⟩
instance : ZtC Tryz.prog 53 [.int .i64 0, .int .i64 0] := ⟨z53⟩
instance : ZtC Tryz.prog 77 [.string ⟨#[]⟩, .int .i64 0, .int .i64 0, .slice none 0 0, .int .i64 0] := ⟨z77⟩
instance : ZtC Tryz.prog 81 [.slice none 0 0, .int .i64 0] := ⟨z81⟩
instance : ZtC Tryz.prog 83 [.int .i64 0, .int .i64 0] := ⟨z83⟩
instance : ZtC Tryz.prog 85 [.int .i64 0, .string ⟨#[]⟩, .string ⟨#[]⟩, .int .i64 0, .int .i64 0, .int .i64 0, .int .i64 0, .int .i64 0, .int .i64 0, .int .i64 0, .bool false, .int .i64 0, .slice none 0 0, .int .i64 0, .int .i64 0] := ⟨z85⟩
instance : ZtC Tryz.prog 9 [.string ⟨#[]⟩] := ⟨z9⟩
instance : ElC cipherplanmake_Dice.enc 2 := ⟨cipherplanmake_Dice.enc_len⟩
instance : ElC api_Use.enc 2 := ⟨api_Use.enc_len⟩
instance : ElC api_Seal.enc 2 := ⟨api_Seal.enc_len⟩
instance : ElC api_Certificate.enc 15 := ⟨api_Certificate.enc_len⟩
instance : ElC api_Identity.enc 4 := ⟨api_Identity.enc_len⟩
instance : ElC api_Endpoint.enc 9 := ⟨api_Endpoint.enc_len⟩
instance : ElC api_Edge.enc 2 := ⟨api_Edge.enc_len⟩
instance : ElC api_Link.enc 3 := ⟨api_Link.enc_len⟩
instance : ElC api_Item.enc 5 := ⟨api_Item.enc_len⟩
instance : ElC api_Estate.enc 3 := ⟨api_Estate.enc_len⟩
instance : ElC api_Change.enc 8 := ⟨api_Change.enc_len⟩
instance : ElC api_Required.enc 2 := ⟨api_Required.enc_len⟩
instance : ElC need_required.enc 2 := ⟨need_required.enc_len⟩
instance : ElC cipherplanref02_row.enc 2 := ⟨cipherplanref02_row.enc_len⟩
instance : ElC api_Value.enc 4 := ⟨api_Value.enc_len⟩
instance : ElC api_Suite.enc 12 := ⟨api_Suite.enc_len⟩
instance : ElC catalog_row.enc 5 := ⟨catalog_row.enc_len⟩
end Go.Proofs.YtkpcbnnlefcebaaGreat
