/- Encodings; what is known of types. -/
import Derived.Test.YtmbhoimeiahbaaaGreatEM
import Derived.Test.YtmbhoimeiahbaaaGreatEK
import Derived.Test.YtmbhoimeiahbaaaGreatP1
import Derived.Test.YtmbhoimeiahbaaaGreatProg
set_option linter.unusedVariables false
set_option linter.unusedSimpArgs false
set_option maxRecDepth 100000
set_option maxHeartbeats 1600000
namespace Go.Proofs.YtmbhoimeiahbaaaGreat
open Go.RowKit
abbrev cipherplanmake_Dice.dv (x : cipherplanmake_Dice) : List DV := [.sl 1 (encL eI x.L), .val (.int .i64 x.At)]
def cipherplanmake_Dice.enc (x : cipherplanmake_Dice) : List C := [.sl 1 (encL eI x.L), .int .i64 x.At]
theorem cipherplanmake_Dice.enc_len (x : cipherplanmake_Dice) : (cipherplanmake_Dice.enc x).length = 2 := rfl
abbrev api_Rule.dv (x : api_Rule) : List DV := [.val (.bool x.Allow), .val (.int .i64 x.Alg), .val (.int .i64 x.Below), .val (.int .i64 x.Purpose), .val (.int .i64 x.From), .val (.int .i64 x.To)]
def api_Rule.enc (x : api_Rule) : List C := [.bool x.Allow, .int .i64 x.Alg, .int .i64 x.Below, .int .i64 x.Purpose, .int .i64 x.From, .int .i64 x.To]
theorem api_Rule.enc_len (x : api_Rule) : (api_Rule.enc x).length = 6 := rfl
abbrev api_Keep.dv (x : api_Keep) : List DV := [.val (.int .i64 x.Purpose), .val (.int .i64 x.Days)]
def api_Keep.enc (x : api_Keep) : List C := [.int .i64 x.Purpose, .int .i64 x.Days]
theorem api_Keep.enc_len (x : api_Keep) : (api_Keep.enc x).length = 2 := rfl
abbrev api_Policy.dv (x : api_Policy) : List DV := [.sl 6 (encL api_Rule.enc x.Rules), .sl 2 (encL api_Keep.enc x.Keeps)]
def api_Policy.enc (x : api_Policy) : List C := [.sl 6 (encL api_Rule.enc x.Rules), .sl 2 (encL api_Keep.enc x.Keeps)]
theorem api_Policy.enc_len (x : api_Policy) : (api_Policy.enc x).length = 2 := rfl
abbrev api_Owners.dv (x : api_Owners) : List DV := [.sl 1 (encL eI x.Keys), .val (.int .i64 x.Need)]
def api_Owners.enc (x : api_Owners) : List C := [.sl 1 (encL eI x.Keys), .int .i64 x.Need]
theorem api_Owners.enc_len (x : api_Owners) : (api_Owners.enc x).length = 2 := rfl
abbrev api_Use.dv (x : api_Use) : List DV := [.val (.int .i64 x.Alg), .val (.int .i64 x.Bits)]
def api_Use.enc (x : api_Use) : List C := [.int .i64 x.Alg, .int .i64 x.Bits]
theorem api_Use.enc_len (x : api_Use) : (api_Use.enc x).length = 2 := rfl
abbrev api_Span.dv (x : api_Span) : List DV := [.val (.int .i64 x.From), .val (.int .i64 x.To)]
def api_Span.enc (x : api_Span) : List C := [.int .i64 x.From, .int .i64 x.To]
theorem api_Span.enc_len (x : api_Span) : (api_Span.enc x).length = 2 := rfl
abbrev api_Seal.dv (x : api_Seal) : List DV := [.val (.int .i64 x.Key), .val (.int .i64 x.Sum)]
def api_Seal.enc (x : api_Seal) : List C := [.int .i64 x.Key, .int .i64 x.Sum]
theorem api_Seal.enc_len (x : api_Seal) : (api_Seal.enc x).length = 2 := rfl
abbrev api_Exception.dv (x : api_Exception) : List DV := [.val (.int .i64 x.Use.Alg), .val (.int .i64 x.Use.Bits), .val (.int .i64 x.Purpose), .val (.string x.Endpoint), .val (.int .i64 x.Days.From), .val (.int .i64 x.Days.To), .sl 2 (encL api_Seal.enc x.Seals)]
def api_Exception.enc (x : api_Exception) : List C := [.int .i64 x.Use.Alg, .int .i64 x.Use.Bits, .int .i64 x.Purpose, .str x.Endpoint, .int .i64 x.Days.From, .int .i64 x.Days.To, .sl 2 (encL api_Seal.enc x.Seals)]
theorem api_Exception.enc_len (x : api_Exception) : (api_Exception.enc x).length = 7 := rfl
mutual
def api_Value.enc : api_Value → List C
 | ⟨Tag, Bytes, Nested, Elements⟩ => [.int .i64 Tag, .sl 1 (encL e8 Bytes), .bool Nested, .sl 4 (api_Value.encs Elements)]
def api_Value.encs : List api_Value → List C
 | [] => []
 | x :: l => api_Value.enc x ++ api_Value.encs l
end
theorem api_Value.encs_eq : ∀ (l : List api_Value), api_Value.encs l = encL api_Value.enc l
 | [] => rfl
 | x :: l => by
  show api_Value.enc x ++ api_Value.encs l = api_Value.enc x ++ encL api_Value.enc l
  rw [api_Value.encs_eq l]
theorem api_Value.enc_eq (x : api_Value) : api_Value.enc x = [.int .i64 x.Tag, .sl 1 (encL e8 x.Bytes), .bool x.Nested, .sl 4 (encL api_Value.enc x.Elements)] := by
 cases x
 simp only [api_Value.enc, api_Value.encs_eq]
theorem api_Value.enc_len (x : api_Value) : (api_Value.enc x).length = 4 := by rw [api_Value.enc_eq]; rfl
abbrev api_Value.dv (x : api_Value) : List DV := [.val (.int .i64 x.Tag), .sl 1 (encL e8 x.Bytes), .val (.bool x.Nested), .sl 4 (encL api_Value.enc x.Elements)]
abbrev catalog_row.dv (x : catalog_row) : List DV := [.val (.string x.name), .val (.int .i64 x.kind), .val (.int .i64 x.way), .sl 1 (encL eI x.sizes), .sl 1 (encL eI x.strengths)]
def catalog_row.enc (x : catalog_row) : List C := [.str x.name, .int .i64 x.kind, .int .i64 x.way, .sl 1 (encL eI x.sizes), .sl 1 (encL eI x.strengths)]
theorem catalog_row.enc_len (x : catalog_row) : (catalog_row.enc x).length = 5 := rfl
theorem und3 : Tryz.prog.underlying 3 = some (.int .i64) := by kernel_rfl
theorem und4 : Tryz.prog.underlying 4 = some (.bool) := by kernel_rfl
theorem und5 : Tryz.prog.underlying 5 = some (.int .u8) := by kernel_rfl
theorem und9 : Tryz.prog.underlying 9 = some (.string) := by kernel_rfl
theorem und30 : Tryz.prog.underlying 30 = some (.struct ((match Tryz.prog.underlying 30 with | some (.struct f) => f | _ => #[]))) := by kernel_rfl
theorem und33 : Tryz.prog.underlying 33 = some (.struct ((match Tryz.prog.underlying 33 with | some (.struct f) => f | _ => #[]))) := by kernel_rfl
theorem und36 : Tryz.prog.underlying 36 = some (.struct ((match Tryz.prog.underlying 36 with | some (.struct f) => f | _ => #[]))) := by kernel_rfl
theorem und49 : Tryz.prog.underlying 49 = some (.struct ((match Tryz.prog.underlying 49 with | some (.struct f) => f | _ => #[]))) := by kernel_rfl
theorem und50 : Tryz.prog.underlying 50 = some (.slice 87) := by kernel_rfl
theorem und52 : Tryz.prog.underlying 52 = some (.struct ((match Tryz.prog.underlying 52 with | some (.struct f) => f | _ => #[]))) := by kernel_rfl
theorem und57 : Tryz.prog.underlying 57 = some (.struct ((match Tryz.prog.underlying 57 with | some (.struct f) => f | _ => #[]))) := by kernel_rfl
theorem und66 : Tryz.prog.underlying 66 = some (.struct ((match Tryz.prog.underlying 66 with | some (.struct f) => f | _ => #[]))) := by kernel_rfl
theorem und69 : Tryz.prog.underlying 69 = some (.struct ((match Tryz.prog.underlying 69 with | some (.struct f) => f | _ => #[]))) := by kernel_rfl
theorem und82 : Tryz.prog.underlying 82 = some (.slice 5) := by kernel_rfl
theorem und87 : Tryz.prog.underlying 87 = some (.struct ((match Tryz.prog.underlying 87 with | some (.struct f) => f | _ => #[]))) := by kernel_rfl
theorem und103 : Tryz.prog.underlying 103 = some (.struct ((match Tryz.prog.underlying 103 with | some (.struct f) => f | _ => #[]))) := by kernel_rfl
theorem und108 : Tryz.prog.underlying 108 = some (.int .u32) := by kernel_rfl
theorem und111 : Tryz.prog.underlying 111 = some (.int .u64) := by kernel_rfl
theorem und125 : Tryz.prog.underlying 125 = some (.int .u64) := by kernel_rfl
theorem und140 : Tryz.prog.underlying 140 = some (.struct ((match Tryz.prog.underlying 140 with | some (.struct f) => f | _ => #[]))) := by kernel_rfl
theorem und155 : Tryz.prog.underlying 155 = some (.array 23 140) := by kernel_rfl
theorem und157 : Tryz.prog.underlying 157 = some (.array 2 3) := by kernel_rfl
theorem und158 : Tryz.prog.underlying 158 = some (.array 5 157) := by kernel_rfl
theorem fd103_0 : Fd Tryz.prog 103 0 0 3 := ⟨_, (match Tryz.prog.underlying 103 with | some (.struct f) => f | _ => #[])[0]!, und103, by kernel_rfl, by kernel_rfl, by kernel_rfl⟩
theorem fd103_1 : Fd Tryz.prog 103 1 1 82 := ⟨_, (match Tryz.prog.underlying 103 with | some (.struct f) => f | _ => #[])[1]!, und103, by kernel_rfl, by kernel_rfl, by kernel_rfl⟩
theorem fd103_2 : Fd Tryz.prog 103 2 2 4 := ⟨_, (match Tryz.prog.underlying 103 with | some (.struct f) => f | _ => #[])[2]!, und103, by kernel_rfl, by kernel_rfl, by kernel_rfl⟩
theorem fd103_3 : Fd Tryz.prog 103 3 3 101 := ⟨_, (match Tryz.prog.underlying 103 with | some (.struct f) => f | _ => #[])[3]!, und103, by kernel_rfl, by kernel_rfl, by kernel_rfl⟩
theorem fd140_2 : Fd Tryz.prog 140 2 2 3 := ⟨_, (match Tryz.prog.underlying 140 with | some (.struct f) => f | _ => #[])[2]!, und140, by kernel_rfl, by kernel_rfl, by kernel_rfl⟩
theorem fd140_3 : Fd Tryz.prog 140 3 3 22 := ⟨_, (match Tryz.prog.underlying 140 with | some (.struct f) => f | _ => #[])[3]!, und140, by kernel_rfl, by kernel_rfl, by kernel_rfl⟩
theorem fd140_4 : Fd Tryz.prog 140 4 4 22 := ⟨_, (match Tryz.prog.underlying 140 with | some (.struct f) => f | _ => #[])[4]!, und140, by kernel_rfl, by kernel_rfl, by kernel_rfl⟩
theorem fd30_0 : Fd Tryz.prog 30 0 0 27 := ⟨_, (match Tryz.prog.underlying 30 with | some (.struct f) => f | _ => #[])[0]!, und30, by kernel_rfl, by kernel_rfl, by kernel_rfl⟩
theorem fd30_1 : Fd Tryz.prog 30 1 1 28 := ⟨_, (match Tryz.prog.underlying 30 with | some (.struct f) => f | _ => #[])[1]!, und30, by kernel_rfl, by kernel_rfl, by kernel_rfl⟩
theorem fd33_0 : Fd Tryz.prog 33 0 0 22 := ⟨_, (match Tryz.prog.underlying 33 with | some (.struct f) => f | _ => #[])[0]!, und33, by kernel_rfl, by kernel_rfl, by kernel_rfl⟩
theorem fd33_1 : Fd Tryz.prog 33 1 1 3 := ⟨_, (match Tryz.prog.underlying 33 with | some (.struct f) => f | _ => #[])[1]!, und33, by kernel_rfl, by kernel_rfl, by kernel_rfl⟩
theorem fd36_0 : Fd Tryz.prog 36 0 0 3 := ⟨_, (match Tryz.prog.underlying 36 with | some (.struct f) => f | _ => #[])[0]!, und36, by kernel_rfl, by kernel_rfl, by kernel_rfl⟩
theorem fd36_1 : Fd Tryz.prog 36 1 1 3 := ⟨_, (match Tryz.prog.underlying 36 with | some (.struct f) => f | _ => #[])[1]!, und36, by kernel_rfl, by kernel_rfl, by kernel_rfl⟩
theorem fd49_0 : Fd Tryz.prog 49 0 0 3 := ⟨_, (match Tryz.prog.underlying 49 with | some (.struct f) => f | _ => #[])[0]!, und49, by kernel_rfl, by kernel_rfl, by kernel_rfl⟩
theorem fd49_1 : Fd Tryz.prog 49 1 1 3 := ⟨_, (match Tryz.prog.underlying 49 with | some (.struct f) => f | _ => #[])[1]!, und49, by kernel_rfl, by kernel_rfl, by kernel_rfl⟩
theorem fd52_0 : Fd Tryz.prog 52 0 0 36 := ⟨_, (match Tryz.prog.underlying 52 with | some (.struct f) => f | _ => #[])[0]!, und52, by kernel_rfl, by kernel_rfl, by kernel_rfl⟩
theorem fd52_1 : Fd Tryz.prog 52 1 2 3 := ⟨_, (match Tryz.prog.underlying 52 with | some (.struct f) => f | _ => #[])[1]!, und52, by kernel_rfl, by kernel_rfl, by kernel_rfl⟩
theorem fd52_2 : Fd Tryz.prog 52 2 3 9 := ⟨_, (match Tryz.prog.underlying 52 with | some (.struct f) => f | _ => #[])[2]!, und52, by kernel_rfl, by kernel_rfl, by kernel_rfl⟩
theorem fd52_3 : Fd Tryz.prog 52 3 4 49 := ⟨_, (match Tryz.prog.underlying 52 with | some (.struct f) => f | _ => #[])[3]!, und52, by kernel_rfl, by kernel_rfl, by kernel_rfl⟩
theorem fd52_4 : Fd Tryz.prog 52 4 6 50 := ⟨_, (match Tryz.prog.underlying 52 with | some (.struct f) => f | _ => #[])[4]!, und52, by kernel_rfl, by kernel_rfl, by kernel_rfl⟩
theorem fd57_0 : Fd Tryz.prog 57 0 0 4 := ⟨_, (match Tryz.prog.underlying 57 with | some (.struct f) => f | _ => #[])[0]!, und57, by kernel_rfl, by kernel_rfl, by kernel_rfl⟩
theorem fd57_1 : Fd Tryz.prog 57 1 1 3 := ⟨_, (match Tryz.prog.underlying 57 with | some (.struct f) => f | _ => #[])[1]!, und57, by kernel_rfl, by kernel_rfl, by kernel_rfl⟩
theorem fd57_2 : Fd Tryz.prog 57 2 2 3 := ⟨_, (match Tryz.prog.underlying 57 with | some (.struct f) => f | _ => #[])[2]!, und57, by kernel_rfl, by kernel_rfl, by kernel_rfl⟩
theorem fd57_3 : Fd Tryz.prog 57 3 3 3 := ⟨_, (match Tryz.prog.underlying 57 with | some (.struct f) => f | _ => #[])[3]!, und57, by kernel_rfl, by kernel_rfl, by kernel_rfl⟩
theorem fd57_4 : Fd Tryz.prog 57 4 4 3 := ⟨_, (match Tryz.prog.underlying 57 with | some (.struct f) => f | _ => #[])[4]!, und57, by kernel_rfl, by kernel_rfl, by kernel_rfl⟩
theorem fd57_5 : Fd Tryz.prog 57 5 5 3 := ⟨_, (match Tryz.prog.underlying 57 with | some (.struct f) => f | _ => #[])[5]!, und57, by kernel_rfl, by kernel_rfl, by kernel_rfl⟩
theorem fd66_0 : Fd Tryz.prog 66 0 0 22 := ⟨_, (match Tryz.prog.underlying 66 with | some (.struct f) => f | _ => #[])[0]!, und66, by kernel_rfl, by kernel_rfl, by kernel_rfl⟩
theorem fd66_1 : Fd Tryz.prog 66 1 1 3 := ⟨_, (match Tryz.prog.underlying 66 with | some (.struct f) => f | _ => #[])[1]!, und66, by kernel_rfl, by kernel_rfl, by kernel_rfl⟩
theorem fd69_0 : Fd Tryz.prog 69 0 0 3 := ⟨_, (match Tryz.prog.underlying 69 with | some (.struct f) => f | _ => #[])[0]!, und69, by kernel_rfl, by kernel_rfl, by kernel_rfl⟩
theorem fd69_1 : Fd Tryz.prog 69 1 1 3 := ⟨_, (match Tryz.prog.underlying 69 with | some (.struct f) => f | _ => #[])[1]!, und69, by kernel_rfl, by kernel_rfl, by kernel_rfl⟩
theorem fd87_0 : Fd Tryz.prog 87 0 0 3 := ⟨_, (match Tryz.prog.underlying 87 with | some (.struct f) => f | _ => #[])[0]!, und87, by kernel_rfl, by kernel_rfl, by kernel_rfl⟩
theorem fd87_1 : Fd Tryz.prog 87 1 1 3 := ⟨_, (match Tryz.prog.underlying 87 with | some (.struct f) => f | _ => #[])[1]!, und87, by kernel_rfl, by kernel_rfl, by kernel_rfl⟩
theorem pl103 : ((match Tryz.prog.underlying 103 with | some (.struct f) => f | _ => #[]) : Array Field).toList.map (fun f => (Tryz.prog.info? f.type).map fun i => (f.offset, i.size)) = [(0, 1), (1, 1), (2, 1), (3, 1)].map some := by kernel_rfl
theorem pl140 : ((match Tryz.prog.underlying 140 with | some (.struct f) => f | _ => #[]) : Array Field).toList.map (fun f => (Tryz.prog.info? f.type).map fun i => (f.offset, i.size)) = [(0, 1), (1, 1), (2, 1), (3, 1), (4, 1)].map some := by kernel_rfl
theorem pl33 : ((match Tryz.prog.underlying 33 with | some (.struct f) => f | _ => #[]) : Array Field).toList.map (fun f => (Tryz.prog.info? f.type).map fun i => (f.offset, i.size)) = [(0, 1), (1, 1)].map some := by kernel_rfl
theorem pl36 : ((match Tryz.prog.underlying 36 with | some (.struct f) => f | _ => #[]) : Array Field).toList.map (fun f => (Tryz.prog.info? f.type).map fun i => (f.offset, i.size)) = [(0, 1), (1, 1)].map some := by kernel_rfl
theorem pl49 : ((match Tryz.prog.underlying 49 with | some (.struct f) => f | _ => #[]) : Array Field).toList.map (fun f => (Tryz.prog.info? f.type).map fun i => (f.offset, i.size)) = [(0, 1), (1, 1)].map some := by kernel_rfl
theorem pl52 : ((match Tryz.prog.underlying 52 with | some (.struct f) => f | _ => #[]) : Array Field).toList.map (fun f => (Tryz.prog.info? f.type).map fun i => (f.offset, i.size)) = [(0, 2), (2, 1), (3, 1), (4, 2), (6, 1)].map some := by kernel_rfl
theorem pl57 : ((match Tryz.prog.underlying 57 with | some (.struct f) => f | _ => #[]) : Array Field).toList.map (fun f => (Tryz.prog.info? f.type).map fun i => (f.offset, i.size)) = [(0, 1), (1, 1), (2, 1), (3, 1), (4, 1), (5, 1)].map some := by kernel_rfl
theorem pl66 : ((match Tryz.prog.underlying 66 with | some (.struct f) => f | _ => #[]) : Array Field).toList.map (fun f => (Tryz.prog.info? f.type).map fun i => (f.offset, i.size)) = [(0, 1), (1, 1)].map some := by kernel_rfl
theorem pl69 : ((match Tryz.prog.underlying 69 with | some (.struct f) => f | _ => #[]) : Array Field).toList.map (fun f => (Tryz.prog.info? f.type).map fun i => (f.offset, i.size)) = [(0, 1), (1, 1)].map some := by kernel_rfl
theorem pl87 : ((match Tryz.prog.underlying 87 with | some (.struct f) => f | _ => #[]) : Array Field).toList.map (fun f => (Tryz.prog.info? f.type).map fun i => (f.offset, i.size)) = [(0, 1), (1, 1)].map some := by kernel_rfl
theorem sl101 : SlT Tryz.prog 101 103 4 64 := SlT.mk' (z := (.agg #[.int .i64 0, .slice none 0 0, .bool false, .slice none 0 0])) (by kernel_rfl) (by kernel_rfl) rfl (by decide) (by decide)
theorem sl22 : SlT Tryz.prog 22 3 1 8 := SlT.mk' (z := (.int .i64 0)) (by kernel_rfl) (by kernel_rfl) rfl (by decide) (by decide)
theorem sl27 : SlT Tryz.prog 27 57 6 48 := SlT.mk' (z := (.agg #[.bool false, .int .i64 0, .int .i64 0, .int .i64 0, .int .i64 0, .int .i64 0])) (by kernel_rfl) (by kernel_rfl) rfl (by decide) (by decide)
theorem sl28 : SlT Tryz.prog 28 69 2 16 := SlT.mk' (z := (.agg #[.int .i64 0, .int .i64 0])) (by kernel_rfl) (by kernel_rfl) rfl (by decide) (by decide)
theorem sl38 : SlT Tryz.prog 38 52 7 80 := SlT.mk' (z := (.agg #[.int .i64 0, .int .i64 0, .int .i64 0, .string ⟨#[]⟩, .int .i64 0, .int .i64 0, .slice none 0 0])) (by kernel_rfl) (by kernel_rfl) rfl (by decide) (by decide)
theorem sl41 : SlT Tryz.prog 41 36 2 16 := SlT.mk' (z := (.agg #[.int .i64 0, .int .i64 0])) (by kernel_rfl) (by kernel_rfl) rfl (by decide) (by decide)
theorem sl42 : SlT Tryz.prog 42 9 1 16 := SlT.mk' (z := (.string ⟨#[]⟩)) (by kernel_rfl) (by kernel_rfl) rfl (by decide) (by decide)
theorem sl50 : SlT Tryz.prog 50 87 2 16 := SlT.mk' (z := (.agg #[.int .i64 0, .int .i64 0])) (by kernel_rfl) (by kernel_rfl) rfl (by decide) (by decide)
theorem sl82 : SlT Tryz.prog 82 5 1 1 := SlT.mk' (z := (.int .u8 0)) (by kernel_rfl) (by kernel_rfl) rfl (by decide) (by decide)
theorem ty101 : Ty Tryz.prog 101 false 1 := ⟨by kernel_rfl, by kernel_rfl⟩
theorem ty103 : Ty Tryz.prog 103 true 4 := ⟨by kernel_rfl, by kernel_rfl⟩
theorem ty140 : Ty Tryz.prog 140 true 5 := ⟨by kernel_rfl, by kernel_rfl⟩
theorem ty155 : Ty Tryz.prog 155 true 115 := ⟨by kernel_rfl, by kernel_rfl⟩
theorem ty157 : Ty Tryz.prog 157 true 2 := ⟨by kernel_rfl, by kernel_rfl⟩
theorem ty22 : Ty Tryz.prog 22 false 1 := ⟨by kernel_rfl, by kernel_rfl⟩
theorem ty27 : Ty Tryz.prog 27 false 1 := ⟨by kernel_rfl, by kernel_rfl⟩
theorem ty28 : Ty Tryz.prog 28 false 1 := ⟨by kernel_rfl, by kernel_rfl⟩
theorem ty3 : Ty Tryz.prog 3 false 1 := ⟨by kernel_rfl, by kernel_rfl⟩
theorem ty30 : Ty Tryz.prog 30 true 2 := ⟨by kernel_rfl, by kernel_rfl⟩
theorem ty33 : Ty Tryz.prog 33 true 2 := ⟨by kernel_rfl, by kernel_rfl⟩
theorem ty36 : Ty Tryz.prog 36 true 2 := ⟨by kernel_rfl, by kernel_rfl⟩
theorem ty4 : Ty Tryz.prog 4 false 1 := ⟨by kernel_rfl, by kernel_rfl⟩
theorem ty49 : Ty Tryz.prog 49 true 2 := ⟨by kernel_rfl, by kernel_rfl⟩
theorem ty5 : Ty Tryz.prog 5 false 1 := ⟨by kernel_rfl, by kernel_rfl⟩
theorem ty50 : Ty Tryz.prog 50 false 1 := ⟨by kernel_rfl, by kernel_rfl⟩
theorem ty52 : Ty Tryz.prog 52 true 7 := ⟨by kernel_rfl, by kernel_rfl⟩
theorem ty57 : Ty Tryz.prog 57 true 6 := ⟨by kernel_rfl, by kernel_rfl⟩
theorem ty69 : Ty Tryz.prog 69 true 2 := ⟨by kernel_rfl, by kernel_rfl⟩
theorem ty82 : Ty Tryz.prog 82 false 1 := ⟨by kernel_rfl, by kernel_rfl⟩
theorem ty87 : Ty Tryz.prog 87 true 2 := ⟨by kernel_rfl, by kernel_rfl⟩
theorem ty9 : Ty Tryz.prog 9 false 1 := ⟨by kernel_rfl, by kernel_rfl⟩
theorem z103 : Zt Tryz.prog 103 [.int .i64 0, .slice none 0 0, .bool false, .slice none 0 0] := ⟨(.agg #[.int .i64 0, .slice none 0 0, .bool false, .slice none 0 0]), by kernel_rfl, rfl, by decide⟩
theorem z140 : Zt Tryz.prog 140 [.string ⟨#[]⟩, .int .i64 0, .int .i64 0, .slice none 0 0, .slice none 0 0] := ⟨(.agg #[.string ⟨#[]⟩, .int .i64 0, .int .i64 0, .slice none 0 0, .slice none 0 0]), by kernel_rfl, rfl, by decide⟩
theorem z155 : Zt Tryz.prog 155 [.string ⟨#[]⟩, .int .i64 0, .int .i64 0, .slice none 0 0, .slice none 0 0, .string ⟨#[]⟩, .int .i64 0, .int .i64 0, .slice none 0 0, .slice none 0 0, .string ⟨#[]⟩, .int .i64 0, .int .i64 0, .slice none 0 0, .slice none 0 0, .string ⟨#[]⟩, .int .i64 0, .int .i64 0, .slice none 0 0, .slice none 0 0, .string ⟨#[]⟩, .int .i64 0, .int .i64 0, .slice none 0 0, .slice none 0 0, .string ⟨#[]⟩, .int .i64 0, .int .i64 0, .slice none 0 0, .slice none 0 0, .string ⟨#[]⟩, .int .i64 0, .int .i64 0, .slice none 0 0, .slice none 0 0, .string ⟨#[]⟩, .int .i64 0, .int .i64 0, .slice none 0 0, .slice none 0 0, .string ⟨#[]⟩, .int .i64 0, .int .i64 0, .slice none 0 0, .slice none 0 0, .string ⟨#[]⟩, .int .i64 0, .int .i64 0, .slice none 0 0, .slice none 0 0, .string ⟨#[]⟩, .int .i64 0, .int .i64 0, .slice none 0 0, .slice none 0 0, .string ⟨#[]⟩, .int .i64 0, .int .i64 0, .slice none 0 0, .slice none 0 0, .string ⟨#[]⟩, .int .i64 0, .int .i64 0, .slice none 0 0, .slice none 0 0, .string ⟨#[]⟩, .int .i64 0, .int .i64 0, .slice none 0 0, .slice none 0 0, .string ⟨#[]⟩, .int .i64 0, .int .i64 0, .slice none 0 0, .slice none 0 0, .string ⟨#[]⟩, .int .i64 0, .int .i64 0, .slice none 0 0, .slice none 0 0, .string ⟨#[]⟩, .int .i64 0, .int .i64 0, .slice none 0 0, .slice none 0 0, .string ⟨#[]⟩, .int .i64 0, .int .i64 0, .slice none 0 0, .slice none 0 0, .string ⟨#[]⟩, .int .i64 0, .int .i64 0, .slice none 0 0, .slice none 0 0, .string ⟨#[]⟩, .int .i64 0, .int .i64 0, .slice none 0 0, .slice none 0 0, .string ⟨#[]⟩, .int .i64 0, .int .i64 0, .slice none 0 0, .slice none 0 0, .string ⟨#[]⟩, .int .i64 0, .int .i64 0, .slice none 0 0, .slice none 0 0, .string ⟨#[]⟩, .int .i64 0, .int .i64 0, .slice none 0 0, .slice none 0 0] := ⟨(.agg #[.string ⟨#[]⟩, .int .i64 0, .int .i64 0, .slice none 0 0, .slice none 0 0, .string ⟨#[]⟩, .int .i64 0, .int .i64 0, .slice none 0 0, .slice none 0 0, .string ⟨#[]⟩, .int .i64 0, .int .i64 0, .slice none 0 0, .slice none 0 0, .string ⟨#[]⟩, .int .i64 0, .int .i64 0, .slice none 0 0, .slice none 0 0, .string ⟨#[]⟩, .int .i64 0, .int .i64 0, .slice none 0 0, .slice none 0 0, .string ⟨#[]⟩, .int .i64 0, .int .i64 0, .slice none 0 0, .slice none 0 0, .string ⟨#[]⟩, .int .i64 0, .int .i64 0, .slice none 0 0, .slice none 0 0, .string ⟨#[]⟩, .int .i64 0, .int .i64 0, .slice none 0 0, .slice none 0 0, .string ⟨#[]⟩, .int .i64 0, .int .i64 0, .slice none 0 0, .slice none 0 0, .string ⟨#[]⟩, .int .i64 0, .int .i64 0, .slice none 0 0, .slice none 0 0, .string ⟨#[]⟩, .int .i64 0, .int .i64 0, .slice none 0 0, .slice none 0 0, .string ⟨#[]⟩, .int .i64 0, .int .i64 0, .slice none 0 0, .slice none 0 0, .string ⟨#[]⟩, .int .i64 0, .int .i64 0, .slice none 0 0, .slice none 0 0, .string ⟨#[]⟩, .int .i64 0, .int .i64 0, .slice none 0 0, .slice none 0 0, .string ⟨#[]⟩, .int .i64 0, .int .i64 0, .slice none 0 0, .slice none 0 0, .string ⟨#[]⟩, .int .i64 0, .int .i64 0, .slice none 0 0, .slice none 0 0, .string ⟨#[]⟩, .int .i64 0, .int .i64 0, .slice none 0 0, .slice none 0 0, .string ⟨#[]⟩, .int .i64 0, .int .i64 0, .slice none 0 0, .slice none 0 0, .string ⟨#[]⟩, .int .i64 0, .int .i64 0, .slice none 0 0, .slice none 0 0, .string ⟨#[]⟩, .int .i64 0, .int .i64 0, .slice none 0 0, .slice none 0 0, .string ⟨#[]⟩, .int .i64 0, .int .i64 0, .slice none 0 0, .slice none 0 0, .string ⟨#[]⟩, .int .i64 0, .int .i64 0, .slice none 0 0, .slice none 0 0, .string ⟨#[]⟩, .int .i64 0, .int .i64 0, .slice none 0 0, .slice none 0 0]), by kernel_rfl, rfl, by decide⟩
theorem z157 : Zt Tryz.prog 157 [.int .i64 0, .int .i64 0] := ⟨(.agg #[.int .i64 0, .int .i64 0]), by kernel_rfl, rfl, by decide⟩
theorem z158 : Zt Tryz.prog 158 [.int .i64 0, .int .i64 0, .int .i64 0, .int .i64 0, .int .i64 0, .int .i64 0, .int .i64 0, .int .i64 0, .int .i64 0, .int .i64 0] := ⟨(.agg #[.int .i64 0, .int .i64 0, .int .i64 0, .int .i64 0, .int .i64 0, .int .i64 0, .int .i64 0, .int .i64 0, .int .i64 0, .int .i64 0]), by kernel_rfl, rfl, by decide⟩
theorem z3 : Zt Tryz.prog 3 [.int .i64 0] := ⟨(.int .i64 0), by kernel_rfl, rfl, by decide⟩
theorem z30 : Zt Tryz.prog 30 [.slice none 0 0, .slice none 0 0] := ⟨(.agg #[.slice none 0 0, .slice none 0 0]), by kernel_rfl, rfl, by decide⟩
theorem z33 : Zt Tryz.prog 33 [.slice none 0 0, .int .i64 0] := ⟨(.agg #[.slice none 0 0, .int .i64 0]), by kernel_rfl, rfl, by decide⟩
theorem z36 : Zt Tryz.prog 36 [.int .i64 0, .int .i64 0] := ⟨(.agg #[.int .i64 0, .int .i64 0]), by kernel_rfl, rfl, by decide⟩
theorem z49 : Zt Tryz.prog 49 [.int .i64 0, .int .i64 0] := ⟨(.agg #[.int .i64 0, .int .i64 0]), by kernel_rfl, rfl, by decide⟩
theorem z5 : Zt Tryz.prog 5 [.int .u8 0] := ⟨(.int .u8 0), by kernel_rfl, rfl, by decide⟩
theorem z52 : Zt Tryz.prog 52 [.int .i64 0, .int .i64 0, .int .i64 0, .string ⟨#[]⟩, .int .i64 0, .int .i64 0, .slice none 0 0] := ⟨(.agg #[.int .i64 0, .int .i64 0, .int .i64 0, .string ⟨#[]⟩, .int .i64 0, .int .i64 0, .slice none 0 0]), by kernel_rfl, rfl, by decide⟩
theorem z57 : Zt Tryz.prog 57 [.bool false, .int .i64 0, .int .i64 0, .int .i64 0, .int .i64 0, .int .i64 0] := ⟨(.agg #[.bool false, .int .i64 0, .int .i64 0, .int .i64 0, .int .i64 0, .int .i64 0]), by kernel_rfl, rfl, by decide⟩
theorem z66 : Zt Tryz.prog 66 [.slice none 0 0, .int .i64 0] := ⟨(.agg #[.slice none 0 0, .int .i64 0]), by kernel_rfl, rfl, by decide⟩
theorem z69 : Zt Tryz.prog 69 [.int .i64 0, .int .i64 0] := ⟨(.agg #[.int .i64 0, .int .i64 0]), by kernel_rfl, rfl, by decide⟩
theorem z87 : Zt Tryz.prog 87 [.int .i64 0, .int .i64 0] := ⟨(.agg #[.int .i64 0, .int .i64 0]), by kernel_rfl, rfl, by decide⟩
theorem z9 : Zt Tryz.prog 9 [.string ⟨#[]⟩] := ⟨(.string ⟨#[]⟩), by kernel_rfl, rfl, by decide⟩
theorem ck103 : cellK Tryz.prog 20 103 = [none, some 1, none, some 4] := by kernel_rfl
theorem ck3 : cellK Tryz.prog 20 3 = [none] := by kernel_rfl
theorem ck36 : cellK Tryz.prog 20 36 = [none, none] := by kernel_rfl
theorem ck5 : cellK Tryz.prog 20 5 = [none] := by kernel_rfl
theorem ck52 : cellK Tryz.prog 20 52 = [none, none, none, none, none, none, some 2] := by kernel_rfl
theorem ck57 : cellK Tryz.prog 20 57 = [none, none, none, none, none, none] := by kernel_rfl
theorem ck69 : cellK Tryz.prog 20 69 = [none, none] := by kernel_rfl
theorem ck87 : cellK Tryz.prog 20 87 = [none, none] := by kernel_rfl
theorem ck9 : cellK Tryz.prog 20 9 = [none] := by kernel_rfl
theorem eg36 : Tryz.prog.eqGuardType Tryz.prog.depth 36 = false := by kernel_rfl
theorem sf36 : Tryz.prog.underlying 36 = some (.struct (Tryz.prog.fieldsOf 36)) := by kernel_rfl
theorem sh36 : Tryz.prog.stoodInHeld 36 = false := by kernel_rfl
theorem se36 (x y : api_Use) (w : World) : (Op.equalIn 10000 36 (.agg #[.int .i64 x.Alg, .int .i64 x.Bits]) (.agg #[.int .i64 y.Alg, .int .i64 y.Bits])).run Tryz.prog w = .ok (decide (x = y)) w := by
 have u3 := Tryz.underlying3
 have a3 := Tryz.isAgg3
 have z3 := Tryz.sizeOf3
 rw [show (10000 : Nat) = 9999 + 1 from rfl, run_equalIn_agg w 9999 36 _ _ sf36 sh36]
 simp only [Program.fieldsOf, Tryz.underlying36]
 go_simp
 rcases x with ⟨x0, x1⟩
 rcases y with ⟨y0, y1⟩
 by_cases h0 : x0 = y0 <;> by_cases h1 : x1 = y1 <;> simp [h0, h1]
theorem steq36_eql (x y : api_Use) {X Y : Operand} {tk : Nat} {yt ty : TypeId} {b1 b2 : Option LB} : OpR Tryz.prog tk (.binOp .eql 36 X Y yt) ty [(.agg [.val (.int .i64 x.Alg), .val (.int .i64 x.Bits)], b1), (.agg [.val (.int .i64 y.Alg), .val (.int .i64 y.Bits)], b2)] [] (v0 (.val (.bool (decide (x = y))))) :=
 .binOpA rfl rfl (fun _ _ => rfl) (fun w => by
  rw [Sem.run_bind, run_eqGuard_agg w _ 36 X Y _ _ eg36]
  simp only [Result.andThen_ok, run_eql_struct]
  exact congrArg (fun r => Result.andThen r _) (se36 x y w))
theorem undm93 : Tryz.prog.underlying 93 = some (.map 3 3) := by kernel_rfl
instance : FdC Tryz.prog 103 0 0 3 := ⟨fd103_0⟩
instance : FdC Tryz.prog 103 1 1 82 := ⟨fd103_1⟩
instance : FdC Tryz.prog 103 2 2 4 := ⟨fd103_2⟩
instance : FdC Tryz.prog 103 3 3 101 := ⟨fd103_3⟩
instance : FdC Tryz.prog 140 2 2 3 := ⟨fd140_2⟩
instance : FdC Tryz.prog 140 3 3 22 := ⟨fd140_3⟩
instance : FdC Tryz.prog 140 4 4 22 := ⟨fd140_4⟩
instance : FdC Tryz.prog 30 0 0 27 := ⟨fd30_0⟩
instance : FdC Tryz.prog 30 1 1 28 := ⟨fd30_1⟩
instance : FdC Tryz.prog 33 0 0 22 := ⟨fd33_0⟩
instance : FdC Tryz.prog 33 1 1 3 := ⟨fd33_1⟩
instance : FdC Tryz.prog 36 0 0 3 := ⟨fd36_0⟩
instance : FdC Tryz.prog 36 1 1 3 := ⟨fd36_1⟩
instance : FdC Tryz.prog 49 0 0 3 := ⟨fd49_0⟩
instance : FdC Tryz.prog 49 1 1 3 := ⟨fd49_1⟩
instance : FdC Tryz.prog 52 0 0 36 := ⟨fd52_0⟩
instance : FdC Tryz.prog 52 1 2 3 := ⟨fd52_1⟩
instance : FdC Tryz.prog 52 2 3 9 := ⟨fd52_2⟩
instance : FdC Tryz.prog 52 3 4 49 := ⟨fd52_3⟩
instance : FdC Tryz.prog 52 4 6 50 := ⟨fd52_4⟩
instance : FdC Tryz.prog 57 0 0 4 := ⟨fd57_0⟩
instance : FdC Tryz.prog 57 1 1 3 := ⟨fd57_1⟩
instance : FdC Tryz.prog 57 2 2 3 := ⟨fd57_2⟩
instance : FdC Tryz.prog 57 3 3 3 := ⟨fd57_3⟩
instance : FdC Tryz.prog 57 4 4 3 := ⟨fd57_4⟩
instance : FdC Tryz.prog 57 5 5 3 := ⟨fd57_5⟩
instance : FdC Tryz.prog 66 0 0 22 := ⟨fd66_0⟩
instance : FdC Tryz.prog 66 1 1 3 := ⟨fd66_1⟩
instance : FdC Tryz.prog 69 0 0 3 := ⟨fd69_0⟩
instance : FdC Tryz.prog 69 1 1 3 := ⟨fd69_1⟩
instance : FdC Tryz.prog 87 0 0 3 := ⟨fd87_0⟩
instance : FdC Tryz.prog 87 1 1 3 := ⟨fd87_1⟩
instance : SlC Tryz.prog 101 103 4 64 := ⟨sl101⟩
instance : SlC Tryz.prog 22 3 1 8 := ⟨sl22⟩
instance : SlC Tryz.prog 27 57 6 48 := ⟨sl27⟩
instance : SlC Tryz.prog 28 69 2 16 := ⟨sl28⟩
instance : SlC Tryz.prog 38 52 7 80 := ⟨sl38⟩
instance : SlC Tryz.prog 41 36 2 16 := ⟨sl41⟩
instance : SlC Tryz.prog 42 9 1 16 := ⟨sl42⟩
instance : SlC Tryz.prog 50 87 2 16 := ⟨sl50⟩
instance : SlC Tryz.prog 82 5 1 1 := ⟨sl82⟩
instance : TyC Tryz.prog 101 false 1 := ⟨ty101⟩
instance : TyC Tryz.prog 103 true 4 := ⟨ty103⟩
instance : TyC Tryz.prog 140 true 5 := ⟨ty140⟩
instance : TyC Tryz.prog 155 true 115 := ⟨ty155⟩
instance : TyC Tryz.prog 157 true 2 := ⟨ty157⟩
instance : TyC Tryz.prog 22 false 1 := ⟨ty22⟩
instance : TyC Tryz.prog 27 false 1 := ⟨ty27⟩
instance : TyC Tryz.prog 28 false 1 := ⟨ty28⟩
instance : TyC Tryz.prog 3 false 1 := ⟨ty3⟩
instance : TyC Tryz.prog 30 true 2 := ⟨ty30⟩
instance : TyC Tryz.prog 33 true 2 := ⟨ty33⟩
instance : TyC Tryz.prog 36 true 2 := ⟨ty36⟩
instance : TyC Tryz.prog 4 false 1 := ⟨ty4⟩
instance : TyC Tryz.prog 49 true 2 := ⟨ty49⟩
instance : TyC Tryz.prog 5 false 1 := ⟨ty5⟩
instance : TyC Tryz.prog 50 false 1 := ⟨ty50⟩
instance : TyC Tryz.prog 52 true 7 := ⟨ty52⟩
instance : TyC Tryz.prog 57 true 6 := ⟨ty57⟩
instance : TyC Tryz.prog 69 true 2 := ⟨ty69⟩
instance : TyC Tryz.prog 82 false 1 := ⟨ty82⟩
instance : TyC Tryz.prog 87 true 2 := ⟨ty87⟩
instance : TyC Tryz.prog 9 false 1 := ⟨ty9⟩
instance : ZtC Tryz.prog 103 [.int .i64 0, .slice none 0 0, .bool false, .slice none 0 0] := ⟨z103⟩
instance : ZtC Tryz.prog 140 [.string ⟨#[]⟩, .int .i64 0, .int .i64 0, .slice none 0 0, .slice none 0 0] := ⟨z140⟩
instance : ZtC Tryz.prog 155 [.string ⟨#[]⟩, .int .i64 0, .int .i64 0, .slice none 0 0, .slice none 0 0, .string ⟨#[]⟩, .int .i64 0, .int .i64 0, .slice none 0 0, .slice none 0 0, .string ⟨#[]⟩, .int .i64 0, .int .i64 0, .slice none 0 0, .slice none 0 0, .string ⟨#[]⟩, .int .i64 0, .int .i64 0, .slice none 0 0, .slice none 0 0, .string ⟨#[]⟩, .int .i64 0, .int .i64 0, .slice none 0 0, .slice none 0 0, .string ⟨#[]⟩, .int .i64 0, .int .i64 0, .slice none 0 0, .slice none 0 0, .string ⟨#[]⟩, .int .i64 0, .int .i64 0, .slice none 0 0, .slice none 0 0, .string ⟨#[]⟩, .int .i64 0, .int .i64 0, .slice none 0 0, .slice none 0 0, .string ⟨#[]⟩, .int .i64 0, .int .i64 0, .slice none 0 0, .slice none 0 0, .string ⟨#[]⟩, .int .i64 0, .int .i64 0, .slice none 0 0, .slice none 0 0, .string ⟨#[]⟩, .int .i64 0, .int .i64 0, .slice none 0 0, .slice none 0 0, .string ⟨#[]⟩, .int .i64 0, .int .i64 0, .slice none 0 0, .slice none 0 0, .string ⟨#[]⟩, .int .i64 0, .int .i64 0, .slice none 0 0, .slice none 0 0, .string ⟨#[]⟩, .int .i64 0, .int .i64 0, .slice none 0 0, .slice none 0 0, .string ⟨#[]⟩, .int .i64 0, .int .i64 0, .slice none 0 0, .slice none 0 0, .string ⟨#[]⟩, .int .i64 0, .int .i64 0, .slice none 0 0, .slice none 0 0, .string ⟨#[]⟩, .int .i64 0, .int .i64 0, .slice none 0 0, .slice none 0 0, .string ⟨#[]⟩, .int .i64 0, .int .i64 0, .slice none 0 0, .slice none 0 0, .string ⟨#[]⟩, .int .i64 0, .int .i64 0, .slice none 0 0, .slice none 0 0, .string ⟨#[]⟩, .int .i64 0, .int .i64 0, .slice none 0 0, .slice none 0 0, .string ⟨#[]⟩, .int .i64 0, .int .i64 0, .slice none 0 0, .slice none 0 0, .string ⟨#[]⟩, .int .i64 0, .int .i64 0, .slice none 0 0, .slice none 0 0, .string ⟨#[]⟩, .int .i64 0, .int .i64 0, .slice none 0 0, .slice none 0 0] := ⟨z155⟩
instance : ZtC Tryz.prog 157 [.int .i64 0, .int .i64 0] := ⟨z157⟩
instance : ZtC Tryz.prog 158 [.int .i64 0, .int .i64 0, .int .i64 0, .int .i64 0, .int .i64 0, .int .i64 0, .int .i64 0, .int .i64 0, .int .i64 0, .int .i64 0] := ⟨z158⟩
instance : ZtC Tryz.prog 3 [.int .i64 0] := ⟨z3⟩
instance : ZtC Tryz.prog 30 [.slice none 0 0, .slice none 0 0] := ⟨z30⟩
instance : ZtC Tryz.prog 33 [.slice none 0 0, .int .i64 0] := ⟨z33⟩
instance : ZtC Tryz.prog 36 [.int .i64 0, .int .i64 0] := ⟨z36⟩
instance : ZtC Tryz.prog 49 [.int .i64 0, .int .i64 0] := ⟨z49⟩
instance : ZtC Tryz.prog 5 [.int .u8 0] := ⟨z5⟩
instance : ZtC Tryz.prog 52 [.int .i64 0, .int .i64 0, .int .i64 0, .string ⟨#[]⟩, .int .i64 0, .int .i64 0, .slice none 0 0] := ⟨z52⟩
instance : ZtC Tryz.prog 57 [.bool false, .int .i64 0, .int .i64 0, .int .i64 0, .int .i64 0, .int .i64 0] := ⟨z57⟩
instance : ZtC Tryz.prog 66 [.slice none 0 0, .int .i64 0] := ⟨z66⟩
instance : ZtC Tryz.prog 69 [.int .i64 0, .int .i64 0] := ⟨z69⟩
instance : ZtC Tryz.prog 87 [.int .i64 0, .int .i64 0] := ⟨z87⟩
instance : ZtC Tryz.prog 9 [.string ⟨#[]⟩] := ⟨z9⟩
instance : ElC cipherplanmake_Dice.enc 2 := ⟨cipherplanmake_Dice.enc_len⟩
instance : ElC api_Rule.enc 6 := ⟨api_Rule.enc_len⟩
instance : ElC api_Keep.enc 2 := ⟨api_Keep.enc_len⟩
instance : ElC api_Policy.enc 2 := ⟨api_Policy.enc_len⟩
instance : ElC api_Owners.enc 2 := ⟨api_Owners.enc_len⟩
instance : ElC api_Use.enc 2 := ⟨api_Use.enc_len⟩
instance : ElC api_Span.enc 2 := ⟨api_Span.enc_len⟩
instance : ElC api_Seal.enc 2 := ⟨api_Seal.enc_len⟩
instance : ElC api_Exception.enc 7 := ⟨api_Exception.enc_len⟩
instance : ElC api_Value.enc 4 := ⟨api_Value.enc_len⟩
instance : ElC catalog_row.enc 5 := ⟨catalog_row.enc_len⟩
end Go.Proofs.YtmbhoimeiahbaaaGreat
