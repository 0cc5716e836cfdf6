/- Encodings; what is known of types. -/
import Derived.Test.YtmihjbejflcgkaaEM
import Derived.Test.YtmihjbejflcgkaaP1
import Derived.Test.YtmihjbejflcgkaaProg
set_option linter.unusedVariables false
set_option linter.unusedSimpArgs false
set_option maxRecDepth 100000
set_option maxHeartbeats 1600000
namespace Go.Proofs.Ytmihjbejflcgkaa
open Go.RowKit
abbrev api_Use.dv (x : api_Use) : List DV := [.val (.int .i64 x.Alg), .val (.int .i64 x.Bits)]
def api_Use.enc (x : api_Use) : List C := [.int .i64 x.Alg, .int .i64 x.Bits]
theorem api_Use.enc_len (x : api_Use) : (api_Use.enc x).length = 2 := rfl
abbrev api_Span.dv (x : api_Span) : List DV := [.val (.int .i64 x.From), .val (.int .i64 x.To)]
def api_Span.enc (x : api_Span) : List C := [.int .i64 x.From, .int .i64 x.To]
theorem api_Span.enc_len (x : api_Span) : (api_Span.enc x).length = 2 := rfl
abbrev api_Seal.dv (x : api_Seal) : List DV := [.val (.int .i64 x.Key), .val (.int .i64 x.Sum)]
def api_Seal.enc (x : api_Seal) : List C := [.int .i64 x.Key, .int .i64 x.Sum]
theorem api_Seal.enc_len (x : api_Seal) : (api_Seal.enc x).length = 2 := rfl
abbrev api_Exception.dv (x : api_Exception) : List DV := [.val (.int .i64 x.Use.Alg), .val (.int .i64 x.Use.Bits), .val (.int .i64 x.Purpose), .val (.string x.Endpoint), .val (.int .i64 x.Days.From), .val (.int .i64 x.Days.To), .sl 2 (encL api_Seal.enc x.Seals)]
def api_Exception.enc (x : api_Exception) : List C := [.int .i64 x.Use.Alg, .int .i64 x.Use.Bits, .int .i64 x.Purpose, .str x.Endpoint, .int .i64 x.Days.From, .int .i64 x.Days.To, .sl 2 (encL api_Seal.enc x.Seals)]
theorem api_Exception.enc_len (x : api_Exception) : (api_Exception.enc x).length = 7 := rfl
abbrev cipherplanmake_Dice.dv (x : cipherplanmake_Dice) : List DV := [.sl 1 (encL eI x.L), .val (.int .i64 x.At)]
def cipherplanmake_Dice.enc (x : cipherplanmake_Dice) : List C := [.sl 1 (encL eI x.L), .int .i64 x.At]
theorem cipherplanmake_Dice.enc_len (x : cipherplanmake_Dice) : (cipherplanmake_Dice.enc x).length = 2 := rfl
abbrev api_Owners.dv (x : api_Owners) : List DV := [.sl 1 (encL eI x.Keys), .val (.int .i64 x.Need)]
def api_Owners.enc (x : api_Owners) : List C := [.sl 1 (encL eI x.Keys), .int .i64 x.Need]
theorem api_Owners.enc_len (x : api_Owners) : (api_Owners.enc x).length = 2 := rfl
mutual
def api_Value.enc : api_Value → List C
 | ⟨Tag, Bytes, Nested, Elements⟩ => [.int .i64 Tag, .sl 1 (encL e8 Bytes), .bool Nested, .sl 4 (api_Value.encs Elements)]
def api_Value.encs : List api_Value → List C
 | [] => []
 | x :: l => api_Value.enc x ++ api_Value.encs l
end
theorem api_Value.encs_eq : ∀ (l : List api_Value), api_Value.encs l = encL api_Value.enc l
 | [] => rfl
 | x :: l => by
  show api_Value.enc x ++ api_Value.encs l = api_Value.enc x ++ encL api_Value.enc l
  rw [api_Value.encs_eq l]
theorem api_Value.enc_eq (x : api_Value) : api_Value.enc x = [.int .i64 x.Tag, .sl 1 (encL e8 x.Bytes), .bool x.Nested, .sl 4 (encL api_Value.enc x.Elements)] := by
 cases x
 simp only [api_Value.enc, api_Value.encs_eq]
theorem api_Value.enc_len (x : api_Value) : (api_Value.enc x).length = 4 := by rw [api_Value.enc_eq]; rfl
abbrev api_Value.dv (x : api_Value) : List DV := [.val (.int .i64 x.Tag), .sl 1 (encL e8 x.Bytes), .val (.bool x.Nested), .sl 4 (encL api_Value.enc x.Elements)]
abbrev catalog_row.dv (x : catalog_row) : List DV := [.val (.string x.name), .val (.int .i64 x.kind), .val (.int .i64 x.way), .sl 1 (encL eI x.sizes), .sl 1 (encL eI x.strengths)]
def catalog_row.enc (x : catalog_row) : List C := [.str x.name, .int .i64 x.kind, .int .i64 x.way, .sl 1 (encL eI x.sizes), .sl 1 (encL eI x.strengths)]
theorem catalog_row.enc_len (x : catalog_row) : (catalog_row.enc x).length = 5 := rfl
theorem und3 : Try.prog.underlying 3 = some (.int .i64) := by kernel_rfl
theorem und4 : Try.prog.underlying 4 = some (.bool) := by kernel_rfl
theorem und5 : Try.prog.underlying 5 = some (.int .u8) := by kernel_rfl
theorem und9 : Try.prog.underlying 9 = some (.string) := by kernel_rfl
theorem und24 : Try.prog.underlying 24 = some (.struct ((match Try.prog.underlying 24 with | some (.struct f) => f | _ => #[]))) := by kernel_rfl
theorem und26 : Try.prog.underlying 26 = some (.struct ((match Try.prog.underlying 26 with | some (.struct f) => f | _ => #[]))) := by kernel_rfl
theorem und27 : Try.prog.underlying 27 = some (.slice 65) := by kernel_rfl
theorem und29 : Try.prog.underlying 29 = some (.struct ((match Try.prog.underlying 29 with | some (.struct f) => f | _ => #[]))) := by kernel_rfl
theorem und36 : Try.prog.underlying 36 = some (.struct ((match Try.prog.underlying 36 with | some (.struct f) => f | _ => #[]))) := by kernel_rfl
theorem und41 : Try.prog.underlying 41 = some (.slice 5) := by kernel_rfl
theorem und61 : Try.prog.underlying 61 = some (.struct ((match Try.prog.underlying 61 with | some (.struct f) => f | _ => #[]))) := by kernel_rfl
theorem und65 : Try.prog.underlying 65 = some (.struct ((match Try.prog.underlying 65 with | some (.struct f) => f | _ => #[]))) := by kernel_rfl
theorem und70 : Try.prog.underlying 70 = some (.struct ((match Try.prog.underlying 70 with | some (.struct f) => f | _ => #[]))) := by kernel_rfl
theorem und90 : Try.prog.underlying 90 = some (.int .u64) := by kernel_rfl
theorem und91 : Try.prog.underlying 91 = some (.int .u64) := by kernel_rfl
theorem und94 : Try.prog.underlying 94 = some (.int .u32) := by kernel_rfl
theorem und113 : Try.prog.underlying 113 = some (.struct ((match Try.prog.underlying 113 with | some (.struct f) => f | _ => #[]))) := by kernel_rfl
theorem und124 : Try.prog.underlying 124 = some (.array 23 113) := by kernel_rfl
theorem und126 : Try.prog.underlying 126 = some (.array 2 3) := by kernel_rfl
theorem und127 : Try.prog.underlying 127 = some (.array 5 126) := by kernel_rfl
theorem fd113_2 : Fd Try.prog 113 2 2 3 := ⟨_, (match Try.prog.underlying 113 with | some (.struct f) => f | _ => #[])[2]!, und113, by kernel_rfl, by kernel_rfl, by kernel_rfl⟩
theorem fd113_3 : Fd Try.prog 113 3 3 22 := ⟨_, (match Try.prog.underlying 113 with | some (.struct f) => f | _ => #[])[3]!, und113, by kernel_rfl, by kernel_rfl, by kernel_rfl⟩
theorem fd113_4 : Fd Try.prog 113 4 4 22 := ⟨_, (match Try.prog.underlying 113 with | some (.struct f) => f | _ => #[])[4]!, und113, by kernel_rfl, by kernel_rfl, by kernel_rfl⟩
theorem fd24_0 : Fd Try.prog 24 0 0 3 := ⟨_, (match Try.prog.underlying 24 with | some (.struct f) => f | _ => #[])[0]!, und24, by kernel_rfl, by kernel_rfl, by kernel_rfl⟩
theorem fd24_1 : Fd Try.prog 24 1 1 3 := ⟨_, (match Try.prog.underlying 24 with | some (.struct f) => f | _ => #[])[1]!, und24, by kernel_rfl, by kernel_rfl, by kernel_rfl⟩
theorem fd26_0 : Fd Try.prog 26 0 0 3 := ⟨_, (match Try.prog.underlying 26 with | some (.struct f) => f | _ => #[])[0]!, und26, by kernel_rfl, by kernel_rfl, by kernel_rfl⟩
theorem fd26_1 : Fd Try.prog 26 1 1 3 := ⟨_, (match Try.prog.underlying 26 with | some (.struct f) => f | _ => #[])[1]!, und26, by kernel_rfl, by kernel_rfl, by kernel_rfl⟩
theorem fd29_0 : Fd Try.prog 29 0 0 24 := ⟨_, (match Try.prog.underlying 29 with | some (.struct f) => f | _ => #[])[0]!, und29, by kernel_rfl, by kernel_rfl, by kernel_rfl⟩
theorem fd29_1 : Fd Try.prog 29 1 2 3 := ⟨_, (match Try.prog.underlying 29 with | some (.struct f) => f | _ => #[])[1]!, und29, by kernel_rfl, by kernel_rfl, by kernel_rfl⟩
theorem fd29_2 : Fd Try.prog 29 2 3 9 := ⟨_, (match Try.prog.underlying 29 with | some (.struct f) => f | _ => #[])[2]!, und29, by kernel_rfl, by kernel_rfl, by kernel_rfl⟩
theorem fd29_3 : Fd Try.prog 29 3 4 26 := ⟨_, (match Try.prog.underlying 29 with | some (.struct f) => f | _ => #[])[3]!, und29, by kernel_rfl, by kernel_rfl, by kernel_rfl⟩
theorem fd29_4 : Fd Try.prog 29 4 6 27 := ⟨_, (match Try.prog.underlying 29 with | some (.struct f) => f | _ => #[])[4]!, und29, by kernel_rfl, by kernel_rfl, by kernel_rfl⟩
theorem fd36_0 : Fd Try.prog 36 0 0 22 := ⟨_, (match Try.prog.underlying 36 with | some (.struct f) => f | _ => #[])[0]!, und36, by kernel_rfl, by kernel_rfl, by kernel_rfl⟩
theorem fd36_1 : Fd Try.prog 36 1 1 3 := ⟨_, (match Try.prog.underlying 36 with | some (.struct f) => f | _ => #[])[1]!, und36, by kernel_rfl, by kernel_rfl, by kernel_rfl⟩
theorem fd61_0 : Fd Try.prog 61 0 0 22 := ⟨_, (match Try.prog.underlying 61 with | some (.struct f) => f | _ => #[])[0]!, und61, by kernel_rfl, by kernel_rfl, by kernel_rfl⟩
theorem fd61_1 : Fd Try.prog 61 1 1 3 := ⟨_, (match Try.prog.underlying 61 with | some (.struct f) => f | _ => #[])[1]!, und61, by kernel_rfl, by kernel_rfl, by kernel_rfl⟩
theorem fd65_0 : Fd Try.prog 65 0 0 3 := ⟨_, (match Try.prog.underlying 65 with | some (.struct f) => f | _ => #[])[0]!, und65, by kernel_rfl, by kernel_rfl, by kernel_rfl⟩
theorem fd65_1 : Fd Try.prog 65 1 1 3 := ⟨_, (match Try.prog.underlying 65 with | some (.struct f) => f | _ => #[])[1]!, und65, by kernel_rfl, by kernel_rfl, by kernel_rfl⟩
theorem fd70_0 : Fd Try.prog 70 0 0 3 := ⟨_, (match Try.prog.underlying 70 with | some (.struct f) => f | _ => #[])[0]!, und70, by kernel_rfl, by kernel_rfl, by kernel_rfl⟩
theorem fd70_1 : Fd Try.prog 70 1 1 41 := ⟨_, (match Try.prog.underlying 70 with | some (.struct f) => f | _ => #[])[1]!, und70, by kernel_rfl, by kernel_rfl, by kernel_rfl⟩
theorem fd70_2 : Fd Try.prog 70 2 2 4 := ⟨_, (match Try.prog.underlying 70 with | some (.struct f) => f | _ => #[])[2]!, und70, by kernel_rfl, by kernel_rfl, by kernel_rfl⟩
theorem fd70_3 : Fd Try.prog 70 3 3 68 := ⟨_, (match Try.prog.underlying 70 with | some (.struct f) => f | _ => #[])[3]!, und70, by kernel_rfl, by kernel_rfl, by kernel_rfl⟩
theorem pl113 : ((match Try.prog.underlying 113 with | some (.struct f) => f | _ => #[]) : Array Field).toList.map (fun f => (Try.prog.info? f.type).map fun i => (f.offset, i.size)) = [(0, 1), (1, 1), (2, 1), (3, 1), (4, 1)].map some := by kernel_rfl
theorem pl24 : ((match Try.prog.underlying 24 with | some (.struct f) => f | _ => #[]) : Array Field).toList.map (fun f => (Try.prog.info? f.type).map fun i => (f.offset, i.size)) = [(0, 1), (1, 1)].map some := by kernel_rfl
theorem pl26 : ((match Try.prog.underlying 26 with | some (.struct f) => f | _ => #[]) : Array Field).toList.map (fun f => (Try.prog.info? f.type).map fun i => (f.offset, i.size)) = [(0, 1), (1, 1)].map some := by kernel_rfl
theorem pl29 : ((match Try.prog.underlying 29 with | some (.struct f) => f | _ => #[]) : Array Field).toList.map (fun f => (Try.prog.info? f.type).map fun i => (f.offset, i.size)) = [(0, 2), (2, 1), (3, 1), (4, 2), (6, 1)].map some := by kernel_rfl
theorem pl36 : ((match Try.prog.underlying 36 with | some (.struct f) => f | _ => #[]) : Array Field).toList.map (fun f => (Try.prog.info? f.type).map fun i => (f.offset, i.size)) = [(0, 1), (1, 1)].map some := by kernel_rfl
theorem pl61 : ((match Try.prog.underlying 61 with | some (.struct f) => f | _ => #[]) : Array Field).toList.map (fun f => (Try.prog.info? f.type).map fun i => (f.offset, i.size)) = [(0, 1), (1, 1)].map some := by kernel_rfl
theorem pl65 : ((match Try.prog.underlying 65 with | some (.struct f) => f | _ => #[]) : Array Field).toList.map (fun f => (Try.prog.info? f.type).map fun i => (f.offset, i.size)) = [(0, 1), (1, 1)].map some := by kernel_rfl
theorem pl70 : ((match Try.prog.underlying 70 with | some (.struct f) => f | _ => #[]) : Array Field).toList.map (fun f => (Try.prog.info? f.type).map fun i => (f.offset, i.size)) = [(0, 1), (1, 1), (2, 1), (3, 1)].map some := by kernel_rfl
theorem sl22 : SlT Try.prog 22 3 1 8 := SlT.mk' (z := (.int .i64 0)) (by kernel_rfl) (by kernel_rfl) rfl (by decide) (by decide)
theorem sl27 : SlT Try.prog 27 65 2 16 := SlT.mk' (z := (.agg #[.int .i64 0, .int .i64 0])) (by kernel_rfl) (by kernel_rfl) rfl (by decide) (by decide)
theorem sl41 : SlT Try.prog 41 5 1 1 := SlT.mk' (z := (.int .u8 0)) (by kernel_rfl) (by kernel_rfl) rfl (by decide) (by decide)
theorem sl68 : SlT Try.prog 68 70 4 64 := SlT.mk' (z := (.agg #[.int .i64 0, .slice none 0 0, .bool false, .slice none 0 0])) (by kernel_rfl) (by kernel_rfl) rfl (by decide) (by decide)
theorem sl85 : SlT Try.prog 85 9 1 16 := SlT.mk' (z := (.string ⟨#[]⟩)) (by kernel_rfl) (by kernel_rfl) rfl (by decide) (by decide)
theorem ty113 : Ty Try.prog 113 true 5 := ⟨by kernel_rfl, by kernel_rfl⟩
theorem ty124 : Ty Try.prog 124 true 115 := ⟨by kernel_rfl, by kernel_rfl⟩
theorem ty126 : Ty Try.prog 126 true 2 := ⟨by kernel_rfl, by kernel_rfl⟩
theorem ty22 : Ty Try.prog 22 false 1 := ⟨by kernel_rfl, by kernel_rfl⟩
theorem ty24 : Ty Try.prog 24 true 2 := ⟨by kernel_rfl, by kernel_rfl⟩
theorem ty26 : Ty Try.prog 26 true 2 := ⟨by kernel_rfl, by kernel_rfl⟩
theorem ty27 : Ty Try.prog 27 false 1 := ⟨by kernel_rfl, by kernel_rfl⟩
theorem ty29 : Ty Try.prog 29 true 7 := ⟨by kernel_rfl, by kernel_rfl⟩
theorem ty3 : Ty Try.prog 3 false 1 := ⟨by kernel_rfl, by kernel_rfl⟩
theorem ty36 : Ty Try.prog 36 true 2 := ⟨by kernel_rfl, by kernel_rfl⟩
theorem ty4 : Ty Try.prog 4 false 1 := ⟨by kernel_rfl, by kernel_rfl⟩
theorem ty41 : Ty Try.prog 41 false 1 := ⟨by kernel_rfl, by kernel_rfl⟩
theorem ty5 : Ty Try.prog 5 false 1 := ⟨by kernel_rfl, by kernel_rfl⟩
theorem ty65 : Ty Try.prog 65 true 2 := ⟨by kernel_rfl, by kernel_rfl⟩
theorem ty68 : Ty Try.prog 68 false 1 := ⟨by kernel_rfl, by kernel_rfl⟩
theorem ty70 : Ty Try.prog 70 true 4 := ⟨by kernel_rfl, by kernel_rfl⟩
theorem ty9 : Ty Try.prog 9 false 1 := ⟨by kernel_rfl, by kernel_rfl⟩
theorem z113 : Zt Try.prog 113 [.string ⟨#[]⟩, .int .i64 0, .int .i64 0, .slice none 0 0, .slice none 0 0] := ⟨(.agg #[.string ⟨#[]⟩, .int .i64 0, .int .i64 0, .slice none 0 0, .slice none 0 0]), by kernel_rfl, rfl, by decide⟩
theorem z124 : Zt Try.prog 124 [.string ⟨#[]⟩, .int .i64 0, .int .i64 0, .slice none 0 0, .slice none 0 0, .string ⟨#[]⟩, .int .i64 0, .int .i64 0, .slice none 0 0, .slice none 0 0, .string ⟨#[]⟩, .int .i64 0, .int .i64 0, .slice none 0 0, .slice none 0 0, .string ⟨#[]⟩, .int .i64 0, .int .i64 0, .slice none 0 0, .slice none 0 0, .string ⟨#[]⟩, .int .i64 0, .int .i64 0, .slice none 0 0, .slice none 0 0, .string ⟨#[]⟩, .int .i64 0, .int .i64 0, .slice none 0 0, .slice none 0 0, .string ⟨#[]⟩, .int .i64 0, .int .i64 0, .slice none 0 0, .slice none 0 0, .string ⟨#[]⟩, .int .i64 0, .int .i64 0, .slice none 0 0, .slice none 0 0, .string ⟨#[]⟩, .int .i64 0, .int .i64 0, .slice none 0 0, .slice none 0 0, .string ⟨#[]⟩, .int .i64 0, .int .i64 0, .slice none 0 0, .slice none 0 0, .string ⟨#[]⟩, .int .i64 0, .int .i64 0, .slice none 0 0, .slice none 0 0, .string ⟨#[]⟩, .int .i64 0, .int .i64 0, .slice none 0 0, .slice none 0 0, .string ⟨#[]⟩, .int .i64 0, .int .i64 0, .slice none 0 0, .slice none 0 0, .string ⟨#[]⟩, .int .i64 0, .int .i64 0, .slice none 0 0, .slice none 0 0, .string ⟨#[]⟩, .int .i64 0, .int .i64 0, .slice none 0 0, .slice none 0 0, .string ⟨#[]⟩, .int .i64 0, .int .i64 0, .slice none 0 0, .slice none 0 0, .string ⟨#[]⟩, .int .i64 0, .int .i64 0, .slice none 0 0, .slice none 0 0, .string ⟨#[]⟩, .int .i64 0, .int .i64 0, .slice none 0 0, .slice none 0 0, .string ⟨#[]⟩, .int .i64 0, .int .i64 0, .slice none 0 0, .slice none 0 0, .string ⟨#[]⟩, .int .i64 0, .int .i64 0, .slice none 0 0, .slice none 0 0, .string ⟨#[]⟩, .int .i64 0, .int .i64 0, .slice none 0 0, .slice none 0 0, .string ⟨#[]⟩, .int .i64 0, .int .i64 0, .slice none 0 0, .slice none 0 0, .string ⟨#[]⟩, .int .i64 0, .int .i64 0, .slice none 0 0, .slice none 0 0] := ⟨(.agg #[.string ⟨#[]⟩, .int .i64 0, .int .i64 0, .slice none 0 0, .slice none 0 0, .string ⟨#[]⟩, .int .i64 0, .int .i64 0, .slice none 0 0, .slice none 0 0, .string ⟨#[]⟩, .int .i64 0, .int .i64 0, .slice none 0 0, .slice none 0 0, .string ⟨#[]⟩, .int .i64 0, .int .i64 0, .slice none 0 0, .slice none 0 0, .string ⟨#[]⟩, .int .i64 0, .int .i64 0, .slice none 0 0, .slice none 0 0, .string ⟨#[]⟩, .int .i64 0, .int .i64 0, .slice none 0 0, .slice none 0 0, .string ⟨#[]⟩, .int .i64 0, .int .i64 0, .slice none 0 0, .slice none 0 0, .string ⟨#[]⟩, .int .i64 0, .int .i64 0, .slice none 0 0, .slice none 0 0, .string ⟨#[]⟩, .int .i64 0, .int .i64 0, .slice none 0 0, .slice none 0 0, .string ⟨#[]⟩, .int .i64 0, .int .i64 0, .slice none 0 0, .slice none 0 0, .string ⟨#[]⟩, .int .i64 0, .int .i64 0, .slice none 0 0, .slice none 0 0, .string ⟨#[]⟩, .int .i64 0, .int .i64 0, .slice none 0 0, .slice none 0 0, .string ⟨#[]⟩, .int .i64 0, .int .i64 0, .slice none 0 0, .slice none 0 0, .string ⟨#[]⟩, .int .i64 0, .int .i64 0, .slice none 0 0, .slice none 0 0, .string ⟨#[]⟩, .int .i64 0, .int .i64 0, .slice none 0 0, .slice none 0 0, .string ⟨#[]⟩, .int .i64 0, .int .i64 0, .slice none 0 0, .slice none 0 0, .string ⟨#[]⟩, .int .i64 0, .int .i64 0, .slice none 0 0, .slice none 0 0, .string ⟨#[]⟩, .int .i64 0, .int .i64 0, .slice none 0 0, .slice none 0 0, .string ⟨#[]⟩, .int .i64 0, .int .i64 0, .slice none 0 0, .slice none 0 0, .string ⟨#[]⟩, .int .i64 0, .int .i64 0, .slice none 0 0, .slice none 0 0, .string ⟨#[]⟩, .int .i64 0, .int .i64 0, .slice none 0 0, .slice none 0 0, .string ⟨#[]⟩, .int .i64 0, .int .i64 0, .slice none 0 0, .slice none 0 0, .string ⟨#[]⟩, .int .i64 0, .int .i64 0, .slice none 0 0, .slice none 0 0]), by kernel_rfl, rfl, by decide⟩
theorem z126 : Zt Try.prog 126 [.int .i64 0, .int .i64 0] := ⟨(.agg #[.int .i64 0, .int .i64 0]), by kernel_rfl, rfl, by decide⟩
theorem z127 : Zt Try.prog 127 [.int .i64 0, .int .i64 0, .int .i64 0, .int .i64 0, .int .i64 0, .int .i64 0, .int .i64 0, .int .i64 0, .int .i64 0, .int .i64 0] := ⟨(.agg #[.int .i64 0, .int .i64 0, .int .i64 0, .int .i64 0, .int .i64 0, .int .i64 0, .int .i64 0, .int .i64 0, .int .i64 0, .int .i64 0]), by kernel_rfl, rfl, by decide⟩
theorem z24 : Zt Try.prog 24 [.int .i64 0, .int .i64 0] := ⟨(.agg #[.int .i64 0, .int .i64 0]), by kernel_rfl, rfl, by decide⟩
theorem z26 : Zt Try.prog 26 [.int .i64 0, .int .i64 0] := ⟨(.agg #[.int .i64 0, .int .i64 0]), by kernel_rfl, rfl, by decide⟩
theorem z29 : Zt Try.prog 29 [.int .i64 0, .int .i64 0, .int .i64 0, .string ⟨#[]⟩, .int .i64 0, .int .i64 0, .slice none 0 0] := ⟨(.agg #[.int .i64 0, .int .i64 0, .int .i64 0, .string ⟨#[]⟩, .int .i64 0, .int .i64 0, .slice none 0 0]), by kernel_rfl, rfl, by decide⟩
theorem z3 : Zt Try.prog 3 [.int .i64 0] := ⟨(.int .i64 0), by kernel_rfl, rfl, by decide⟩
theorem z36 : Zt Try.prog 36 [.slice none 0 0, .int .i64 0] := ⟨(.agg #[.slice none 0 0, .int .i64 0]), by kernel_rfl, rfl, by decide⟩
theorem z5 : Zt Try.prog 5 [.int .u8 0] := ⟨(.int .u8 0), by kernel_rfl, rfl, by decide⟩
theorem z61 : Zt Try.prog 61 [.slice none 0 0, .int .i64 0] := ⟨(.agg #[.slice none 0 0, .int .i64 0]), by kernel_rfl, rfl, by decide⟩
theorem z65 : Zt Try.prog 65 [.int .i64 0, .int .i64 0] := ⟨(.agg #[.int .i64 0, .int .i64 0]), by kernel_rfl, rfl, by decide⟩
theorem z70 : Zt Try.prog 70 [.int .i64 0, .slice none 0 0, .bool false, .slice none 0 0] := ⟨(.agg #[.int .i64 0, .slice none 0 0, .bool false, .slice none 0 0]), by kernel_rfl, rfl, by decide⟩
theorem z9 : Zt Try.prog 9 [.string ⟨#[]⟩] := ⟨(.string ⟨#[]⟩), by kernel_rfl, rfl, by decide⟩
theorem ck3 : cellK Try.prog 20 3 = [none] := by kernel_rfl
theorem ck5 : cellK Try.prog 20 5 = [none] := by kernel_rfl
theorem ck65 : cellK Try.prog 20 65 = [none, none] := by kernel_rfl
theorem ck70 : cellK Try.prog 20 70 = [none, some 1, none, some 4] := by kernel_rfl
theorem ck9 : cellK Try.prog 20 9 = [none] := by kernel_rfl
theorem eg24 : Try.prog.eqGuardType Try.prog.depth 24 = false := by kernel_rfl
theorem sf24 : Try.prog.underlying 24 = some (.struct (Try.prog.fieldsOf 24)) := by kernel_rfl
theorem sh24 : Try.prog.stoodInHeld 24 = false := by kernel_rfl
theorem se24 (x y : api_Use) (w : World) : (Op.equalIn 10000 24 (.agg #[.int .i64 x.Alg, .int .i64 x.Bits]) (.agg #[.int .i64 y.Alg, .int .i64 y.Bits])).run Try.prog w = .ok (decide (x = y)) w := by
 have u3 := Try.underlying3
 have a3 := Try.isAgg3
 have z3 := Try.sizeOf3
 rw [show (10000 : Nat) = 9999 + 1 from rfl, run_equalIn_agg w 9999 24 _ _ sf24 sh24]
 simp only [Program.fieldsOf, Try.underlying24]
 go_simp
 rcases x with ⟨x0, x1⟩
 rcases y with ⟨y0, y1⟩
 by_cases h0 : x0 = y0 <;> by_cases h1 : x1 = y1 <;> simp [h0, h1]
theorem steq24_eql (x y : api_Use) {X Y : Operand} {tk : Nat} {yt ty : TypeId} {b1 b2 : Option LB} : OpR Try.prog tk (.binOp .eql 24 X Y yt) ty [(.agg [.val (.int .i64 x.Alg), .val (.int .i64 x.Bits)], b1), (.agg [.val (.int .i64 y.Alg), .val (.int .i64 y.Bits)], b2)] [] (v0 (.val (.bool (decide (x = y))))) :=
 .binOpA rfl rfl (fun _ _ => rfl) (fun w => by
  rw [Sem.run_bind, run_eqGuard_agg w _ 24 X Y _ _ eg24]
  simp only [Result.andThen_ok, run_eql_struct]
  exact congrArg (fun r => Result.andThen r _) (se24 x y w))
theorem steq24_neq (x y : api_Use) {X Y : Operand} {tk : Nat} {yt ty : TypeId} {b1 b2 : Option LB} : OpR Try.prog tk (.binOp .neq 24 X Y yt) ty [(.agg [.val (.int .i64 x.Alg), .val (.int .i64 x.Bits)], b1), (.agg [.val (.int .i64 y.Alg), .val (.int .i64 y.Bits)], b2)] [] (v0 (.val (.bool (!decide (x = y))))) :=
 .binOpA rfl rfl (fun _ _ => rfl) (fun w => by
  rw [Sem.run_bind, run_eqGuard_agg w _ 24 X Y _ _ eg24]
  simp only [Result.andThen_ok, run_neq_struct]
  exact congrArg (fun r => Result.andThen r _) (se24 x y w))
theorem eg26 : Try.prog.eqGuardType Try.prog.depth 26 = false := by kernel_rfl
theorem sf26 : Try.prog.underlying 26 = some (.struct (Try.prog.fieldsOf 26)) := by kernel_rfl
theorem sh26 : Try.prog.stoodInHeld 26 = false := by kernel_rfl
theorem se26 (x y : api_Span) (w : World) : (Op.equalIn 10000 26 (.agg #[.int .i64 x.From, .int .i64 x.To]) (.agg #[.int .i64 y.From, .int .i64 y.To])).run Try.prog w = .ok (decide (x = y)) w := by
 have u3 := Try.underlying3
 have a3 := Try.isAgg3
 have z3 := Try.sizeOf3
 rw [show (10000 : Nat) = 9999 + 1 from rfl, run_equalIn_agg w 9999 26 _ _ sf26 sh26]
 simp only [Program.fieldsOf, Try.underlying26]
 go_simp
 rcases x with ⟨x0, x1⟩
 rcases y with ⟨y0, y1⟩
 by_cases h0 : x0 = y0 <;> by_cases h1 : x1 = y1 <;> simp [h0, h1]
theorem steq26_neq (x y : api_Span) {X Y : Operand} {tk : Nat} {yt ty : TypeId} {b1 b2 : Option LB} : OpR Try.prog tk (.binOp .neq 26 X Y yt) ty [(.agg [.val (.int .i64 x.From), .val (.int .i64 x.To)], b1), (.agg [.val (.int .i64 y.From), .val (.int .i64 y.To)], b2)] [] (v0 (.val (.bool (!decide (x = y))))) :=
 .binOpA rfl rfl (fun _ _ => rfl) (fun w => by
  rw [Sem.run_bind, run_eqGuard_agg w _ 26 X Y _ _ eg26]
  simp only [Result.andThen_ok, run_neq_struct]
  exact congrArg (fun r => Result.andThen r _) (se26 x y w))
theorem eg65 : Try.prog.eqGuardType Try.prog.depth 65 = false := by kernel_rfl
theorem sf65 : Try.prog.underlying 65 = some (.struct (Try.prog.fieldsOf 65)) := by kernel_rfl
theorem sh65 : Try.prog.stoodInHeld 65 = false := by kernel_rfl
theorem se65 (x y : api_Seal) (w : World) : (Op.equalIn 10000 65 (.agg #[.int .i64 x.Key, .int .i64 x.Sum]) (.agg #[.int .i64 y.Key, .int .i64 y.Sum])).run Try.prog w = .ok (decide (x = y)) w := by
 have u3 := Try.underlying3
 have a3 := Try.isAgg3
 have z3 := Try.sizeOf3
 rw [show (10000 : Nat) = 9999 + 1 from rfl, run_equalIn_agg w 9999 65 _ _ sf65 sh65]
 simp only [Program.fieldsOf, Try.underlying65]
 go_simp
 rcases x with ⟨x0, x1⟩
 rcases y with ⟨y0, y1⟩
 by_cases h0 : x0 = y0 <;> by_cases h1 : x1 = y1 <;> simp [h0, h1]
theorem steq65_neq (x y : api_Seal) {X Y : Operand} {tk : Nat} {yt ty : TypeId} {b1 b2 : Option LB} : OpR Try.prog tk (.binOp .neq 65 X Y yt) ty [(.agg [.val (.int .i64 x.Key), .val (.int .i64 x.Sum)], b1), (.agg [.val (.int .i64 y.Key), .val (.int .i64 y.Sum)], b2)] [] (v0 (.val (.bool (!decide (x = y))))) :=
 .binOpA rfl rfl (fun _ _ => rfl) (fun w => by
  rw [Sem.run_bind, run_eqGuard_agg w _ 65 X Y _ _ eg65]
  simp only [Result.andThen_ok, run_neq_struct]
  exact congrArg (fun r => Result.andThen r _) (se65 x y w))
theorem undm83 : Try.prog.underlying 83 = some (.map 3 3) := by kernel_rfl
instance : FdC Try.prog 113 2 2 3 := ⟨fd113_2⟩
instance : FdC Try.prog 113 3 3 22 := ⟨fd113_3⟩
instance : FdC Try.prog 113 4 4 22 := ⟨fd113_4⟩
instance : FdC Try.prog 24 0 0 3 := ⟨fd24_0⟩
instance : FdC Try.prog 24 1 1 3 := ⟨fd24_1⟩
instance : FdC Try.prog 26 0 0 3 := ⟨fd26_0⟩
instance : FdC Try.prog 26 1 1 3 := ⟨fd26_1⟩
instance : FdC Try.prog 29 0 0 24 := ⟨fd29_0⟩
instance : FdC Try.prog 29 1 2 3 := ⟨fd29_1⟩
instance : FdC Try.prog 29 2 3 9 := ⟨fd29_2⟩
instance : FdC Try.prog 29 3 4 26 := ⟨fd29_3⟩
instance : FdC Try.prog 29 4 6 27 := ⟨fd29_4⟩
instance : FdC Try.prog 36 0 0 22 := ⟨fd36_0⟩
instance : FdC Try.prog 36 1 1 3 := ⟨fd36_1⟩
instance : FdC Try.prog 61 0 0 22 := ⟨fd61_0⟩
instance : FdC Try.prog 61 1 1 3 := ⟨fd61_1⟩
instance : FdC Try.prog 65 0 0 3 := ⟨fd65_0⟩
instance : FdC Try.prog 65 1 1 3 := ⟨fd65_1⟩
instance : FdC Try.prog 70 0 0 3 := ⟨fd70_0⟩
instance : FdC Try.prog 70 1 1 41 := ⟨fd70_1⟩
instance : FdC Try.prog 70 2 2 4 := ⟨fd70_2⟩
instance : FdC Try.prog 70 3 3 68 := ⟨fd70_3⟩
instance : SlC Try.prog 22 3 1 8 := ⟨sl22⟩
instance : SlC Try.prog 27 65 2 16 := ⟨sl27⟩
instance : SlC Try.prog 41 5 1 1 := ⟨sl41⟩
instance : SlC Try.prog 68 70 4 64 := ⟨sl68⟩
instance : SlC Try.prog 85 9 1 16 := ⟨sl85⟩
instance : TyC Try.prog 113 true 5 := ⟨ty113⟩
instance : TyC Try.prog 124 true 115 := ⟨ty124⟩
instance : TyC Try.prog 126 true 2 := ⟨ty126⟩
instance : TyC Try.prog 22 false 1 := ⟨ty22⟩
instance : TyC Try.prog 24 true 2 := ⟨ty24⟩
instance : TyC Try.prog 26 true 2 := ⟨ty26⟩
instance : TyC Try.prog 27 false 1 := ⟨ty27⟩
instance : TyC Try.prog 29 true 7 := ⟨ty29⟩
instance : TyC Try.prog 3 false 1 := ⟨ty3⟩
instance : TyC Try.prog 36 true 2 := ⟨ty36⟩
instance : TyC Try.prog 4 false 1 := ⟨ty4⟩
instance : TyC Try.prog 41 false 1 := ⟨ty41⟩
instance : TyC Try.prog 5 false 1 := ⟨ty5⟩
instance : TyC Try.prog 65 true 2 := ⟨ty65⟩
instance : TyC Try.prog 68 false 1 := ⟨ty68⟩
instance : TyC Try.prog 70 true 4 := ⟨ty70⟩
instance : TyC Try.prog 9 false 1 := ⟨ty9⟩
instance : ZtC Try.prog 113 [.string ⟨#[]⟩, .int .i64 0, .int .i64 0, .slice none 0 0, .slice none 0 0] := ⟨z113⟩
instance : ZtC Try.prog 124 [.string ⟨#[]⟩, .int .i64 0, .int .i64 0, .slice none 0 0, .slice none 0 0, .string ⟨#[]⟩, .int .i64 0, .int .i64 0, .slice none 0 0, .slice none 0 0, .string ⟨#[]⟩, .int .i64 0, .int .i64 0, .slice none 0 0, .slice none 0 0, .string ⟨#[]⟩, .int .i64 0, .int .i64 0, .slice none 0 0, .slice none 0 0, .string ⟨#[]⟩, .int .i64 0, .int .i64 0, .slice none 0 0, .slice none 0 0, .string ⟨#[]⟩, .int .i64 0, .int .i64 0, .slice none 0 0, .slice none 0 0, .string ⟨#[]⟩, .int .i64 0, .int .i64 0, .slice none 0 0, .slice none 0 0, .string ⟨#[]⟩, .int .i64 0, .int .i64 0, .slice none 0 0, .slice none 0 0, .string ⟨#[]⟩, .int .i64 0, .int .i64 0, .slice none 0 0, .slice none 0 0, .string ⟨#[]⟩, .int .i64 0, .int .i64 0, .slice none 0 0, .slice none 0 0, .string ⟨#[]⟩, .int .i64 0, .int .i64 0, .slice none 0 0, .slice none 0 0, .string ⟨#[]⟩, .int .i64 0, .int .i64 0, .slice none 0 0, .slice none 0 0, .string ⟨#[]⟩, .int .i64 0, .int .i64 0, .slice none 0 0, .slice none 0 0, .string ⟨#[]⟩, .int .i64 0, .int .i64 0, .slice none 0 0, .slice none 0 0, .string ⟨#[]⟩, .int .i64 0, .int .i64 0, .slice none 0 0, .slice none 0 0, .string ⟨#[]⟩, .int .i64 0, .int .i64 0, .slice none 0 0, .slice none 0 0, .string ⟨#[]⟩, .int .i64 0, .int .i64 0, .slice none 0 0, .slice none 0 0, .string ⟨#[]⟩, .int .i64 0, .int .i64 0, .slice none 0 0, .slice none 0 0, .string ⟨#[]⟩, .int .i64 0, .int .i64 0, .slice none 0 0, .slice none 0 0, .string ⟨#[]⟩, .int .i64 0, .int .i64 0, .slice none 0 0, .slice none 0 0, .string ⟨#[]⟩, .int .i64 0, .int .i64 0, .slice none 0 0, .slice none 0 0, .string ⟨#[]⟩, .int .i64 0, .int .i64 0, .slice none 0 0, .slice none 0 0, .string ⟨#[]⟩, .int .i64 0, .int .i64 0, .slice none 0 0, .slice none 0 0] := ⟨z124⟩
instance : ZtC Try.prog 126 [.int .i64 0, .int .i64 0] := ⟨z126⟩
instance : ZtC Try.prog 127 [.int .i64 0, .int .i64 0, .int .i64 0, .int .i64 0, .int .i64 0, .int .i64 0, .int .i64 0, .int .i64 0, .int .i64 0, .int .i64 0] := ⟨z127⟩
instance : ZtC Try.prog 24 [.int .i64 0, .int .i64 0] := ⟨z24⟩
instance : ZtC Try.prog 26 [.int .i64 0, .int .i64 0] := ⟨z26⟩
instance : ZtC Try.prog 29 [.int .i64 0, .int .i64 0, .int .i64 0, .string ⟨#[]⟩, .int .i64 0, .int .i64 0, .slice none 0 0] := ⟨z29⟩
instance : ZtC Try.prog 3 [.int .i64 0] := ⟨z3⟩
instance : ZtC Try.prog 36 [.slice none 0 0, .int .i64 0] := ⟨z36⟩
instance : ZtC Try.prog 5 [.int .u8 0] := ⟨z5⟩
instance : ZtC Try.prog 61 [.slice none 0 0, .int .i64 0] := ⟨z61⟩
instance : ZtC Try.prog 65 [.int .i64 0, .int .i64 0] := ⟨z65⟩
instance : ZtC Try.prog 70 [.int .i64 0, .slice none 0 0, .bool false, .slice none 0 0] := ⟨z70⟩
instance : ZtC Try.prog 9 [.string ⟨#[]⟩] := ⟨z9⟩
instance : ElC api_Use.enc 2 := ⟨api_Use.enc_len⟩
instance : ElC api_Span.enc 2 := ⟨api_Span.enc_len⟩
instance : ElC api_Seal.enc 2 := ⟨api_Seal.enc_len⟩
instance : ElC api_Exception.enc 7 := ⟨api_Exception.enc_len⟩
instance : ElC cipherplanmake_Dice.enc 2 := ⟨cipherplanmake_Dice.enc_len⟩
instance : ElC api_Owners.enc 2 := ⟨api_Owners.enc_len⟩
instance : ElC api_Value.enc 4 := ⟨api_Value.enc_len⟩
instance : ElC catalog_row.enc 5 := ⟨catalog_row.enc_len⟩
end Go.Proofs.Ytmihjbejflcgkaa
