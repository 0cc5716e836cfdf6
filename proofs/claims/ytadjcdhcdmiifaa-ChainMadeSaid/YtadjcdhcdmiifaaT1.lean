/- Encodings; what is known of types. -/
import Derived.Test.YtadjcdhcdmiifaaEE
import Derived.Test.YtadjcdhcdmiifaaP1
import Derived.Test.YtadjcdhcdmiifaaProg
set_option linter.unusedVariables false
set_option linter.unusedSimpArgs false
set_option maxRecDepth 100000
set_option maxHeartbeats 1600000
namespace Go.Proofs.Ytadjcdhcdmiifaa
open Go.RowKit
def api_Use.enc (x : api_Use) : List C := [.int .i64 x.Alg, .int .i64 x.Bits]
theorem api_Use.enc_len (x : api_Use) : (api_Use.enc x).length = 2 := rfl
def api_Seal.enc (x : api_Seal) : List C := [.int .i64 x.Key, .int .i64 x.Sum]
theorem api_Seal.enc_len (x : api_Seal) : (api_Seal.enc x).length = 2 := rfl
def api_Certificate.enc (x : api_Certificate) : List C := [.int .i64 x.Serial, .str x.Issuer, .str x.Subject, .int .i64 x.Key.Alg, .int .i64 x.Key.Bits, .int .i64 x.KeyId, .int .i64 x.Hash.Alg, .int .i64 x.Hash.Bits, .int .i64 x.From, .int .i64 x.To, .bool x.Authority, .int .i64 x.Path, .sl 1 (encL eS x.Names), .int .i64 x.Seal.Key, .int .i64 x.Seal.Sum]
theorem api_Certificate.enc_len (x : api_Certificate) : (api_Certificate.enc x).length = 15 := rfl
def cipherplanref02_row.enc (x : cipherplanref02_row) : List C := [.str x.name, .int .i64 x.kind]
theorem cipherplanref02_row.enc_len (x : cipherplanref02_row) : (cipherplanref02_row.enc x).length = 2 := rfl
mutual
def api_Value.enc : api_Value → List C
 | ⟨Tag, Bytes, Nested, Elements⟩ => [.int .i64 Tag, .sl 1 (encL e8 Bytes), .bool Nested, .sl 4 (api_Value.encs Elements)]
def api_Value.encs : List api_Value → List C
 | [] => []
 | x :: l => api_Value.enc x ++ api_Value.encs l
end
theorem api_Value.encs_eq : ∀ (l : List api_Value), api_Value.encs l = encL api_Value.enc l
 | [] => rfl
 | x :: l => by
  show api_Value.enc x ++ api_Value.encs l = api_Value.enc x ++ encL api_Value.enc l
  rw [api_Value.encs_eq l]
theorem api_Value.enc_eq (x : api_Value) : api_Value.enc x = [.int .i64 x.Tag, .sl 1 (encL e8 x.Bytes), .bool x.Nested, .sl 4 (encL api_Value.enc x.Elements)] := by
 cases x
 simp only [api_Value.enc, api_Value.encs_eq]
theorem api_Value.enc_len (x : api_Value) : (api_Value.enc x).length = 4 := by rw [api_Value.enc_eq]; rfl
def catalog_row.enc (x : catalog_row) : List C := [.str x.name, .int .i64 x.kind, .int .i64 x.way, .sl 1 (encL eI x.sizes), .sl 1 (encL eI x.strengths)]
theorem catalog_row.enc_len (x : catalog_row) : (catalog_row.enc x).length = 5 := rfl
def cipherplanmake_Dice.enc (x : cipherplanmake_Dice) : List C := [.sl 1 (encL eI x.L), .int .i64 x.At]
theorem cipherplanmake_Dice.enc_len (x : cipherplanmake_Dice) : (cipherplanmake_Dice.enc x).length = 2 := rfl
def chain_search.enc (x : chain_search) : List C := [.sl 15 (encL api_Certificate.enc x.pool), .sl 1 (encL eI x.anchors), .sl 1 (encL eI x.hashes), .int .i64 x.day, .str x.name]
theorem chain_search.enc_len (x : chain_search) : (chain_search.enc x).length = 5 := rfl
theorem und3 : Try.prog.underlying 3 = some (.int .i64) := by kernel_rfl
theorem und4 : Try.prog.underlying 4 = some (.bool) := by kernel_rfl
theorem und5 : Try.prog.underlying 5 = some (.int .u8) := by kernel_rfl
theorem und9 : Try.prog.underlying 9 = some (.string) := by kernel_rfl
theorem und40 : Try.prog.underlying 40 = some (.struct ((match Try.prog.underlying 40 with | some (.struct f) => f | _ => #[]))) := by kernel_rfl
theorem und43 : Try.prog.underlying 43 = some (.struct ((match Try.prog.underlying 43 with | some (.struct f) => f | _ => #[]))) := by kernel_rfl
theorem und45 : Try.prog.underlying 45 = some (.struct ((match Try.prog.underlying 45 with | some (.struct f) => f | _ => #[]))) := by kernel_rfl
theorem und58 : Try.prog.underlying 58 = some (.struct ((match Try.prog.underlying 58 with | some (.struct f) => f | _ => #[]))) := by kernel_rfl
theorem und66 : Try.prog.underlying 66 = some (.array 2 35) := by kernel_rfl
theorem und68 : Try.prog.underlying 68 = some (.array 3 35) := by kernel_rfl
theorem und82 : Try.prog.underlying 82 = some (.slice 5) := by kernel_rfl
theorem und97 : Try.prog.underlying 97 = some (.struct ((match Try.prog.underlying 97 with | some (.struct f) => f | _ => #[]))) := by kernel_rfl
theorem und99 : Try.prog.underlying 99 = some (.int .u32) := by kernel_rfl
theorem und104 : Try.prog.underlying 104 = some (.struct ((match Try.prog.underlying 104 with | some (.struct f) => f | _ => #[]))) := by kernel_rfl
theorem und120 : Try.prog.underlying 120 = some (.struct ((match Try.prog.underlying 120 with | some (.struct f) => f | _ => #[]))) := by kernel_rfl
theorem und125 : Try.prog.underlying 125 = some (.array 23 120) := by kernel_rfl
theorem und129 : Try.prog.underlying 129 = some (.int .u64) := by kernel_rfl
theorem und130 : Try.prog.underlying 130 = some (.array 2 3) := by kernel_rfl
theorem und131 : Try.prog.underlying 131 = some (.array 5 130) := by kernel_rfl
theorem fd104_1 : Fd Try.prog 104 1 1 3 := ⟨_, (match Try.prog.underlying 104 with | some (.struct f) => f | _ => #[])[1]!, und104, by kernel_rfl, by kernel_rfl, by kernel_rfl⟩
theorem fd120_1 : Fd Try.prog 120 1 1 3 := ⟨_, (match Try.prog.underlying 120 with | some (.struct f) => f | _ => #[])[1]!, und120, by kernel_rfl, by kernel_rfl, by kernel_rfl⟩
theorem fd120_2 : Fd Try.prog 120 2 2 3 := ⟨_, (match Try.prog.underlying 120 with | some (.struct f) => f | _ => #[])[2]!, und120, by kernel_rfl, by kernel_rfl, by kernel_rfl⟩
theorem fd120_3 : Fd Try.prog 120 3 3 22 := ⟨_, (match Try.prog.underlying 120 with | some (.struct f) => f | _ => #[])[3]!, und120, by kernel_rfl, by kernel_rfl, by kernel_rfl⟩
theorem fd120_4 : Fd Try.prog 120 4 4 22 := ⟨_, (match Try.prog.underlying 120 with | some (.struct f) => f | _ => #[])[4]!, und120, by kernel_rfl, by kernel_rfl, by kernel_rfl⟩
theorem fd40_0 : Fd Try.prog 40 0 0 3 := ⟨_, (match Try.prog.underlying 40 with | some (.struct f) => f | _ => #[])[0]!, und40, by kernel_rfl, by kernel_rfl, by kernel_rfl⟩
theorem fd40_1 : Fd Try.prog 40 1 1 3 := ⟨_, (match Try.prog.underlying 40 with | some (.struct f) => f | _ => #[])[1]!, und40, by kernel_rfl, by kernel_rfl, by kernel_rfl⟩
theorem fd43_0 : Fd Try.prog 43 0 0 3 := ⟨_, (match Try.prog.underlying 43 with | some (.struct f) => f | _ => #[])[0]!, und43, by kernel_rfl, by kernel_rfl, by kernel_rfl⟩
theorem fd43_1 : Fd Try.prog 43 1 1 3 := ⟨_, (match Try.prog.underlying 43 with | some (.struct f) => f | _ => #[])[1]!, und43, by kernel_rfl, by kernel_rfl, by kernel_rfl⟩
theorem fd45_0 : Fd Try.prog 45 0 0 3 := ⟨_, (match Try.prog.underlying 45 with | some (.struct f) => f | _ => #[])[0]!, und45, by kernel_rfl, by kernel_rfl, by kernel_rfl⟩
theorem fd45_1 : Fd Try.prog 45 1 1 9 := ⟨_, (match Try.prog.underlying 45 with | some (.struct f) => f | _ => #[])[1]!, und45, by kernel_rfl, by kernel_rfl, by kernel_rfl⟩
theorem fd45_10 : Fd Try.prog 45 10 12 41 := ⟨_, (match Try.prog.underlying 45 with | some (.struct f) => f | _ => #[])[10]!, und45, by kernel_rfl, by kernel_rfl, by kernel_rfl⟩
theorem fd45_11 : Fd Try.prog 45 11 13 43 := ⟨_, (match Try.prog.underlying 45 with | some (.struct f) => f | _ => #[])[11]!, und45, by kernel_rfl, by kernel_rfl, by kernel_rfl⟩
theorem fd45_2 : Fd Try.prog 45 2 2 9 := ⟨_, (match Try.prog.underlying 45 with | some (.struct f) => f | _ => #[])[2]!, und45, by kernel_rfl, by kernel_rfl, by kernel_rfl⟩
theorem fd45_3 : Fd Try.prog 45 3 3 40 := ⟨_, (match Try.prog.underlying 45 with | some (.struct f) => f | _ => #[])[3]!, und45, by kernel_rfl, by kernel_rfl, by kernel_rfl⟩
theorem fd45_4 : Fd Try.prog 45 4 5 3 := ⟨_, (match Try.prog.underlying 45 with | some (.struct f) => f | _ => #[])[4]!, und45, by kernel_rfl, by kernel_rfl, by kernel_rfl⟩
theorem fd45_5 : Fd Try.prog 45 5 6 40 := ⟨_, (match Try.prog.underlying 45 with | some (.struct f) => f | _ => #[])[5]!, und45, by kernel_rfl, by kernel_rfl, by kernel_rfl⟩
theorem fd45_6 : Fd Try.prog 45 6 8 3 := ⟨_, (match Try.prog.underlying 45 with | some (.struct f) => f | _ => #[])[6]!, und45, by kernel_rfl, by kernel_rfl, by kernel_rfl⟩
theorem fd45_7 : Fd Try.prog 45 7 9 3 := ⟨_, (match Try.prog.underlying 45 with | some (.struct f) => f | _ => #[])[7]!, und45, by kernel_rfl, by kernel_rfl, by kernel_rfl⟩
theorem fd45_8 : Fd Try.prog 45 8 10 4 := ⟨_, (match Try.prog.underlying 45 with | some (.struct f) => f | _ => #[])[8]!, und45, by kernel_rfl, by kernel_rfl, by kernel_rfl⟩
theorem fd45_9 : Fd Try.prog 45 9 11 3 := ⟨_, (match Try.prog.underlying 45 with | some (.struct f) => f | _ => #[])[9]!, und45, by kernel_rfl, by kernel_rfl, by kernel_rfl⟩
theorem fd58_0 : Fd Try.prog 58 0 0 22 := ⟨_, (match Try.prog.underlying 58 with | some (.struct f) => f | _ => #[])[0]!, und58, by kernel_rfl, by kernel_rfl, by kernel_rfl⟩
theorem fd58_1 : Fd Try.prog 58 1 1 3 := ⟨_, (match Try.prog.underlying 58 with | some (.struct f) => f | _ => #[])[1]!, und58, by kernel_rfl, by kernel_rfl, by kernel_rfl⟩
theorem fd97_0 : Fd Try.prog 97 0 0 3 := ⟨_, (match Try.prog.underlying 97 with | some (.struct f) => f | _ => #[])[0]!, und97, by kernel_rfl, by kernel_rfl, by kernel_rfl⟩
theorem fd97_1 : Fd Try.prog 97 1 1 82 := ⟨_, (match Try.prog.underlying 97 with | some (.struct f) => f | _ => #[])[1]!, und97, by kernel_rfl, by kernel_rfl, by kernel_rfl⟩
theorem fd97_2 : Fd Try.prog 97 2 2 4 := ⟨_, (match Try.prog.underlying 97 with | some (.struct f) => f | _ => #[])[2]!, und97, by kernel_rfl, by kernel_rfl, by kernel_rfl⟩
theorem fd97_3 : Fd Try.prog 97 3 3 95 := ⟨_, (match Try.prog.underlying 97 with | some (.struct f) => f | _ => #[])[3]!, und97, by kernel_rfl, by kernel_rfl, by kernel_rfl⟩
theorem pl104 : ((match Try.prog.underlying 104 with | some (.struct f) => f | _ => #[]) : Array Field).toList.map (fun f => (Try.prog.info? f.type).map fun i => (f.offset, i.size)) = [(0, 1), (1, 1)].map some := by kernel_rfl
theorem pl120 : ((match Try.prog.underlying 120 with | some (.struct f) => f | _ => #[]) : Array Field).toList.map (fun f => (Try.prog.info? f.type).map fun i => (f.offset, i.size)) = [(0, 1), (1, 1), (2, 1), (3, 1), (4, 1)].map some := by kernel_rfl
theorem pl40 : ((match Try.prog.underlying 40 with | some (.struct f) => f | _ => #[]) : Array Field).toList.map (fun f => (Try.prog.info? f.type).map fun i => (f.offset, i.size)) = [(0, 1), (1, 1)].map some := by kernel_rfl
theorem pl43 : ((match Try.prog.underlying 43 with | some (.struct f) => f | _ => #[]) : Array Field).toList.map (fun f => (Try.prog.info? f.type).map fun i => (f.offset, i.size)) = [(0, 1), (1, 1)].map some := by kernel_rfl
theorem pl45 : ((match Try.prog.underlying 45 with | some (.struct f) => f | _ => #[]) : Array Field).toList.map (fun f => (Try.prog.info? f.type).map fun i => (f.offset, i.size)) = [(0, 1), (1, 1), (2, 1), (3, 2), (5, 1), (6, 2), (8, 1), (9, 1), (10, 1), (11, 1), (12, 1), (13, 2)].map some := by kernel_rfl
theorem pl58 : ((match Try.prog.underlying 58 with | some (.struct f) => f | _ => #[]) : Array Field).toList.map (fun f => (Try.prog.info? f.type).map fun i => (f.offset, i.size)) = [(0, 1), (1, 1)].map some := by kernel_rfl
theorem pl97 : ((match Try.prog.underlying 97 with | some (.struct f) => f | _ => #[]) : Array Field).toList.map (fun f => (Try.prog.info? f.type).map fun i => (f.offset, i.size)) = [(0, 1), (1, 1), (2, 1), (3, 1)].map some := by kernel_rfl
theorem sl105 : SlT Try.prog 105 104 2 24 := SlT.mk' (z := (.agg #[.string ⟨#[]⟩, .int .i64 0])) (by kernel_rfl) (by kernel_rfl) rfl (by decide) (by decide)
theorem sl22 : SlT Try.prog 22 3 1 8 := SlT.mk' (z := (.int .i64 0)) (by kernel_rfl) (by kernel_rfl) rfl (by decide) (by decide)
theorem sl27 : SlT Try.prog 27 45 15 152 := SlT.mk' (z := (.agg #[.int .i64 0, .string ⟨#[]⟩, .string ⟨#[]⟩, .int .i64 0, .int .i64 0, .int .i64 0, .int .i64 0, .int .i64 0, .int .i64 0, .int .i64 0, .bool false, .int .i64 0, .slice none 0 0, .int .i64 0, .int .i64 0])) (by kernel_rfl) (by kernel_rfl) rfl (by decide) (by decide)
theorem sl29 : SlT Try.prog 29 22 1 24 := SlT.mk' (z := (.slice none 0 0)) (by kernel_rfl) (by kernel_rfl) rfl (by decide) (by decide)
theorem sl41 : SlT Try.prog 41 9 1 16 := SlT.mk' (z := (.string ⟨#[]⟩)) (by kernel_rfl) (by kernel_rfl) rfl (by decide) (by decide)
theorem sl70 : SlT Try.prog 70 35 1 8 := SlT.mk' (z := (.int .i64 0)) (by kernel_rfl) (by kernel_rfl) rfl (by decide) (by decide)
theorem sl82 : SlT Try.prog 82 5 1 1 := SlT.mk' (z := (.int .u8 0)) (by kernel_rfl) (by kernel_rfl) rfl (by decide) (by decide)
theorem sl95 : SlT Try.prog 95 97 4 64 := SlT.mk' (z := (.agg #[.int .i64 0, .slice none 0 0, .bool false, .slice none 0 0])) (by kernel_rfl) (by kernel_rfl) rfl (by decide) (by decide)
theorem ty120 : Ty Try.prog 120 true 5 := ⟨by kernel_rfl, by kernel_rfl⟩
theorem ty125 : Ty Try.prog 125 true 115 := ⟨by kernel_rfl, by kernel_rfl⟩
theorem ty130 : Ty Try.prog 130 true 2 := ⟨by kernel_rfl, by kernel_rfl⟩
theorem ty22 : Ty Try.prog 22 false 1 := ⟨by kernel_rfl, by kernel_rfl⟩
theorem ty3 : Ty Try.prog 3 false 1 := ⟨by kernel_rfl, by kernel_rfl⟩
theorem ty35 : Ty Try.prog 35 false 1 := ⟨by kernel_rfl, by kernel_rfl⟩
theorem ty4 : Ty Try.prog 4 false 1 := ⟨by kernel_rfl, by kernel_rfl⟩
theorem ty40 : Ty Try.prog 40 true 2 := ⟨by kernel_rfl, by kernel_rfl⟩
theorem ty41 : Ty Try.prog 41 false 1 := ⟨by kernel_rfl, by kernel_rfl⟩
theorem ty43 : Ty Try.prog 43 true 2 := ⟨by kernel_rfl, by kernel_rfl⟩
theorem ty45 : Ty Try.prog 45 true 15 := ⟨by kernel_rfl, by kernel_rfl⟩
theorem ty5 : Ty Try.prog 5 false 1 := ⟨by kernel_rfl, by kernel_rfl⟩
theorem ty82 : Ty Try.prog 82 false 1 := ⟨by kernel_rfl, by kernel_rfl⟩
theorem ty9 : Ty Try.prog 9 false 1 := ⟨by kernel_rfl, by kernel_rfl⟩
theorem ty95 : Ty Try.prog 95 false 1 := ⟨by kernel_rfl, by kernel_rfl⟩
theorem ty97 : Ty Try.prog 97 true 4 := ⟨by kernel_rfl, by kernel_rfl⟩
theorem z104 : Zt Try.prog 104 [.string ⟨#[]⟩, .int .i64 0] := ⟨(.agg #[.string ⟨#[]⟩, .int .i64 0]), by kernel_rfl, rfl, by decide⟩
theorem z120 : Zt Try.prog 120 [.string ⟨#[]⟩, .int .i64 0, .int .i64 0, .slice none 0 0, .slice none 0 0] := ⟨(.agg #[.string ⟨#[]⟩, .int .i64 0, .int .i64 0, .slice none 0 0, .slice none 0 0]), by kernel_rfl, rfl, by decide⟩
theorem z125 : Zt Try.prog 125 [.string ⟨#[]⟩, .int .i64 0, .int .i64 0, .slice none 0 0, .slice none 0 0, .string ⟨#[]⟩, .int .i64 0, .int .i64 0, .slice none 0 0, .slice none 0 0, .string ⟨#[]⟩, .int .i64 0, .int .i64 0, .slice none 0 0, .slice none 0 0, .string ⟨#[]⟩, .int .i64 0, .int .i64 0, .slice none 0 0, .slice none 0 0, .string ⟨#[]⟩, .int .i64 0, .int .i64 0, .slice none 0 0, .slice none 0 0, .string ⟨#[]⟩, .int .i64 0, .int .i64 0, .slice none 0 0, .slice none 0 0, .string ⟨#[]⟩, .int .i64 0, .int .i64 0, .slice none 0 0, .slice none 0 0, .string ⟨#[]⟩, .int .i64 0, .int .i64 0, .slice none 0 0, .slice none 0 0, .string ⟨#[]⟩, .int .i64 0, .int .i64 0, .slice none 0 0, .slice none 0 0, .string ⟨#[]⟩, .int .i64 0, .int .i64 0, .slice none 0 0, .slice none 0 0, .string ⟨#[]⟩, .int .i64 0, .int .i64 0, .slice none 0 0, .slice none 0 0, .string ⟨#[]⟩, .int .i64 0, .int .i64 0, .slice none 0 0, .slice none 0 0, .string ⟨#[]⟩, .int .i64 0, .int .i64 0, .slice none 0 0, .slice none 0 0, .string ⟨#[]⟩, .int .i64 0, .int .i64 0, .slice none 0 0, .slice none 0 0, .string ⟨#[]⟩, .int .i64 0, .int .i64 0, .slice none 0 0, .slice none 0 0, .string ⟨#[]⟩, .int .i64 0, .int .i64 0, .slice none 0 0, .slice none 0 0, .string ⟨#[]⟩, .int .i64 0, .int .i64 0, .slice none 0 0, .slice none 0 0, .string ⟨#[]⟩, .int .i64 0, .int .i64 0, .slice none 0 0, .slice none 0 0, .string ⟨#[]⟩, .int .i64 0, .int .i64 0, .slice none 0 0, .slice none 0 0, .string ⟨#[]⟩, .int .i64 0, .int .i64 0, .slice none 0 0, .slice none 0 0, .string ⟨#[]⟩, .int .i64 0, .int .i64 0, .slice none 0 0, .slice none 0 0, .string ⟨#[]⟩, .int .i64 0, .int .i64 0, .slice none 0 0, .slice none 0 0, .string ⟨#[]⟩, .int .i64 0, .int .i64 0, .slice none 0 0, .slice none 0 0] := ⟨(.agg #[.string ⟨#[]⟩, .int .i64 0, .int .i64 0, .slice none 0 0, .slice none 0 0, .string ⟨#[]⟩, .int .i64 0, .int .i64 0, .slice none 0 0, .slice none 0 0, .string ⟨#[]⟩, .int .i64 0, .int .i64 0, .slice none 0 0, .slice none 0 0, .string ⟨#[]⟩, .int .i64 0, .int .i64 0, .slice none 0 0, .slice none 0 0, .string ⟨#[]⟩, .int .i64 0, .int .i64 0, .slice none 0 0, .slice none 0 0, .string ⟨#[]⟩, .int .i64 0, .int .i64 0, .slice none 0 0, .slice none 0 0, .string ⟨#[]⟩, .int .i64 0, .int .i64 0, .slice none 0 0, .slice none 0 0, .string ⟨#[]⟩, .int .i64 0, .int .i64 0, .slice none 0 0, .slice none 0 0, .string ⟨#[]⟩, .int .i64 0, .int .i64 0, .slice none 0 0, .slice none 0 0, .string ⟨#[]⟩, .int .i64 0, .int .i64 0, .slice none 0 0, .slice none 0 0, .string ⟨#[]⟩, .int .i64 0, .int .i64 0, .slice none 0 0, .slice none 0 0, .string ⟨#[]⟩, .int .i64 0, .int .i64 0, .slice none 0 0, .slice none 0 0, .string ⟨#[]⟩, .int .i64 0, .int .i64 0, .slice none 0 0, .slice none 0 0, .string ⟨#[]⟩, .int .i64 0, .int .i64 0, .slice none 0 0, .slice none 0 0, .string ⟨#[]⟩, .int .i64 0, .int .i64 0, .slice none 0 0, .slice none 0 0, .string ⟨#[]⟩, .int .i64 0, .int .i64 0, .slice none 0 0, .slice none 0 0, .string ⟨#[]⟩, .int .i64 0, .int .i64 0, .slice none 0 0, .slice none 0 0, .string ⟨#[]⟩, .int .i64 0, .int .i64 0, .slice none 0 0, .slice none 0 0, .string ⟨#[]⟩, .int .i64 0, .int .i64 0, .slice none 0 0, .slice none 0 0, .string ⟨#[]⟩, .int .i64 0, .int .i64 0, .slice none 0 0, .slice none 0 0, .string ⟨#[]⟩, .int .i64 0, .int .i64 0, .slice none 0 0, .slice none 0 0, .string ⟨#[]⟩, .int .i64 0, .int .i64 0, .slice none 0 0, .slice none 0 0, .string ⟨#[]⟩, .int .i64 0, .int .i64 0, .slice none 0 0, .slice none 0 0]), by kernel_rfl, rfl, by decide⟩
theorem z130 : Zt Try.prog 130 [.int .i64 0, .int .i64 0] := ⟨(.agg #[.int .i64 0, .int .i64 0]), by kernel_rfl, rfl, by decide⟩
theorem z131 : Zt Try.prog 131 [.int .i64 0, .int .i64 0, .int .i64 0, .int .i64 0, .int .i64 0, .int .i64 0, .int .i64 0, .int .i64 0, .int .i64 0, .int .i64 0] := ⟨(.agg #[.int .i64 0, .int .i64 0, .int .i64 0, .int .i64 0, .int .i64 0, .int .i64 0, .int .i64 0, .int .i64 0, .int .i64 0, .int .i64 0]), by kernel_rfl, rfl, by decide⟩
theorem z22 : Zt Try.prog 22 [.slice none 0 0] := ⟨(.slice none 0 0), by kernel_rfl, rfl, by decide⟩
theorem z3 : Zt Try.prog 3 [.int .i64 0] := ⟨(.int .i64 0), by kernel_rfl, rfl, by decide⟩
theorem z35 : Zt Try.prog 35 [.int .i64 0] := ⟨(.int .i64 0), by kernel_rfl, rfl, by decide⟩
theorem z4 : Zt Try.prog 4 [.bool false] := ⟨(.bool false), by kernel_rfl, rfl, by decide⟩
theorem z40 : Zt Try.prog 40 [.int .i64 0, .int .i64 0] := ⟨(.agg #[.int .i64 0, .int .i64 0]), by kernel_rfl, rfl, by decide⟩
theorem z43 : Zt Try.prog 43 [.int .i64 0, .int .i64 0] := ⟨(.agg #[.int .i64 0, .int .i64 0]), by kernel_rfl, rfl, by decide⟩
theorem z45 : Zt Try.prog 45 [.int .i64 0, .string ⟨#[]⟩, .string ⟨#[]⟩, .int .i64 0, .int .i64 0, .int .i64 0, .int .i64 0, .int .i64 0, .int .i64 0, .int .i64 0, .bool false, .int .i64 0, .slice none 0 0, .int .i64 0, .int .i64 0] := ⟨(.agg #[.int .i64 0, .string ⟨#[]⟩, .string ⟨#[]⟩, .int .i64 0, .int .i64 0, .int .i64 0, .int .i64 0, .int .i64 0, .int .i64 0, .int .i64 0, .bool false, .int .i64 0, .slice none 0 0, .int .i64 0, .int .i64 0]), by kernel_rfl, rfl, by decide⟩
theorem z5 : Zt Try.prog 5 [.int .u8 0] := ⟨(.int .u8 0), by kernel_rfl, rfl, by decide⟩
theorem z58 : Zt Try.prog 58 [.slice none 0 0, .int .i64 0] := ⟨(.agg #[.slice none 0 0, .int .i64 0]), by kernel_rfl, rfl, by decide⟩
theorem z66 : Zt Try.prog 66 [.int .i64 0, .int .i64 0] := ⟨(.agg #[.int .i64 0, .int .i64 0]), by kernel_rfl, rfl, by decide⟩
theorem z68 : Zt Try.prog 68 [.int .i64 0, .int .i64 0, .int .i64 0] := ⟨(.agg #[.int .i64 0, .int .i64 0, .int .i64 0]), by kernel_rfl, rfl, by decide⟩
theorem z9 : Zt Try.prog 9 [.string ⟨#[]⟩] := ⟨(.string ⟨#[]⟩), by kernel_rfl, rfl, by decide⟩
theorem z97 : Zt Try.prog 97 [.int .i64 0, .slice none 0 0, .bool false, .slice none 0 0] := ⟨(.agg #[.int .i64 0, .slice none 0 0, .bool false, .slice none 0 0]), by kernel_rfl, rfl, by decide⟩
theorem ck104 : cellK Try.prog 20 104 = [none, none] := by kernel_rfl
theorem ck22 : cellK Try.prog 20 22 = [some 1] := by kernel_rfl
theorem ck3 : cellK Try.prog 20 3 = [none] := by kernel_rfl
theorem ck35 : cellK Try.prog 20 35 = [none] := by kernel_rfl
theorem ck4 : cellK Try.prog 20 4 = [none] := by kernel_rfl
theorem ck41 : cellK Try.prog 20 41 = [some 1] := by kernel_rfl
theorem ck45 : cellK Try.prog 20 45 = [none, none, none, none, none, none, none, none, none, none, none, none, some 1, none, none] := by kernel_rfl
theorem ck5 : cellK Try.prog 20 5 = [none] := by kernel_rfl
theorem ck9 : cellK Try.prog 20 9 = [none] := by kernel_rfl
theorem ck97 : cellK Try.prog 20 97 = [none, some 1, none, some 4] := by kernel_rfl
theorem eg43 : Try.prog.eqGuardType Try.prog.depth 43 = false := by kernel_rfl
theorem sf43 : Try.prog.underlying 43 = some (.struct (Try.prog.fieldsOf 43)) := by kernel_rfl
theorem sh43 : Try.prog.stoodInHeld 43 = false := by kernel_rfl
theorem se43 (x y : api_Seal) (w : World) : (Op.equalIn 10000 43 (.agg #[.int .i64 x.Key, .int .i64 x.Sum]) (.agg #[.int .i64 y.Key, .int .i64 y.Sum])).run Try.prog w = .ok (decide (x = y)) w := by
 have u3 := Try.underlying3
 have a3 := Try.isAgg3
 have z3 := Try.sizeOf3
 rw [show (10000 : Nat) = 9999 + 1 from rfl, run_equalIn_agg w 9999 43 _ _ sf43 sh43]
 simp only [Program.fieldsOf, Try.underlying43]
 go_simp
 rcases x with ⟨x0, x1⟩
 rcases y with ⟨y0, y1⟩
 by_cases h0 : x0 = y0 <;> by_cases h1 : x1 = y1 <;> simp [h0, h1]
theorem steq43_eql (x y : api_Seal) {X Y : Operand} {tk : Nat} {yt ty : TypeId} {b1 b2 : Option LB} : OpR Try.prog tk (.binOp .eql 43 X Y yt) ty [(.agg [.val (.int .i64 x.Key), .val (.int .i64 x.Sum)], b1), (.agg [.val (.int .i64 y.Key), .val (.int .i64 y.Sum)], b2)] [] (v0 (.val (.bool (decide (x = y))))) :=
 .binOpA rfl rfl (fun _ _ => rfl) (fun w => by
  rw [Sem.run_bind, run_eqGuard_agg w _ 43 X Y _ _ eg43]
  simp only [Result.andThen_ok, run_eql_struct]
  exact congrArg (fun r => Result.andThen r _) (se43 x y w))
end Go.Proofs.Ytadjcdhcdmiifaa
