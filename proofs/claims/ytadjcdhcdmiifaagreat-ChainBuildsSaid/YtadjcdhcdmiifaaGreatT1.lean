/- Encodings; what is known of types. -/
import Derived.Test.YtadjcdhcdmiifaaGreatEF
import Derived.Test.YtadjcdhcdmiifaaGreatP1
import Derived.Test.YtadjcdhcdmiifaaGreatProg
set_option linter.unusedVariables false
set_option linter.unusedSimpArgs false
set_option maxRecDepth 100000
set_option maxHeartbeats 1600000
namespace Go.Proofs.YtadjcdhcdmiifaaGreat
open Go.RowKit

abbrev cipherplanmake_Dice.dv (x : cipherplanmake_Dice) : List DV := [.sl 1 (encL eI x.L), .val (.int .i64 x.At)]
def cipherplanmake_Dice.enc (x : cipherplanmake_Dice) : List C := [.sl 1 (encL eI x.L), .int .i64 x.At]
theorem cipherplanmake_Dice.enc_len (x : cipherplanmake_Dice) : (cipherplanmake_Dice.enc x).length = 2 := rfl
abbrev api_Use.dv (x : api_Use) : List DV := [.val (.int .i64 x.Alg), .val (.int .i64 x.Bits)]
def api_Use.enc (x : api_Use) : List C := [.int .i64 x.Alg, .int .i64 x.Bits]
theorem api_Use.enc_len (x : api_Use) : (api_Use.enc x).length = 2 := rfl
abbrev api_Seal.dv (x : api_Seal) : List DV := [.val (.int .i64 x.Key), .val (.int .i64 x.Sum)]
def api_Seal.enc (x : api_Seal) : List C := [.int .i64 x.Key, .int .i64 x.Sum]
theorem api_Seal.enc_len (x : api_Seal) : (api_Seal.enc x).length = 2 := rfl
abbrev api_Certificate.dv (x : api_Certificate) : List DV := [.val (.int .i64 x.Serial), .val (.string x.Issuer), .val (.string x.Subject), .val (.int .i64 x.Key.Alg), .val (.int .i64 x.Key.Bits), .val (.int .i64 x.KeyId), .val (.int .i64 x.Hash.Alg), .val (.int .i64 x.Hash.Bits), .val (.int .i64 x.From), .val (.int .i64 x.To), .val (.bool x.Authority), .val (.int .i64 x.Path), .sl 1 (encL eS x.Names), .val (.int .i64 x.Seal.Key), .val (.int .i64 x.Seal.Sum)]
def api_Certificate.enc (x : api_Certificate) : List C := [.int .i64 x.Serial, .str x.Issuer, .str x.Subject, .int .i64 x.Key.Alg, .int .i64 x.Key.Bits, .int .i64 x.KeyId, .int .i64 x.Hash.Alg, .int .i64 x.Hash.Bits, .int .i64 x.From, .int .i64 x.To, .bool x.Authority, .int .i64 x.Path, .sl 1 (encL eS x.Names), .int .i64 x.Seal.Key, .int .i64 x.Seal.Sum]
theorem api_Certificate.enc_len (x : api_Certificate) : (api_Certificate.enc x).length = 15 := rfl
abbrev cipherplanref02_row.dv (x : cipherplanref02_row) : List DV := [.val (.string x.name), .val (.int .i64 x.kind)]
def cipherplanref02_row.enc (x : cipherplanref02_row) : List C := [.str x.name, .int .i64 x.kind]
theorem cipherplanref02_row.enc_len (x : cipherplanref02_row) : (cipherplanref02_row.enc x).length = 2 := rfl
mutual
def api_Value.enc : api_Value → List C
 | ⟨Tag, Bytes, Nested, Elements⟩ => [.int .i64 Tag, .sl 1 (encL e8 Bytes), .bool Nested, .sl 4 (api_Value.encs Elements)]
def api_Value.encs : List api_Value → List C
 | [] => []
 | x :: l => api_Value.enc x ++ api_Value.encs l
end
theorem api_Value.encs_eq : ∀ (l : List api_Value), api_Value.encs l = encL api_Value.enc l
 | [] => rfl
 | x :: l => by
  show api_Value.enc x ++ api_Value.encs l = api_Value.enc x ++ encL api_Value.enc l
  rw [api_Value.encs_eq l]
theorem api_Value.enc_eq (x : api_Value) : api_Value.enc x = [.int .i64 x.Tag, .sl 1 (encL e8 x.Bytes), .bool x.Nested, .sl 4 (encL api_Value.enc x.Elements)] := by
 cases x
 simp only [api_Value.enc, api_Value.encs_eq]
theorem api_Value.enc_len (x : api_Value) : (api_Value.enc x).length = 4 := by rw [api_Value.enc_eq]; rfl
abbrev api_Value.dv (x : api_Value) : List DV := [.val (.int .i64 x.Tag), .sl 1 (encL e8 x.Bytes), .val (.bool x.Nested), .sl 4 (encL api_Value.enc x.Elements)]
abbrev catalog_row.dv (x : catalog_row) : List DV := [.val (.string x.name), .val (.int .i64 x.kind), .val (.int .i64 x.way), .sl 1 (encL eI x.sizes), .sl 1 (encL eI x.strengths)]
def catalog_row.enc (x : catalog_row) : List C := [.str x.name, .int .i64 x.kind, .int .i64 x.way, .sl 1 (encL eI x.sizes), .sl 1 (encL eI x.strengths)]
theorem catalog_row.enc_len (x : catalog_row) : (catalog_row.enc x).length = 5 := rfl
abbrev chain_search.dv (x : chain_search) : List DV := [.sl 15 (encL api_Certificate.enc x.pool), .sl 1 (encL eI x.anchors), .sl 1 (encL eI x.hashes), .val (.int .i64 x.day), .val (.string x.name)]
def chain_search.enc (x : chain_search) : List C := [.sl 15 (encL api_Certificate.enc x.pool), .sl 1 (encL eI x.anchors), .sl 1 (encL eI x.hashes), .int .i64 x.day, .str x.name]
theorem chain_search.enc_len (x : chain_search) : (chain_search.enc x).length = 5 := rfl
theorem und3 : Tryz.prog.underlying 3 = some (.int .i64) := by kernel_rfl
theorem und4 : Tryz.prog.underlying 4 = some (.bool) := by kernel_rfl
theorem und5 : Tryz.prog.underlying 5 = some (.int .u8) := by kernel_rfl
theorem und9 : Tryz.prog.underlying 9 = some (.string) := by kernel_rfl
theorem und30 : Tryz.prog.underlying 30 = some (.struct ((match Tryz.prog.underlying 30 with | some (.struct f) => f | _ => #[]))) := by kernel_rfl
theorem und31 : Tryz.prog.underlying 31 = some (.slice 9) := by kernel_rfl
theorem und33 : Tryz.prog.underlying 33 = some (.struct ((match Tryz.prog.underlying 33 with | some (.struct f) => f | _ => #[]))) := by kernel_rfl
theorem und35 : Tryz.prog.underlying 35 = some (.struct ((match Tryz.prog.underlying 35 with | some (.struct f) => f | _ => #[]))) := by kernel_rfl
theorem und69 : Tryz.prog.underlying 69 = some (.struct ((match Tryz.prog.underlying 69 with | some (.struct f) => f | _ => #[]))) := by kernel_rfl
theorem und75 : Tryz.prog.underlying 75 = some (.struct ((match Tryz.prog.underlying 75 with | some (.struct f) => f | _ => #[]))) := by kernel_rfl
theorem und105 : Tryz.prog.underlying 105 = some (.slice 5) := by kernel_rfl
theorem und112 : Tryz.prog.underlying 112 = some (.array 2 40) := by kernel_rfl
theorem und114 : Tryz.prog.underlying 114 = some (.array 3 40) := by kernel_rfl
theorem und143 : Tryz.prog.underlying 143 = some (.struct ((match Tryz.prog.underlying 143 with | some (.struct f) => f | _ => #[]))) := by kernel_rfl
theorem und145 : Tryz.prog.underlying 145 = some (.int .u32) := by kernel_rfl
theorem und163 : Tryz.prog.underlying 163 = some (.struct ((match Tryz.prog.underlying 163 with | some (.struct f) => f | _ => #[]))) := by kernel_rfl
theorem und193 : Tryz.prog.underlying 193 = some (.struct ((match Tryz.prog.underlying 193 with | some (.struct f) => f | _ => #[]))) := by kernel_rfl
theorem und198 : Tryz.prog.underlying 198 = some (.int .u64) := by kernel_rfl
theorem und199 : Tryz.prog.underlying 199 = some (.array 23 193) := by kernel_rfl
theorem und201 : Tryz.prog.underlying 201 = some (.array 2 3) := by kernel_rfl
theorem und202 : Tryz.prog.underlying 202 = some (.array 5 201) := by kernel_rfl
theorem fd143_0 : Fd Tryz.prog 143 0 0 3 := ⟨_, (match Tryz.prog.underlying 143 with | some (.struct f) => f | _ => #[])[0]!, und143, by kernel_rfl, by kernel_rfl, by kernel_rfl⟩
theorem fd143_1 : Fd Tryz.prog 143 1 1 105 := ⟨_, (match Tryz.prog.underlying 143 with | some (.struct f) => f | _ => #[])[1]!, und143, by kernel_rfl, by kernel_rfl, by kernel_rfl⟩
theorem fd143_2 : Fd Tryz.prog 143 2 2 4 := ⟨_, (match Tryz.prog.underlying 143 with | some (.struct f) => f | _ => #[])[2]!, und143, by kernel_rfl, by kernel_rfl, by kernel_rfl⟩
theorem fd143_3 : Fd Tryz.prog 143 3 3 141 := ⟨_, (match Tryz.prog.underlying 143 with | some (.struct f) => f | _ => #[])[3]!, und143, by kernel_rfl, by kernel_rfl, by kernel_rfl⟩
theorem fd163_1 : Fd Tryz.prog 163 1 1 3 := ⟨_, (match Tryz.prog.underlying 163 with | some (.struct f) => f | _ => #[])[1]!, und163, by kernel_rfl, by kernel_rfl, by kernel_rfl⟩
theorem fd193_1 : Fd Tryz.prog 193 1 1 3 := ⟨_, (match Tryz.prog.underlying 193 with | some (.struct f) => f | _ => #[])[1]!, und193, by kernel_rfl, by kernel_rfl, by kernel_rfl⟩
theorem fd193_2 : Fd Tryz.prog 193 2 2 3 := ⟨_, (match Tryz.prog.underlying 193 with | some (.struct f) => f | _ => #[])[2]!, und193, by kernel_rfl, by kernel_rfl, by kernel_rfl⟩
theorem fd193_3 : Fd Tryz.prog 193 3 3 22 := ⟨_, (match Tryz.prog.underlying 193 with | some (.struct f) => f | _ => #[])[3]!, und193, by kernel_rfl, by kernel_rfl, by kernel_rfl⟩
theorem fd193_4 : Fd Tryz.prog 193 4 4 22 := ⟨_, (match Tryz.prog.underlying 193 with | some (.struct f) => f | _ => #[])[4]!, und193, by kernel_rfl, by kernel_rfl, by kernel_rfl⟩
theorem fd30_0 : Fd Tryz.prog 30 0 0 3 := ⟨_, (match Tryz.prog.underlying 30 with | some (.struct f) => f | _ => #[])[0]!, und30, by kernel_rfl, by kernel_rfl, by kernel_rfl⟩
theorem fd30_1 : Fd Tryz.prog 30 1 1 3 := ⟨_, (match Tryz.prog.underlying 30 with | some (.struct f) => f | _ => #[])[1]!, und30, by kernel_rfl, by kernel_rfl, by kernel_rfl⟩
theorem fd33_0 : Fd Tryz.prog 33 0 0 3 := ⟨_, (match Tryz.prog.underlying 33 with | some (.struct f) => f | _ => #[])[0]!, und33, by kernel_rfl, by kernel_rfl, by kernel_rfl⟩
theorem fd33_1 : Fd Tryz.prog 33 1 1 3 := ⟨_, (match Tryz.prog.underlying 33 with | some (.struct f) => f | _ => #[])[1]!, und33, by kernel_rfl, by kernel_rfl, by kernel_rfl⟩
theorem fd35_0 : Fd Tryz.prog 35 0 0 3 := ⟨_, (match Tryz.prog.underlying 35 with | some (.struct f) => f | _ => #[])[0]!, und35, by kernel_rfl, by kernel_rfl, by kernel_rfl⟩
theorem fd35_1 : Fd Tryz.prog 35 1 1 9 := ⟨_, (match Tryz.prog.underlying 35 with | some (.struct f) => f | _ => #[])[1]!, und35, by kernel_rfl, by kernel_rfl, by kernel_rfl⟩
theorem fd35_10 : Fd Tryz.prog 35 10 12 31 := ⟨_, (match Tryz.prog.underlying 35 with | some (.struct f) => f | _ => #[])[10]!, und35, by kernel_rfl, by kernel_rfl, by kernel_rfl⟩
theorem fd35_11 : Fd Tryz.prog 35 11 13 33 := ⟨_, (match Tryz.prog.underlying 35 with | some (.struct f) => f | _ => #[])[11]!, und35, by kernel_rfl, by kernel_rfl, by kernel_rfl⟩
theorem fd35_2 : Fd Tryz.prog 35 2 2 9 := ⟨_, (match Tryz.prog.underlying 35 with | some (.struct f) => f | _ => #[])[2]!, und35, by kernel_rfl, by kernel_rfl, by kernel_rfl⟩
theorem fd35_3 : Fd Tryz.prog 35 3 3 30 := ⟨_, (match Tryz.prog.underlying 35 with | some (.struct f) => f | _ => #[])[3]!, und35, by kernel_rfl, by kernel_rfl, by kernel_rfl⟩
theorem fd35_4 : Fd Tryz.prog 35 4 5 3 := ⟨_, (match Tryz.prog.underlying 35 with | some (.struct f) => f | _ => #[])[4]!, und35, by kernel_rfl, by kernel_rfl, by kernel_rfl⟩
theorem fd35_5 : Fd Tryz.prog 35 5 6 30 := ⟨_, (match Tryz.prog.underlying 35 with | some (.struct f) => f | _ => #[])[5]!, und35, by kernel_rfl, by kernel_rfl, by kernel_rfl⟩
theorem fd35_6 : Fd Tryz.prog 35 6 8 3 := ⟨_, (match Tryz.prog.underlying 35 with | some (.struct f) => f | _ => #[])[6]!, und35, by kernel_rfl, by kernel_rfl, by kernel_rfl⟩
theorem fd35_7 : Fd Tryz.prog 35 7 9 3 := ⟨_, (match Tryz.prog.underlying 35 with | some (.struct f) => f | _ => #[])[7]!, und35, by kernel_rfl, by kernel_rfl, by kernel_rfl⟩
theorem fd35_8 : Fd Tryz.prog 35 8 10 4 := ⟨_, (match Tryz.prog.underlying 35 with | some (.struct f) => f | _ => #[])[8]!, und35, by kernel_rfl, by kernel_rfl, by kernel_rfl⟩
theorem fd35_9 : Fd Tryz.prog 35 9 11 3 := ⟨_, (match Tryz.prog.underlying 35 with | some (.struct f) => f | _ => #[])[9]!, und35, by kernel_rfl, by kernel_rfl, by kernel_rfl⟩
theorem fd69_0 : Fd Tryz.prog 69 0 0 22 := ⟨_, (match Tryz.prog.underlying 69 with | some (.struct f) => f | _ => #[])[0]!, und69, by kernel_rfl, by kernel_rfl, by kernel_rfl⟩
theorem fd69_1 : Fd Tryz.prog 69 1 1 3 := ⟨_, (match Tryz.prog.underlying 69 with | some (.struct f) => f | _ => #[])[1]!, und69, by kernel_rfl, by kernel_rfl, by kernel_rfl⟩
theorem fd75_0 : Fd Tryz.prog 75 0 0 27 := ⟨_, (match Tryz.prog.underlying 75 with | some (.struct f) => f | _ => #[])[0]!, und75, by kernel_rfl, by kernel_rfl, by kernel_rfl⟩
theorem fd75_1 : Fd Tryz.prog 75 1 1 22 := ⟨_, (match Tryz.prog.underlying 75 with | some (.struct f) => f | _ => #[])[1]!, und75, by kernel_rfl, by kernel_rfl, by kernel_rfl⟩
theorem fd75_2 : Fd Tryz.prog 75 2 2 22 := ⟨_, (match Tryz.prog.underlying 75 with | some (.struct f) => f | _ => #[])[2]!, und75, by kernel_rfl, by kernel_rfl, by kernel_rfl⟩
theorem fd75_3 : Fd Tryz.prog 75 3 3 3 := ⟨_, (match Tryz.prog.underlying 75 with | some (.struct f) => f | _ => #[])[3]!, und75, by kernel_rfl, by kernel_rfl, by kernel_rfl⟩
theorem fd75_4 : Fd Tryz.prog 75 4 4 9 := ⟨_, (match Tryz.prog.underlying 75 with | some (.struct f) => f | _ => #[])[4]!, und75, by kernel_rfl, by kernel_rfl, by kernel_rfl⟩
theorem pl143 : ((match Tryz.prog.underlying 143 with | some (.struct f) => f | _ => #[]) : Array Field).toList.map (fun f => (Tryz.prog.info? f.type).map fun i => (f.offset, i.size)) = [(0, 1), (1, 1), (2, 1), (3, 1)].map some := by kernel_rfl
theorem pl163 : ((match Tryz.prog.underlying 163 with | some (.struct f) => f | _ => #[]) : Array Field).toList.map (fun f => (Tryz.prog.info? f.type).map fun i => (f.offset, i.size)) = [(0, 1), (1, 1)].map some := by kernel_rfl
theorem pl193 : ((match Tryz.prog.underlying 193 with | some (.struct f) => f | _ => #[]) : Array Field).toList.map (fun f => (Tryz.prog.info? f.type).map fun i => (f.offset, i.size)) = [(0, 1), (1, 1), (2, 1), (3, 1), (4, 1)].map some := by kernel_rfl
theorem pl30 : ((match Tryz.prog.underlying 30 with | some (.struct f) => f | _ => #[]) : Array Field).toList.map (fun f => (Tryz.prog.info? f.type).map fun i => (f.offset, i.size)) = [(0, 1), (1, 1)].map some := by kernel_rfl
theorem pl33 : ((match Tryz.prog.underlying 33 with | some (.struct f) => f | _ => #[]) : Array Field).toList.map (fun f => (Tryz.prog.info? f.type).map fun i => (f.offset, i.size)) = [(0, 1), (1, 1)].map some := by kernel_rfl
theorem pl35 : ((match Tryz.prog.underlying 35 with | some (.struct f) => f | _ => #[]) : Array Field).toList.map (fun f => (Tryz.prog.info? f.type).map fun i => (f.offset, i.size)) = [(0, 1), (1, 1), (2, 1), (3, 2), (5, 1), (6, 2), (8, 1), (9, 1), (10, 1), (11, 1), (12, 1), (13, 2)].map some := by kernel_rfl
theorem pl69 : ((match Tryz.prog.underlying 69 with | some (.struct f) => f | _ => #[]) : Array Field).toList.map (fun f => (Tryz.prog.info? f.type).map fun i => (f.offset, i.size)) = [(0, 1), (1, 1)].map some := by kernel_rfl
theorem pl75 : ((match Tryz.prog.underlying 75 with | some (.struct f) => f | _ => #[]) : Array Field).toList.map (fun f => (Tryz.prog.info? f.type).map fun i => (f.offset, i.size)) = [(0, 1), (1, 1), (2, 1), (3, 1), (4, 1)].map some := by kernel_rfl
theorem sl105 : SlT Tryz.prog 105 5 1 1 := SlT.mk' (z := (.int .u8 0)) (by kernel_rfl) (by kernel_rfl) rfl (by decide) (by decide)
theorem sl141 : SlT Tryz.prog 141 143 4 64 := SlT.mk' (z := (.agg #[.int .i64 0, .slice none 0 0, .bool false, .slice none 0 0])) (by kernel_rfl) (by kernel_rfl) rfl (by decide) (by decide)
theorem sl149 : SlT Tryz.prog 149 40 1 8 := SlT.mk' (z := (.int .i64 0)) (by kernel_rfl) (by kernel_rfl) rfl (by decide) (by decide)
theorem sl164 : SlT Tryz.prog 164 163 2 24 := SlT.mk' (z := (.agg #[.string ⟨#[]⟩, .int .i64 0])) (by kernel_rfl) (by kernel_rfl) rfl (by decide) (by decide)
theorem sl22 : SlT Tryz.prog 22 3 1 8 := SlT.mk' (z := (.int .i64 0)) (by kernel_rfl) (by kernel_rfl) rfl (by decide) (by decide)
theorem sl27 : SlT Tryz.prog 27 35 15 152 := SlT.mk' (z := (.agg #[.int .i64 0, .string ⟨#[]⟩, .string ⟨#[]⟩, .int .i64 0, .int .i64 0, .int .i64 0, .int .i64 0, .int .i64 0, .int .i64 0, .int .i64 0, .bool false, .int .i64 0, .slice none 0 0, .int .i64 0, .int .i64 0])) (by kernel_rfl) (by kernel_rfl) rfl (by decide) (by decide)
theorem sl31 : SlT Tryz.prog 31 9 1 16 := SlT.mk' (z := (.string ⟨#[]⟩)) (by kernel_rfl) (by kernel_rfl) rfl (by decide) (by decide)
theorem sl37 : SlT Tryz.prog 37 22 1 24 := SlT.mk' (z := (.slice none 0 0)) (by kernel_rfl) (by kernel_rfl) rfl (by decide) (by decide)
theorem sl78 : SlT Tryz.prog 78 4 1 1 := SlT.mk' (z := (.bool false)) (by kernel_rfl) (by kernel_rfl) rfl (by decide) (by decide)
theorem ty105 : Ty Tryz.prog 105 false 1 := ⟨by kernel_rfl, by kernel_rfl⟩
theorem ty141 : Ty Tryz.prog 141 false 1 := ⟨by kernel_rfl, by kernel_rfl⟩
theorem ty143 : Ty Tryz.prog 143 true 4 := ⟨by kernel_rfl, by kernel_rfl⟩
theorem ty193 : Ty Tryz.prog 193 true 5 := ⟨by kernel_rfl, by kernel_rfl⟩
theorem ty199 : Ty Tryz.prog 199 true 115 := ⟨by kernel_rfl, by kernel_rfl⟩
theorem ty201 : Ty Tryz.prog 201 true 2 := ⟨by kernel_rfl, by kernel_rfl⟩
theorem ty22 : Ty Tryz.prog 22 false 1 := ⟨by kernel_rfl, by kernel_rfl⟩
theorem ty27 : Ty Tryz.prog 27 false 1 := ⟨by kernel_rfl, by kernel_rfl⟩
theorem ty3 : Ty Tryz.prog 3 false 1 := ⟨by kernel_rfl, by kernel_rfl⟩
theorem ty30 : Ty Tryz.prog 30 true 2 := ⟨by kernel_rfl, by kernel_rfl⟩
theorem ty31 : Ty Tryz.prog 31 false 1 := ⟨by kernel_rfl, by kernel_rfl⟩
theorem ty33 : Ty Tryz.prog 33 true 2 := ⟨by kernel_rfl, by kernel_rfl⟩
theorem ty35 : Ty Tryz.prog 35 true 15 := ⟨by kernel_rfl, by kernel_rfl⟩
theorem ty4 : Ty Tryz.prog 4 false 1 := ⟨by kernel_rfl, by kernel_rfl⟩
theorem ty40 : Ty Tryz.prog 40 false 1 := ⟨by kernel_rfl, by kernel_rfl⟩
theorem ty5 : Ty Tryz.prog 5 false 1 := ⟨by kernel_rfl, by kernel_rfl⟩
theorem ty75 : Ty Tryz.prog 75 true 5 := ⟨by kernel_rfl, by kernel_rfl⟩
theorem ty9 : Ty Tryz.prog 9 false 1 := ⟨by kernel_rfl, by kernel_rfl⟩
theorem z112 : Zt Tryz.prog 112 [.int .i64 0, .int .i64 0] := ⟨(.agg #[.int .i64 0, .int .i64 0]), by kernel_rfl, rfl, by decide⟩
theorem z114 : Zt Tryz.prog 114 [.int .i64 0, .int .i64 0, .int .i64 0] := ⟨(.agg #[.int .i64 0, .int .i64 0, .int .i64 0]), by kernel_rfl, rfl, by decide⟩
theorem z143 : Zt Tryz.prog 143 [.int .i64 0, .slice none 0 0, .bool false, .slice none 0 0] := ⟨(.agg #[.int .i64 0, .slice none 0 0, .bool false, .slice none 0 0]), by kernel_rfl, rfl, by decide⟩
theorem z163 : Zt Tryz.prog 163 [.string ⟨#[]⟩, .int .i64 0] := ⟨(.agg #[.string ⟨#[]⟩, .int .i64 0]), by kernel_rfl, rfl, by decide⟩
theorem z193 : Zt Tryz.prog 193 [.string ⟨#[]⟩, .int .i64 0, .int .i64 0, .slice none 0 0, .slice none 0 0] := ⟨(.agg #[.string ⟨#[]⟩, .int .i64 0, .int .i64 0, .slice none 0 0, .slice none 0 0]), by kernel_rfl, rfl, by decide⟩
theorem z199 : Zt Tryz.prog 199 [.string ⟨#[]⟩, .int .i64 0, .int .i64 0, .slice none 0 0, .slice none 0 0, .string ⟨#[]⟩, .int .i64 0, .int .i64 0, .slice none 0 0, .slice none 0 0, .string ⟨#[]⟩, .int .i64 0, .int .i64 0, .slice none 0 0, .slice none 0 0, .string ⟨#[]⟩, .int .i64 0, .int .i64 0, .slice none 0 0, .slice none 0 0, .string ⟨#[]⟩, .int .i64 0, .int .i64 0, .slice none 0 0, .slice none 0 0, .string ⟨#[]⟩, .int .i64 0, .int .i64 0, .slice none 0 0, .slice none 0 0, .string ⟨#[]⟩, .int .i64 0, .int .i64 0, .slice none 0 0, .slice none 0 0, .string ⟨#[]⟩, .int .i64 0, .int .i64 0, .slice none 0 0, .slice none 0 0, .string ⟨#[]⟩, .int .i64 0, .int .i64 0, .slice none 0 0, .slice none 0 0, .string ⟨#[]⟩, .int .i64 0, .int .i64 0, .slice none 0 0, .slice none 0 0, .string ⟨#[]⟩, .int .i64 0, .int .i64 0, .slice none 0 0, .slice none 0 0, .string ⟨#[]⟩, .int .i64 0, .int .i64 0, .slice none 0 0, .slice none 0 0, .string ⟨#[]⟩, .int .i64 0, .int .i64 0, .slice none 0 0, .slice none 0 0, .string ⟨#[]⟩, .int .i64 0, .int .i64 0, .slice none 0 0, .slice none 0 0, .string ⟨#[]⟩, .int .i64 0, .int .i64 0, .slice none 0 0, .slice none 0 0, .string ⟨#[]⟩, .int .i64 0, .int .i64 0, .slice none 0 0, .slice none 0 0, .string ⟨#[]⟩, .int .i64 0, .int .i64 0, .slice none 0 0, .slice none 0 0, .string ⟨#[]⟩, .int .i64 0, .int .i64 0, .slice none 0 0, .slice none 0 0, .string ⟨#[]⟩, .int .i64 0, .int .i64 0, .slice none 0 0, .slice none 0 0, .string ⟨#[]⟩, .int .i64 0, .int .i64 0, .slice none 0 0, .slice none 0 0, .string ⟨#[]⟩, .int .i64 0, .int .i64 0, .slice none 0 0, .slice none 0 0, .string ⟨#[]⟩, .int .i64 0, .int .i64 0, .slice none 0 0, .slice none 0 0, .string ⟨#[]⟩, .int .i64 0, .int .i64 0, .slice none 0 0, .slice none 0 0] := ⟨(.agg #[.string ⟨#[]⟩, .int .i64 0, .int .i64 0, .slice none 0 0, .slice none 0 0, .string ⟨#[]⟩, .int .i64 0, .int .i64 0, .slice none 0 0, .slice none 0 0, .string ⟨#[]⟩, .int .i64 0, .int .i64 0, .slice none 0 0, .slice none 0 0, .string ⟨#[]⟩, .int .i64 0, .int .i64 0, .slice none 0 0, .slice none 0 0, .string ⟨#[]⟩, .int .i64 0, .int .i64 0, .slice none 0 0, .slice none 0 0, .string ⟨#[]⟩, .int .i64 0, .int .i64 0, .slice none 0 0, .slice none 0 0, .string ⟨#[]⟩, .int .i64 0, .int .i64 0, .slice none 0 0, .slice none 0 0, .string ⟨#[]⟩, .int .i64 0, .int .i64 0, .slice none 0 0, .slice none 0 0, .string ⟨#[]⟩, .int .i64 0, .int .i64 0, .slice none 0 0, .slice none 0 0, .string ⟨#[]⟩, .int .i64 0, .int .i64 0, .slice none 0 0, .slice none 0 0, .string ⟨#[]⟩, .int .i64 0, .int .i64 0, .slice none 0 0, .slice none 0 0, .string ⟨#[]⟩, .int .i64 0, .int .i64 0, .slice none 0 0, .slice none 0 0, .string ⟨#[]⟩, .int .i64 0, .int .i64 0, .slice none 0 0, .slice none 0 0, .string ⟨#[]⟩, .int .i64 0, .int .i64 0, .slice none 0 0, .slice none 0 0, .string ⟨#[]⟩, .int .i64 0, .int .i64 0, .slice none 0 0, .slice none 0 0, .string ⟨#[]⟩, .int .i64 0, .int .i64 0, .slice none 0 0, .slice none 0 0, .string ⟨#[]⟩, .int .i64 0, .int .i64 0, .slice none 0 0, .slice none 0 0, .string ⟨#[]⟩, .int .i64 0, .int .i64 0, .slice none 0 0, .slice none 0 0, .string ⟨#[]⟩, .int .i64 0, .int .i64 0, .slice none 0 0, .slice none 0 0, .string ⟨#[]⟩, .int .i64 0, .int .i64 0, .slice none 0 0, .slice none 0 0, .string ⟨#[]⟩, .int .i64 0, .int .i64 0, .slice none 0 0, .slice none 0 0, .string ⟨#[]⟩, .int .i64 0, .int .i64 0, .slice none 0 0, .slice none 0 0, .string ⟨#[]⟩, .int .i64 0, .int .i64 0, .slice none 0 0, .slice none 0 0]), by kernel_rfl, rfl, by decide⟩
theorem z201 : Zt Tryz.prog 201 [.int .i64 0, .int .i64 0] := ⟨(.agg #[.int .i64 0, .int .i64 0]), by kernel_rfl, rfl, by decide⟩
theorem z202 : Zt Tryz.prog 202 [.int .i64 0, .int .i64 0, .int .i64 0, .int .i64 0, .int .i64 0, .int .i64 0, .int .i64 0, .int .i64 0, .int .i64 0, .int .i64 0] := ⟨(.agg #[.int .i64 0, .int .i64 0, .int .i64 0, .int .i64 0, .int .i64 0, .int .i64 0, .int .i64 0, .int .i64 0, .int .i64 0, .int .i64 0]), by kernel_rfl, rfl, by decide⟩
theorem z22 : Zt Tryz.prog 22 [.slice none 0 0] := ⟨(.slice none 0 0), by kernel_rfl, rfl, by decide⟩
theorem z3 : Zt Tryz.prog 3 [.int .i64 0] := ⟨(.int .i64 0), by kernel_rfl, rfl, by decide⟩
theorem z30 : Zt Tryz.prog 30 [.int .i64 0, .int .i64 0] := ⟨(.agg #[.int .i64 0, .int .i64 0]), by kernel_rfl, rfl, by decide⟩
theorem z33 : Zt Tryz.prog 33 [.int .i64 0, .int .i64 0] := ⟨(.agg #[.int .i64 0, .int .i64 0]), by kernel_rfl, rfl, by decide⟩
theorem z35 : Zt Tryz.prog 35 [.int .i64 0, .string ⟨#[]⟩, .string ⟨#[]⟩, .int .i64 0, .int .i64 0, .int .i64 0, .int .i64 0, .int .i64 0, .int .i64 0, .int .i64 0, .bool false, .int .i64 0, .slice none 0 0, .int .i64 0, .int .i64 0] := ⟨(.agg #[.int .i64 0, .string ⟨#[]⟩, .string ⟨#[]⟩, .int .i64 0, .int .i64 0, .int .i64 0, .int .i64 0, .int .i64 0, .int .i64 0, .int .i64 0, .bool false, .int .i64 0, .slice none 0 0, .int .i64 0, .int .i64 0]), by kernel_rfl, rfl, by decide⟩
theorem z4 : Zt Tryz.prog 4 [.bool false] := ⟨(.bool false), by kernel_rfl, rfl, by decide⟩
theorem z40 : Zt Tryz.prog 40 [.int .i64 0] := ⟨(.int .i64 0), by kernel_rfl, rfl, by decide⟩
theorem z5 : Zt Tryz.prog 5 [.int .u8 0] := ⟨(.int .u8 0), by kernel_rfl, rfl, by decide⟩
theorem z69 : Zt Tryz.prog 69 [.slice none 0 0, .int .i64 0] := ⟨(.agg #[.slice none 0 0, .int .i64 0]), by kernel_rfl, rfl, by decide⟩
theorem z75 : Zt Tryz.prog 75 [.slice none 0 0, .slice none 0 0, .slice none 0 0, .int .i64 0, .string ⟨#[]⟩] := ⟨(.agg #[.slice none 0 0, .slice none 0 0, .slice none 0 0, .int .i64 0, .string ⟨#[]⟩]), by kernel_rfl, rfl, by decide⟩
theorem z9 : Zt Tryz.prog 9 [.string ⟨#[]⟩] := ⟨(.string ⟨#[]⟩), by kernel_rfl, rfl, by decide⟩
theorem ck143 : cellK Tryz.prog 20 143 = [none, some 1, none, some 4] := by kernel_rfl
theorem ck163 : cellK Tryz.prog 20 163 = [none, none] := by kernel_rfl
theorem ck22 : cellK Tryz.prog 20 22 = [some 1] := by kernel_rfl
theorem ck3 : cellK Tryz.prog 20 3 = [none] := by kernel_rfl
theorem ck31 : cellK Tryz.prog 20 31 = [some 1] := by kernel_rfl
theorem ck35 : cellK Tryz.prog 20 35 = [none, none, none, none, none, none, none, none, none, none, none, none, some 1, none, none] := by kernel_rfl
theorem ck4 : cellK Tryz.prog 20 4 = [none] := by kernel_rfl
theorem ck40 : cellK Tryz.prog 20 40 = [none] := by kernel_rfl
theorem ck5 : cellK Tryz.prog 20 5 = [none] := by kernel_rfl
theorem ck9 : cellK Tryz.prog 20 9 = [none] := by kernel_rfl
theorem eg30 : Tryz.prog.eqGuardType Tryz.prog.depth 30 = false := by kernel_rfl
theorem sf30 : Tryz.prog.underlying 30 = some (.struct (Tryz.prog.fieldsOf 30)) := by kernel_rfl
theorem sh30 : Tryz.prog.stoodInHeld 30 = false := by kernel_rfl
theorem se30 (x y : api_Use) (w : World) : (Op.equalIn 10000 30 (.agg #[.int .i64 x.Alg, .int .i64 x.Bits]) (.agg #[.int .i64 y.Alg, .int .i64 y.Bits])).run Tryz.prog w = .ok (decide (x = y)) w := by
 have u3 := Tryz.underlying3
 have a3 := Tryz.isAgg3
 have z3 := Tryz.sizeOf3
 rw [show (10000 : Nat) = 9999 + 1 from rfl, run_equalIn_agg w 9999 30 _ _ sf30 sh30]
 simp only [Program.fieldsOf, Tryz.underlying30]
 go_simp
 rcases x with ⟨x0, x1⟩
 rcases y with ⟨y0, y1⟩
 by_cases h0 : x0 = y0 <;> by_cases h1 : x1 = y1 <;> simp [h0, h1]
theorem steq30_eql (x y : api_Use) {X Y : Operand} {tk : Nat} {yt ty : TypeId} {b1 b2 : Option LB} : OpR Tryz.prog tk (.binOp .eql 30 X Y yt) ty [(.agg [.val (.int .i64 x.Alg), .val (.int .i64 x.Bits)], b1), (.agg [.val (.int .i64 y.Alg), .val (.int .i64 y.Bits)], b2)] [] (v0 (.val (.bool (decide (x = y))))) :=
 .binOpA rfl rfl (fun _ _ => rfl) (fun w => by
  rw [Sem.run_bind, run_eqGuard_agg w _ 30 X Y _ _ eg30]
  simp only [Result.andThen_ok, run_eql_struct]
  exact congrArg (fun r => Result.andThen r _) (se30 x y w))
theorem steq30_neq (x y : api_Use) {X Y : Operand} {tk : Nat} {yt ty : TypeId} {b1 b2 : Option LB} : OpR Tryz.prog tk (.binOp .neq 30 X Y yt) ty [(.agg [.val (.int .i64 x.Alg), .val (.int .i64 x.Bits)], b1), (.agg [.val (.int .i64 y.Alg), .val (.int .i64 y.Bits)], b2)] [] (v0 (.val (.bool (!decide (x = y))))) :=
 .binOpA rfl rfl (fun _ _ => rfl) (fun w => by
  rw [Sem.run_bind, run_eqGuard_agg w _ 30 X Y _ _ eg30]
  simp only [Result.andThen_ok, run_neq_struct]
  exact congrArg (fun r => Result.andThen r _) (se30 x y w))
theorem eg33 : Tryz.prog.eqGuardType Tryz.prog.depth 33 = false := by kernel_rfl
theorem sf33 : Tryz.prog.underlying 33 = some (.struct (Tryz.prog.fieldsOf 33)) := by kernel_rfl
theorem sh33 : Tryz.prog.stoodInHeld 33 = false := by kernel_rfl
theorem se33 (x y : api_Seal) (w : World) : (Op.equalIn 10000 33 (.agg #[.int .i64 x.Key, .int .i64 x.Sum]) (.agg #[.int .i64 y.Key, .int .i64 y.Sum])).run Tryz.prog w = .ok (decide (x = y)) w := by
 have u3 := Tryz.underlying3
 have a3 := Tryz.isAgg3
 have z3 := Tryz.sizeOf3
 rw [show (10000 : Nat) = 9999 + 1 from rfl, run_equalIn_agg w 9999 33 _ _ sf33 sh33]
 simp only [Program.fieldsOf, Tryz.underlying33]
 go_simp
 rcases x with ⟨x0, x1⟩
 rcases y with ⟨y0, y1⟩
 by_cases h0 : x0 = y0 <;> by_cases h1 : x1 = y1 <;> simp [h0, h1]
theorem steq33_eql (x y : api_Seal) {X Y : Operand} {tk : Nat} {yt ty : TypeId} {b1 b2 : Option LB} : OpR Tryz.prog tk (.binOp .eql 33 X Y yt) ty [(.agg [.val (.int .i64 x.Key), .val (.int .i64 x.Sum)], b1), (.agg [.val (.int .i64 y.Key), .val (.int .i64 y.Sum)], b2)] [] (v0 (.val (.bool (decide (x = y))))) :=
 .binOpA rfl rfl (fun _ _ => rfl) (fun w => by
  rw [Sem.run_bind, run_eqGuard_agg w _ 33 X Y _ _ eg33]
  simp only [Result.andThen_ok, run_eql_struct]
  exact congrArg (fun r => Result.andThen r _) (se33 x y w))
theorem steq33_neq (x y : api_Seal) {X Y : Operand} {tk : Nat} {yt ty : TypeId} {b1 b2 : Option LB} : OpR Tryz.prog tk (.binOp .neq 33 X Y yt) ty [(.agg [.val (.int .i64 x.Key), .val (.int .i64 x.Sum)], b1), (.agg [.val (.int .i64 y.Key), .val (.int .i64 y.Sum)], b2)] [] (v0 (.val (.bool (!decide (x = y))))) :=
 .binOpA rfl rfl (fun _ _ => rfl) (fun w => by
  rw [Sem.run_bind, run_eqGuard_agg w _ 33 X Y _ _ eg33]
  simp only [Result.andThen_ok, run_neq_struct]
  exact congrArg (fun r => Result.andThen r _) (se33 x y w))
instance : FdC Tryz.prog 143 0 0 3 := ⟨fd143_0⟩
instance : FdC Tryz.prog 143 1 1 105 := ⟨fd143_1⟩
instance : FdC Tryz.prog 143 2 2 4 := ⟨fd143_2⟩
instance : FdC Tryz.prog 143 3 3 141 := ⟨fd143_3⟩
instance : FdC Tryz.prog 163 1 1 3 := ⟨fd163_1⟩
instance : FdC Tryz.prog 193 1 1 3 := ⟨fd193_1⟩
instance : FdC Tryz.prog 193 2 2 3 := ⟨fd193_2⟩
instance : FdC Tryz.prog 193 3 3 22 := ⟨fd193_3⟩
instance : FdC Tryz.prog 193 4 4 22 := ⟨fd193_4⟩
instance : FdC Tryz.prog 30 0 0 3 := ⟨fd30_0⟩
instance : FdC Tryz.prog 30 1 1 3 := ⟨fd30_1⟩
instance : FdC Tryz.prog 33 0 0 3 := ⟨fd33_0⟩
instance : FdC Tryz.prog 33 1 1 3 := ⟨fd33_1⟩
instance : FdC Tryz.prog 35 0 0 3 := ⟨fd35_0⟩
instance : FdC Tryz.prog 35 1 1 9 := ⟨fd35_1⟩
instance : FdC Tryz.prog 35 10 12 31 := ⟨fd35_10⟩
instance : FdC Tryz.prog 35 11 13 33 := ⟨fd35_11⟩
instance : FdC Tryz.prog 35 2 2 9 := ⟨fd35_2⟩
instance : FdC Tryz.prog 35 3 3 30 := ⟨fd35_3⟩
instance : FdC Tryz.prog 35 4 5 3 := ⟨fd35_4⟩
instance : FdC Tryz.prog 35 5 6 30 := ⟨fd35_5⟩
instance : FdC Tryz.prog 35 6 8 3 := ⟨fd35_6⟩
instance : FdC Tryz.prog 35 7 9 3 := ⟨fd35_7⟩
instance : FdC Tryz.prog 35 8 10 4 := ⟨fd35_8⟩
instance : FdC Tryz.prog 35 9 11 3 := ⟨fd35_9⟩
instance : FdC Tryz.prog 69 0 0 22 := ⟨fd69_0⟩
instance : FdC Tryz.prog 69 1 1 3 := ⟨fd69_1⟩
instance : FdC Tryz.prog 75 0 0 27 := ⟨fd75_0⟩
instance : FdC Tryz.prog 75 1 1 22 := ⟨fd75_1⟩
instance : FdC Tryz.prog 75 2 2 22 := ⟨fd75_2⟩
instance : FdC Tryz.prog 75 3 3 3 := ⟨fd75_3⟩
instance : FdC Tryz.prog 75 4 4 9 := ⟨fd75_4⟩
instance : SlC Tryz.prog 105 5 1 1 := ⟨sl105⟩
instance : SlC Tryz.prog 141 143 4 64 := ⟨sl141⟩
instance : SlC Tryz.prog 149 40 1 8 := ⟨sl149⟩
instance : SlC Tryz.prog 164 163 2 24 := ⟨sl164⟩
instance : SlC Tryz.prog 22 3 1 8 := ⟨sl22⟩
instance : SlC Tryz.prog 27 35 15 152 := ⟨sl27⟩
instance : SlC Tryz.prog 31 9 1 16 := ⟨sl31⟩
instance : SlC Tryz.prog 37 22 1 24 := ⟨sl37⟩
instance : SlC Tryz.prog 78 4 1 1 := ⟨sl78⟩
instance : TyC Tryz.prog 105 false 1 := ⟨ty105⟩
instance : TyC Tryz.prog 141 false 1 := ⟨ty141⟩
instance : TyC Tryz.prog 143 true 4 := ⟨ty143⟩
instance : TyC Tryz.prog 193 true 5 := ⟨ty193⟩
instance : TyC Tryz.prog 199 true 115 := ⟨ty199⟩
instance : TyC Tryz.prog 201 true 2 := ⟨ty201⟩
instance : TyC Tryz.prog 22 false 1 := ⟨ty22⟩
instance : TyC Tryz.prog 27 false 1 := ⟨ty27⟩
instance : TyC Tryz.prog 3 false 1 := ⟨ty3⟩
instance : TyC Tryz.prog 30 true 2 := ⟨ty30⟩
instance : TyC Tryz.prog 31 false 1 := ⟨ty31⟩
instance : TyC Tryz.prog 33 true 2 := ⟨ty33⟩
instance : TyC Tryz.prog 35 true 15 := ⟨ty35⟩
instance : TyC Tryz.prog 4 false 1 := ⟨ty4⟩
instance : TyC Tryz.prog 40 false 1 := ⟨ty40⟩
instance : TyC Tryz.prog 5 false 1 := ⟨ty5⟩
instance : TyC Tryz.prog 75 true 5 := ⟨ty75⟩
instance : TyC Tryz.prog 9 false 1 := ⟨ty9⟩
instance : ZtC Tryz.prog 112 [.int .i64 0, .int .i64 0] := ⟨z112⟩
instance : ZtC Tryz.prog 114 [.int .i64 0, .int .i64 0, .int .i64 0] := ⟨z114⟩
instance : ZtC Tryz.prog 143 [.int .i64 0, .slice none 0 0, .bool false, .slice none 0 0] := ⟨z143⟩
instance : ZtC Tryz.prog 163 [.string ⟨#[]⟩, .int .i64 0] := ⟨z163⟩
instance : ZtC Tryz.prog 193 [.string ⟨#[]⟩, .int .i64 0, .int .i64 0, .slice none 0 0, .slice none 0 0] := ⟨z193⟩
instance : ZtC Tryz.prog 199 [.string ⟨#[]⟩, .int .i64 0, .int .i64 0, .slice none 0 0, .slice none 0 0, .string ⟨#[]⟩, .int .i64 0, .int .i64 0, .slice none 0 0, .slice none 0 0, .string ⟨#[]⟩, .int .i64 0, .int .i64 0, .slice none 0 0, .slice none 0 0, .string ⟨#[]⟩, .int .i64 0, .int .i64 0, .slice none 0 0, .slice none 0 0, .string ⟨#[]⟩, .int .i64 0, .int .i64 0, .slice none 0 0, .slice none 0 0, .string ⟨#[]⟩, .int .i64 0, .int .i64 0, .slice none 0 0, .slice none 0 0, .string ⟨#[]⟩, .int .i64 0, .int .i64 0, .slice none 0 0, .slice none 0 0, .string ⟨#[]⟩, .int .i64 0, .int .i64 0, .slice none 0 0, .slice none 0 0, .string ⟨#[]⟩, .int .i64 0, .int .i64 0, .slice none 0 0, .slice none 0 0, .string ⟨#[]⟩, .int .i64 0, .int .i64 0, .slice none 0 0, .slice none 0 0, .string ⟨#[]⟩, .int .i64 0, .int .i64 0, .slice none 0 0, .slice none 0 0, .string ⟨#[]⟩, .int .i64 0, .int .i64 0, .slice none 0 0, .slice none 0 0, .string ⟨#[]⟩, .int .i64 0, .int .i64 0, .slice none 0 0, .slice none 0 0, .string ⟨#[]⟩, .int .i64 0, .int .i64 0, .slice none 0 0, .slice none 0 0, .string ⟨#[]⟩, .int .i64 0, .int .i64 0, .slice none 0 0, .slice none 0 0, .string ⟨#[]⟩, .int .i64 0, .int .i64 0, .slice none 0 0, .slice none 0 0, .string ⟨#[]⟩, .int .i64 0, .int .i64 0, .slice none 0 0, .slice none 0 0, .string ⟨#[]⟩, .int .i64 0, .int .i64 0, .slice none 0 0, .slice none 0 0, .string ⟨#[]⟩, .int .i64 0, .int .i64 0, .slice none 0 0, .slice none 0 0, .string ⟨#[]⟩, .int .i64 0, .int .i64 0, .slice none 0 0, .slice none 0 0, .string ⟨#[]⟩, .int .i64 0, .int .i64 0, .slice none 0 0, .slice none 0 0, .string ⟨#[]⟩, .int .i64 0, .int .i64 0, .slice none 0 0, .slice none 0 0, .string ⟨#[]⟩, .int .i64 0, .int .i64 0, .slice none 0 0, .slice none 0 0] := ⟨z199⟩
instance : ZtC Tryz.prog 201 [.int .i64 0, .int .i64 0] := ⟨z201⟩
instance : ZtC Tryz.prog 202 [.int .i64 0, .int .i64 0, .int .i64 0, .int .i64 0, .int .i64 0, .int .i64 0, .int .i64 0, .int .i64 0, .int .i64 0, .int .i64 0] := ⟨z202⟩
instance : ZtC Tryz.prog 22 [.slice none 0 0] := ⟨z22⟩
instance : ZtC Tryz.prog 3 [.int .i64 0] := ⟨z3⟩
instance : ZtC Tryz.prog 30 [.int .i64 0, .int .i64 0] := ⟨z30⟩
instance : ZtC Tryz.prog 33 [.int .i64 0, .int .i64 0] := ⟨z33⟩
instance : ZtC Tryz.prog 35 [.int .i64 0, .string ⟨#[]⟩, .string ⟨#[]⟩, .int .i64 0, .int .i64 0, .int .i64 0, .int .i64 0, .int .i64 0, .int .i64 0, .int .i64 0, .bool false, .int .i64 0, .slice none 0 0, .int .i64 0, .int .i64 0] := ⟨z35⟩
instance : ZtC Tryz.prog 4 [.bool false] := ⟨z4⟩
instance : ZtC Tryz.prog 40 [.int .i64 0] := ⟨z40⟩
instance : ZtC Tryz.prog 5 [.int .u8 0] := ⟨z5⟩
instance : ZtC Tryz.prog 69 [.slice none 0 0, .int .i64 0] := ⟨z69⟩
instance : ZtC Tryz.prog 75 [.slice none 0 0, .slice none 0 0, .slice none 0 0, .int .i64 0, .string ⟨#[]⟩] := ⟨z75⟩
instance : ZtC Tryz.prog 9 [.string ⟨#[]⟩] := ⟨z9⟩
instance : ElC cipherplanmake_Dice.enc 2 := ⟨cipherplanmake_Dice.enc_len⟩
instance : ElC api_Use.enc 2 := ⟨api_Use.enc_len⟩
instance : ElC api_Seal.enc 2 := ⟨api_Seal.enc_len⟩
instance : ElC api_Certificate.enc 15 := ⟨api_Certificate.enc_len⟩
instance : ElC cipherplanref02_row.enc 2 := ⟨cipherplanref02_row.enc_len⟩
instance : ElC api_Value.enc 4 := ⟨api_Value.enc_len⟩
instance : ElC catalog_row.enc 5 := ⟨catalog_row.enc_len⟩
instance : ElC chain_search.enc 5 := ⟨chain_search.enc_len⟩
end Go.Proofs.YtadjcdhcdmiifaaGreat
