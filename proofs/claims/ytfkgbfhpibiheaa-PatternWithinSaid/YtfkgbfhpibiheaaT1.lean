/- Encodings; what is known of types. -/
import Derived.Test.YtfkgbfhpibiheaaEV
import Derived.Test.YtfkgbfhpibiheaaP1
import Derived.Test.YtfkgbfhpibiheaaProg
set_option linter.unusedVariables false
set_option linter.unusedSimpArgs false
set_option maxRecDepth 100000
set_option maxHeartbeats 1600000
namespace Go.Proofs.Ytfkgbfhpibiheaa
open Go.RowKit
abbrev cipherplanmake_Dice.dv (x : cipherplanmake_Dice) : List DV := [.sl 1 (encL eI x.L), .val (.int .i64 x.At)]
def cipherplanmake_Dice.enc (x : cipherplanmake_Dice) : List C := [.sl 1 (encL eI x.L), .int .i64 x.At]
theorem cipherplanmake_Dice.enc_len (x : cipherplanmake_Dice) : (cipherplanmake_Dice.enc x).length = 2 := rfl
abbrev api_Use.dv (x : api_Use) : List DV := [.val (.int .i64 x.Alg), .val (.int .i64 x.Bits)]
def api_Use.enc (x : api_Use) : List C := [.int .i64 x.Alg, .int .i64 x.Bits]
theorem api_Use.enc_len (x : api_Use) : (api_Use.enc x).length = 2 := rfl
abbrev api_Pattern.dv (x : api_Pattern) : List DV := [.val (.int .i64 x.Use.Alg), .val (.int .i64 x.Use.Bits), .sl 1 (encL e8 x.Bytes)]
def api_Pattern.enc (x : api_Pattern) : List C := [.int .i64 x.Use.Alg, .int .i64 x.Use.Bits, .sl 1 (encL e8 x.Bytes)]
theorem api_Pattern.enc_len (x : api_Pattern) : (api_Pattern.enc x).length = 3 := rfl
abbrev api_Hit.dv (x : api_Hit) : List DV := [.val (.int .i64 x.Pattern), .val (.int .i64 x.At)]
def api_Hit.enc (x : api_Hit) : List C := [.int .i64 x.Pattern, .int .i64 x.At]
theorem api_Hit.enc_len (x : api_Hit) : (api_Hit.enc x).length = 2 := rfl
abbrev catalog_row.dv (x : catalog_row) : List DV := [.val (.string x.name), .val (.int .i64 x.kind), .val (.int .i64 x.way), .sl 1 (encL eI x.sizes), .sl 1 (encL eI x.strengths)]
def catalog_row.enc (x : catalog_row) : List C := [.str x.name, .int .i64 x.kind, .int .i64 x.way, .sl 1 (encL eI x.sizes), .sl 1 (encL eI x.strengths)]
theorem catalog_row.enc_len (x : catalog_row) : (catalog_row.enc x).length = 5 := rfl
abbrev pattern_state.dv (x : pattern_state) : List DV := (aD .i16 256 x.next ++ [.val (.int .i16 x.back), .sl 1 (encL eI x.ends)])
def pattern_state.enc (x : pattern_state) : List C := (aC .i16 256 x.next ++ [.int .i16 x.back, .sl 1 (encL eI x.ends)])
theorem pattern_state.enc_len (x : pattern_state) : (pattern_state.enc x).length = 258 := by simp [pattern_state.enc, aC_len]
theorem und3 : Try.prog.underlying 3 = some (.int .i64) := by kernel_rfl
theorem und5 : Try.prog.underlying 5 = some (.int .u8) := by kernel_rfl
theorem und9 : Try.prog.underlying 9 = some (.string) := by kernel_rfl
theorem und27 : Try.prog.underlying 27 = some (.slice 5) := by kernel_rfl
theorem und43 : Try.prog.underlying 43 = some (.struct ((match Try.prog.underlying 43 with | some (.struct f) => f | _ => #[]))) := by kernel_rfl
theorem und45 : Try.prog.underlying 45 = some (.struct ((match Try.prog.underlying 45 with | some (.struct f) => f | _ => #[]))) := by kernel_rfl
theorem und47 : Try.prog.underlying 47 = some (.struct ((match Try.prog.underlying 47 with | some (.struct f) => f | _ => #[]))) := by kernel_rfl
theorem und64 : Try.prog.underlying 64 = some (.struct ((match Try.prog.underlying 64 with | some (.struct f) => f | _ => #[]))) := by kernel_rfl
theorem und85 : Try.prog.underlying 85 = some (.int .i16) := by kernel_rfl
theorem und86 : Try.prog.underlying 86 = some (.array 256 85) := by kernel_rfl
theorem und88 : Try.prog.underlying 88 = some (.struct ((match Try.prog.underlying 88 with | some (.struct f) => f | _ => #[]))) := by kernel_rfl
theorem und91 : Try.prog.underlying 91 = some (.int .u64) := by kernel_rfl
theorem und112 : Try.prog.underlying 112 = some (.int .u64) := by kernel_rfl
theorem und114 : Try.prog.underlying 114 = some (.struct ((match Try.prog.underlying 114 with | some (.struct f) => f | _ => #[]))) := by kernel_rfl
theorem und129 : Try.prog.underlying 129 = some (.int .u64) := by kernel_rfl
theorem und135 : Try.prog.underlying 135 = some (.array 23 114) := by kernel_rfl
theorem und137 : Try.prog.underlying 137 = some (.array 2 3) := by kernel_rfl
theorem und138 : Try.prog.underlying 138 = some (.array 5 137) := by kernel_rfl
theorem fd114_2 : Fd Try.prog 114 2 2 3 := ⟨_, (match Try.prog.underlying 114 with | some (.struct f) => f | _ => #[])[2]!, und114, by kernel_rfl, by kernel_rfl, by kernel_rfl⟩
theorem fd114_3 : Fd Try.prog 114 3 3 22 := ⟨_, (match Try.prog.underlying 114 with | some (.struct f) => f | _ => #[])[3]!, und114, by kernel_rfl, by kernel_rfl, by kernel_rfl⟩
theorem fd114_4 : Fd Try.prog 114 4 4 22 := ⟨_, (match Try.prog.underlying 114 with | some (.struct f) => f | _ => #[])[4]!, und114, by kernel_rfl, by kernel_rfl, by kernel_rfl⟩
theorem fd43_0 : Fd Try.prog 43 0 0 3 := ⟨_, (match Try.prog.underlying 43 with | some (.struct f) => f | _ => #[])[0]!, und43, by kernel_rfl, by kernel_rfl, by kernel_rfl⟩
theorem fd43_1 : Fd Try.prog 43 1 1 3 := ⟨_, (match Try.prog.underlying 43 with | some (.struct f) => f | _ => #[])[1]!, und43, by kernel_rfl, by kernel_rfl, by kernel_rfl⟩
theorem fd45_0 : Fd Try.prog 45 0 0 43 := ⟨_, (match Try.prog.underlying 45 with | some (.struct f) => f | _ => #[])[0]!, und45, by kernel_rfl, by kernel_rfl, by kernel_rfl⟩
theorem fd45_1 : Fd Try.prog 45 1 2 27 := ⟨_, (match Try.prog.underlying 45 with | some (.struct f) => f | _ => #[])[1]!, und45, by kernel_rfl, by kernel_rfl, by kernel_rfl⟩
theorem fd47_0 : Fd Try.prog 47 0 0 3 := ⟨_, (match Try.prog.underlying 47 with | some (.struct f) => f | _ => #[])[0]!, und47, by kernel_rfl, by kernel_rfl, by kernel_rfl⟩
theorem fd47_1 : Fd Try.prog 47 1 1 3 := ⟨_, (match Try.prog.underlying 47 with | some (.struct f) => f | _ => #[])[1]!, und47, by kernel_rfl, by kernel_rfl, by kernel_rfl⟩
theorem fd64_0 : Fd Try.prog 64 0 0 22 := ⟨_, (match Try.prog.underlying 64 with | some (.struct f) => f | _ => #[])[0]!, und64, by kernel_rfl, by kernel_rfl, by kernel_rfl⟩
theorem fd64_1 : Fd Try.prog 64 1 1 3 := ⟨_, (match Try.prog.underlying 64 with | some (.struct f) => f | _ => #[])[1]!, und64, by kernel_rfl, by kernel_rfl, by kernel_rfl⟩
theorem fd88_0 : Fd Try.prog 88 0 0 86 := ⟨_, (match Try.prog.underlying 88 with | some (.struct f) => f | _ => #[])[0]!, und88, by kernel_rfl, by kernel_rfl, by kernel_rfl⟩
theorem fd88_1 : Fd Try.prog 88 1 256 85 := ⟨_, (match Try.prog.underlying 88 with | some (.struct f) => f | _ => #[])[1]!, und88, by kernel_rfl, by kernel_rfl, by kernel_rfl⟩
theorem fd88_2 : Fd Try.prog 88 2 257 22 := ⟨_, (match Try.prog.underlying 88 with | some (.struct f) => f | _ => #[])[2]!, und88, by kernel_rfl, by kernel_rfl, by kernel_rfl⟩
theorem pl114 : ((match Try.prog.underlying 114 with | some (.struct f) => f | _ => #[]) : Array Field).toList.map (fun f => (Try.prog.info? f.type).map fun i => (f.offset, i.size)) = [(0, 1), (1, 1), (2, 1), (3, 1), (4, 1)].map some := by kernel_rfl
theorem pl43 : ((match Try.prog.underlying 43 with | some (.struct f) => f | _ => #[]) : Array Field).toList.map (fun f => (Try.prog.info? f.type).map fun i => (f.offset, i.size)) = [(0, 1), (1, 1)].map some := by kernel_rfl
theorem pl45 : ((match Try.prog.underlying 45 with | some (.struct f) => f | _ => #[]) : Array Field).toList.map (fun f => (Try.prog.info? f.type).map fun i => (f.offset, i.size)) = [(0, 2), (2, 1)].map some := by kernel_rfl
theorem pl47 : ((match Try.prog.underlying 47 with | some (.struct f) => f | _ => #[]) : Array Field).toList.map (fun f => (Try.prog.info? f.type).map fun i => (f.offset, i.size)) = [(0, 1), (1, 1)].map some := by kernel_rfl
theorem pl64 : ((match Try.prog.underlying 64 with | some (.struct f) => f | _ => #[]) : Array Field).toList.map (fun f => (Try.prog.info? f.type).map fun i => (f.offset, i.size)) = [(0, 1), (1, 1)].map some := by kernel_rfl
theorem sl100 : SlT Try.prog 100 85 1 2 := SlT.mk' (z := (.int .i16 0)) (by kernel_rfl) (by kernel_rfl) rfl (by decide) (by decide)
theorem sl22 : SlT Try.prog 22 3 1 8 := SlT.mk' (z := (.int .i64 0)) (by kernel_rfl) (by kernel_rfl) rfl (by decide) (by decide)
theorem sl27 : SlT Try.prog 27 5 1 1 := SlT.mk' (z := (.int .u8 0)) (by kernel_rfl) (by kernel_rfl) rfl (by decide) (by decide)
theorem sl30 : SlT Try.prog 30 45 3 40 := SlT.mk' (z := (.agg #[.int .i64 0, .int .i64 0, .slice none 0 0])) (by kernel_rfl) (by kernel_rfl) rfl (by decide) (by decide)
theorem sl31 : SlT Try.prog 31 47 2 16 := SlT.mk' (z := (.agg #[.int .i64 0, .int .i64 0])) (by kernel_rfl) (by kernel_rfl) rfl (by decide) (by decide)
theorem sl83 : SlT Try.prog 83 88 258 544 := SlT.mk' (z := (.agg #[.int .i16 0, .int .i16 0, .int .i16 0, .int .i16 0, .int .i16 0, .int .i16 0, .int .i16 0, .int .i16 0, .int .i16 0, .int .i16 0, .int .i16 0, .int .i16 0, .int .i16 0, .int .i16 0, .int .i16 0, .int .i16 0, .int .i16 0, .int .i16 0, .int .i16 0, .int .i16 0, .int .i16 0, .int .i16 0, .int .i16 0, .int .i16 0, .int .i16 0, .int .i16 0, .int .i16 0, .int .i16 0, .int .i16 0, .int .i16 0, .int .i16 0, .int .i16 0, .int .i16 0, .int .i16 0, .int .i16 0, .int .i16 0, .int .i16 0, .int .i16 0, .int .i16 0, .int .i16 0, .int .i16 0, .int .i16 0, .int .i16 0, .int .i16 0, .int .i16 0, .int .i16 0, .int .i16 0, .int .i16 0, .int .i16 0, .int .i16 0, .int .i16 0, .int .i16 0, .int .i16 0, .int .i16 0, .int .i16 0, .int .i16 0, .int .i16 0, .int .i16 0, .int .i16 0, .int .i16 0, .int .i16 0, .int .i16 0, .int .i16 0, .int .i16 0, .int .i16 0, .int .i16 0, .int .i16 0, .int .i16 0, .int .i16 0, .int .i16 0, .int .i16 0, .int .i16 0, .int .i16 0, .int .i16 0, .int .i16 0, .int .i16 0, .int .i16 0, .int .i16 0, .int .i16 0, .int .i16 0, .int .i16 0, .int .i16 0, .int .i16 0, .int .i16 0, .int .i16 0, .int .i16 0, .int .i16 0, .int .i16 0, .int .i16 0, .int .i16 0, .int .i16 0, .int .i16 0, .int .i16 0, .int .i16 0, .int .i16 0, .int .i16 0, .int .i16 0, .int .i16 0, .int .i16 0, .int .i16 0, .int .i16 0, .int .i16 0, .int .i16 0, .int .i16 0, .int .i16 0, .int .i16 0, .int .i16 0, .int .i16 0, .int .i16 0, .int .i16 0, .int .i16 0, .int .i16 0, .int .i16 0, .int .i16 0, .int .i16 0, .int .i16 0, .int .i16 0, .int .i16 0, .int .i16 0, .int .i16 0, .int .i16 0, .int .i16 0, .int .i16 0, .int .i16 0, .int .i16 0, .int .i16 0, .int .i16 0, .int .i16 0, .int .i16 0, .int .i16 0, .int .i16 0, .int .i16 0, .int .i16 0, .int .i16 0, .int .i16 0, .int .i16 0, .int .i16 0, .int .i16 0, .int .i16 0, .int .i16 0, .int .i16 0, .int .i16 0, .int .i16 0, .int .i16 0, .int .i16 0, .int .i16 0, .int .i16 0, .int .i16 0, .int .i16 0, .int .i16 0, .int .i16 0, .int .i16 0, .int .i16 0, .int .i16 0, .int .i16 0, .int .i16 0, .int .i16 0, .int .i16 0, .int .i16 0, .int .i16 0, .int .i16 0, .int .i16 0, .int .i16 0, .int .i16 0, .int .i16 0, .int .i16 0, .int .i16 0, .int .i16 0, .int .i16 0, .int .i16 0, .int .i16 0, .int .i16 0, .int .i16 0, .int .i16 0, .int .i16 0, .int .i16 0, .int .i16 0, .int .i16 0, .int .i16 0, .int .i16 0, .int .i16 0, .int .i16 0, .int .i16 0, .int .i16 0, .int .i16 0, .int .i16 0, .int .i16 0, .int .i16 0, .int .i16 0, .int .i16 0, .int .i16 0, .int .i16 0, .int .i16 0, .int .i16 0, .int .i16 0, .int .i16 0, .int .i16 0, .int .i16 0, .int .i16 0, .int .i16 0, .int .i16 0, .int .i16 0, .int .i16 0, .int .i16 0, .int .i16 0, .int .i16 0, .int .i16 0, .int .i16 0, .int .i16 0, .int .i16 0, .int .i16 0, .int .i16 0, .int .i16 0, .int .i16 0, .int .i16 0, .int .i16 0, .int .i16 0, .int .i16 0, .int .i16 0, .int .i16 0, .int .i16 0, .int .i16 0, .int .i16 0, .int .i16 0, .int .i16 0, .int .i16 0, .int .i16 0, .int .i16 0, .int .i16 0, .int .i16 0, .int .i16 0, .int .i16 0, .int .i16 0, .int .i16 0, .int .i16 0, .int .i16 0, .int .i16 0, .int .i16 0, .int .i16 0, .int .i16 0, .int .i16 0, .int .i16 0, .int .i16 0, .int .i16 0, .int .i16 0, .int .i16 0, .int .i16 0, .int .i16 0, .int .i16 0, .int .i16 0, .int .i16 0, .int .i16 0, .int .i16 0, .int .i16 0, .int .i16 0, .int .i16 0, .int .i16 0, .slice none 0 0])) (by kernel_rfl) (by kernel_rfl) rfl (by decide) (by decide)
theorem ty114 : Ty Try.prog 114 true 5 := ⟨by kernel_rfl, by kernel_rfl⟩
theorem ty129 : Ty Try.prog 129 false 1 := ⟨by kernel_rfl, by kernel_rfl⟩
theorem ty135 : Ty Try.prog 135 true 115 := ⟨by kernel_rfl, by kernel_rfl⟩
theorem ty137 : Ty Try.prog 137 true 2 := ⟨by kernel_rfl, by kernel_rfl⟩
theorem ty22 : Ty Try.prog 22 false 1 := ⟨by kernel_rfl, by kernel_rfl⟩
theorem ty27 : Ty Try.prog 27 false 1 := ⟨by kernel_rfl, by kernel_rfl⟩
theorem ty3 : Ty Try.prog 3 false 1 := ⟨by kernel_rfl, by kernel_rfl⟩
theorem ty31 : Ty Try.prog 31 false 1 := ⟨by kernel_rfl, by kernel_rfl⟩
theorem ty43 : Ty Try.prog 43 true 2 := ⟨by kernel_rfl, by kernel_rfl⟩
theorem ty45 : Ty Try.prog 45 true 3 := ⟨by kernel_rfl, by kernel_rfl⟩
theorem ty47 : Ty Try.prog 47 true 2 := ⟨by kernel_rfl, by kernel_rfl⟩
theorem ty5 : Ty Try.prog 5 false 1 := ⟨by kernel_rfl, by kernel_rfl⟩
theorem ty85 : Ty Try.prog 85 false 1 := ⟨by kernel_rfl, by kernel_rfl⟩
theorem ty86 : Ty Try.prog 86 true 256 := ⟨by kernel_rfl, by kernel_rfl⟩
theorem ty88 : Ty Try.prog 88 true 258 := ⟨by kernel_rfl, by kernel_rfl⟩
theorem z114 : Zt Try.prog 114 [.string ⟨#[]⟩, .int .i64 0, .int .i64 0, .slice none 0 0, .slice none 0 0] := ⟨(.agg #[.string ⟨#[]⟩, .int .i64 0, .int .i64 0, .slice none 0 0, .slice none 0 0]), by kernel_rfl, rfl, by decide⟩
theorem z129 : Zt Try.prog 129 [.int .u64 0] := ⟨(.int .u64 0), by kernel_rfl, rfl, by decide⟩
theorem z135 : Zt Try.prog 135 [.string ⟨#[]⟩, .int .i64 0, .int .i64 0, .slice none 0 0, .slice none 0 0, .string ⟨#[]⟩, .int .i64 0, .int .i64 0, .slice none 0 0, .slice none 0 0, .string ⟨#[]⟩, .int .i64 0, .int .i64 0, .slice none 0 0, .slice none 0 0, .string ⟨#[]⟩, .int .i64 0, .int .i64 0, .slice none 0 0, .slice none 0 0, .string ⟨#[]⟩, .int .i64 0, .int .i64 0, .slice none 0 0, .slice none 0 0, .string ⟨#[]⟩, .int .i64 0, .int .i64 0, .slice none 0 0, .slice none 0 0, .string ⟨#[]⟩, .int .i64 0, .int .i64 0, .slice none 0 0, .slice none 0 0, .string ⟨#[]⟩, .int .i64 0, .int .i64 0, .slice none 0 0, .slice none 0 0, .string ⟨#[]⟩, .int .i64 0, .int .i64 0, .slice none 0 0, .slice none 0 0, .string ⟨#[]⟩, .int .i64 0, .int .i64 0, .slice none 0 0, .slice none 0 0, .string ⟨#[]⟩, .int .i64 0, .int .i64 0, .slice none 0 0, .slice none 0 0, .string ⟨#[]⟩, .int .i64 0, .int .i64 0, .slice none 0 0, .slice none 0 0, .string ⟨#[]⟩, .int .i64 0, .int .i64 0, .slice none 0 0, .slice none 0 0, .string ⟨#[]⟩, .int .i64 0, .int .i64 0, .slice none 0 0, .slice none 0 0, .string ⟨#[]⟩, .int .i64 0, .int .i64 0, .slice none 0 0, .slice none 0 0, .string ⟨#[]⟩, .int .i64 0, .int .i64 0, .slice none 0 0, .slice none 0 0, .string ⟨#[]⟩, .int .i64 0, .int .i64 0, .slice none 0 0, .slice none 0 0, .string ⟨#[]⟩, .int .i64 0, .int .i64 0, .slice none 0 0, .slice none 0 0, .string ⟨#[]⟩, .int .i64 0, .int .i64 0, .slice none 0 0, .slice none 0 0, .string ⟨#[]⟩, .int .i64 0, .int .i64 0, .slice none 0 0, .slice none 0 0, .string ⟨#[]⟩, .int .i64 0, .int .i64 0, .slice none 0 0, .slice none 0 0, .string ⟨#[]⟩, .int .i64 0, .int .i64 0, .slice none 0 0, .slice none 0 0, .string ⟨#[]⟩, .int .i64 0, .int .i64 0, .slice none 0 0, .slice none 0 0] := ⟨(.agg #[.string ⟨#[]⟩, .int .i64 0, .int .i64 0, .slice none 0 0, .slice none 0 0, .string ⟨#[]⟩, .int .i64 0, .int .i64 0, .slice none 0 0, .slice none 0 0, .string ⟨#[]⟩, .int .i64 0, .int .i64 0, .slice none 0 0, .slice none 0 0, .string ⟨#[]⟩, .int .i64 0, .int .i64 0, .slice none 0 0, .slice none 0 0, .string ⟨#[]⟩, .int .i64 0, .int .i64 0, .slice none 0 0, .slice none 0 0, .string ⟨#[]⟩, .int .i64 0, .int .i64 0, .slice none 0 0, .slice none 0 0, .string ⟨#[]⟩, .int .i64 0, .int .i64 0, .slice none 0 0, .slice none 0 0, .string ⟨#[]⟩, .int .i64 0, .int .i64 0, .slice none 0 0, .slice none 0 0, .string ⟨#[]⟩, .int .i64 0, .int .i64 0, .slice none 0 0, .slice none 0 0, .string ⟨#[]⟩, .int .i64 0, .int .i64 0, .slice none 0 0, .slice none 0 0, .string ⟨#[]⟩, .int .i64 0, .int .i64 0, .slice none 0 0, .slice none 0 0, .string ⟨#[]⟩, .int .i64 0, .int .i64 0, .slice none 0 0, .slice none 0 0, .string ⟨#[]⟩, .int .i64 0, .int .i64 0, .slice none 0 0, .slice none 0 0, .string ⟨#[]⟩, .int .i64 0, .int .i64 0, .slice none 0 0, .slice none 0 0, .string ⟨#[]⟩, .int .i64 0, .int .i64 0, .slice none 0 0, .slice none 0 0, .string ⟨#[]⟩, .int .i64 0, .int .i64 0, .slice none 0 0, .slice none 0 0, .string ⟨#[]⟩, .int .i64 0, .int .i64 0, .slice none 0 0, .slice none 0 0, .string ⟨#[]⟩, .int .i64 0, .int .i64 0, .slice none 0 0, .slice none 0 0, .string ⟨#[]⟩, .int .i64 0, .int .i64 0, .slice none 0 0, .slice none 0 0, .string ⟨#[]⟩, .int .i64 0, .int .i64 0, .slice none 0 0, .slice none 0 0, .string ⟨#[]⟩, .int .i64 0, .int .i64 0, .slice none 0 0, .slice none 0 0, .string ⟨#[]⟩, .int .i64 0, .int .i64 0, .slice none 0 0, .slice none 0 0, .string ⟨#[]⟩, .int .i64 0, .int .i64 0, .slice none 0 0, .slice none 0 0]), by kernel_rfl, rfl, by decide⟩
theorem z137 : Zt Try.prog 137 [.int .i64 0, .int .i64 0] := ⟨(.agg #[.int .i64 0, .int .i64 0]), by kernel_rfl, rfl, by decide⟩
theorem z138 : Zt Try.prog 138 [.int .i64 0, .int .i64 0, .int .i64 0, .int .i64 0, .int .i64 0, .int .i64 0, .int .i64 0, .int .i64 0, .int .i64 0, .int .i64 0] := ⟨(.agg #[.int .i64 0, .int .i64 0, .int .i64 0, .int .i64 0, .int .i64 0, .int .i64 0, .int .i64 0, .int .i64 0, .int .i64 0, .int .i64 0]), by kernel_rfl, rfl, by decide⟩
theorem z22 : Zt Try.prog 22 [.slice none 0 0] := ⟨(.slice none 0 0), by kernel_rfl, rfl, by decide⟩
theorem z3 : Zt Try.prog 3 [.int .i64 0] := ⟨(.int .i64 0), by kernel_rfl, rfl, by decide⟩
theorem z31 : Zt Try.prog 31 [.slice none 0 0] := ⟨(.slice none 0 0), by kernel_rfl, rfl, by decide⟩
theorem z43 : Zt Try.prog 43 [.int .i64 0, .int .i64 0] := ⟨(.agg #[.int .i64 0, .int .i64 0]), by kernel_rfl, rfl, by decide⟩
theorem z45 : Zt Try.prog 45 [.int .i64 0, .int .i64 0, .slice none 0 0] := ⟨(.agg #[.int .i64 0, .int .i64 0, .slice none 0 0]), by kernel_rfl, rfl, by decide⟩
theorem z47 : Zt Try.prog 47 [.int .i64 0, .int .i64 0] := ⟨(.agg #[.int .i64 0, .int .i64 0]), by kernel_rfl, rfl, by decide⟩
theorem z5 : Zt Try.prog 5 [.int .u8 0] := ⟨(.int .u8 0), by kernel_rfl, rfl, by decide⟩
theorem z64 : Zt Try.prog 64 [.slice none 0 0, .int .i64 0] := ⟨(.agg #[.slice none 0 0, .int .i64 0]), by kernel_rfl, rfl, by decide⟩
theorem z85 : Zt Try.prog 85 [.int .i16 0] := ⟨(.int .i16 0), by kernel_rfl, rfl, by decide⟩
theorem z88 : Zt Try.prog 88 [.int .i16 0, .int .i16 0, .int .i16 0, .int .i16 0, .int .i16 0, .int .i16 0, .int .i16 0, .int .i16 0, .int .i16 0, .int .i16 0, .int .i16 0, .int .i16 0, .int .i16 0, .int .i16 0, .int .i16 0, .int .i16 0, .int .i16 0, .int .i16 0, .int .i16 0, .int .i16 0, .int .i16 0, .int .i16 0, .int .i16 0, .int .i16 0, .int .i16 0, .int .i16 0, .int .i16 0, .int .i16 0, .int .i16 0, .int .i16 0, .int .i16 0, .int .i16 0, .int .i16 0, .int .i16 0, .int .i16 0, .int .i16 0, .int .i16 0, .int .i16 0, .int .i16 0, .int .i16 0, .int .i16 0, .int .i16 0, .int .i16 0, .int .i16 0, .int .i16 0, .int .i16 0, .int .i16 0, .int .i16 0, .int .i16 0, .int .i16 0, .int .i16 0, .int .i16 0, .int .i16 0, .int .i16 0, .int .i16 0, .int .i16 0, .int .i16 0, .int .i16 0, .int .i16 0, .int .i16 0, .int .i16 0, .int .i16 0, .int .i16 0, .int .i16 0, .int .i16 0, .int .i16 0, .int .i16 0, .int .i16 0, .int .i16 0, .int .i16 0, .int .i16 0, .int .i16 0, .int .i16 0, .int .i16 0, .int .i16 0, .int .i16 0, .int .i16 0, .int .i16 0, .int .i16 0, .int .i16 0, .int .i16 0, .int .i16 0, .int .i16 0, .int .i16 0, .int .i16 0, .int .i16 0, .int .i16 0, .int .i16 0, .int .i16 0, .int .i16 0, .int .i16 0, .int .i16 0, .int .i16 0, .int .i16 0, .int .i16 0, .int .i16 0, .int .i16 0, .int .i16 0, .int .i16 0, .int .i16 0, .int .i16 0, .int .i16 0, .int .i16 0, .int .i16 0, .int .i16 0, .int .i16 0, .int .i16 0, .int .i16 0, .int .i16 0, .int .i16 0, .int .i16 0, .int .i16 0, .int .i16 0, .int .i16 0, .int .i16 0, .int .i16 0, .int .i16 0, .int .i16 0, .int .i16 0, .int .i16 0, .int .i16 0, .int .i16 0, .int .i16 0, .int .i16 0, .int .i16 0, .int .i16 0, .int .i16 0, .int .i16 0, .int .i16 0, .int .i16 0, .int .i16 0, .int .i16 0, .int .i16 0, .int .i16 0, .int .i16 0, .int .i16 0, .int .i16 0, .int .i16 0, .int .i16 0, .int .i16 0, .int .i16 0, .int .i16 0, .int .i16 0, .int .i16 0, .int .i16 0, .int .i16 0, .int .i16 0, .int .i16 0, .int .i16 0, .int .i16 0, .int .i16 0, .int .i16 0, .int .i16 0, .int .i16 0, .int .i16 0, .int .i16 0, .int .i16 0, .int .i16 0, .int .i16 0, .int .i16 0, .int .i16 0, .int .i16 0, .int .i16 0, .int .i16 0, .int .i16 0, .int .i16 0, .int .i16 0, .int .i16 0, .int .i16 0, .int .i16 0, .int .i16 0, .int .i16 0, .int .i16 0, .int .i16 0, .int .i16 0, .int .i16 0, .int .i16 0, .int .i16 0, .int .i16 0, .int .i16 0, .int .i16 0, .int .i16 0, .int .i16 0, .int .i16 0, .int .i16 0, .int .i16 0, .int .i16 0, .int .i16 0, .int .i16 0, .int .i16 0, .int .i16 0, .int .i16 0, .int .i16 0, .int .i16 0, .int .i16 0, .int .i16 0, .int .i16 0, .int .i16 0, .int .i16 0, .int .i16 0, .int .i16 0, .int .i16 0, .int .i16 0, .int .i16 0, .int .i16 0, .int .i16 0, .int .i16 0, .int .i16 0, .int .i16 0, .int .i16 0, .int .i16 0, .int .i16 0, .int .i16 0, .int .i16 0, .int .i16 0, .int .i16 0, .int .i16 0, .int .i16 0, .int .i16 0, .int .i16 0, .int .i16 0, .int .i16 0, .int .i16 0, .int .i16 0, .int .i16 0, .int .i16 0, .int .i16 0, .int .i16 0, .int .i16 0, .int .i16 0, .int .i16 0, .int .i16 0, .int .i16 0, .int .i16 0, .int .i16 0, .int .i16 0, .int .i16 0, .int .i16 0, .int .i16 0, .int .i16 0, .int .i16 0, .int .i16 0, .int .i16 0, .int .i16 0, .int .i16 0, .int .i16 0, .int .i16 0, .int .i16 0, .int .i16 0, .int .i16 0, .int .i16 0, .int .i16 0, .int .i16 0, .int .i16 0, .int .i16 0, .int .i16 0, .int .i16 0, .slice none 0 0] := ⟨(.agg #[.int .i16 0, .int .i16 0, .int .i16 0, .int .i16 0, .int .i16 0, .int .i16 0, .int .i16 0, .int .i16 0, .int .i16 0, .int .i16 0, .int .i16 0, .int .i16 0, .int .i16 0, .int .i16 0, .int .i16 0, .int .i16 0, .int .i16 0, .int .i16 0, .int .i16 0, .int .i16 0, .int .i16 0, .int .i16 0, .int .i16 0, .int .i16 0, .int .i16 0, .int .i16 0, .int .i16 0, .int .i16 0, .int .i16 0, .int .i16 0, .int .i16 0, .int .i16 0, .int .i16 0, .int .i16 0, .int .i16 0, .int .i16 0, .int .i16 0, .int .i16 0, .int .i16 0, .int .i16 0, .int .i16 0, .int .i16 0, .int .i16 0, .int .i16 0, .int .i16 0, .int .i16 0, .int .i16 0, .int .i16 0, .int .i16 0, .int .i16 0, .int .i16 0, .int .i16 0, .int .i16 0, .int .i16 0, .int .i16 0, .int .i16 0, .int .i16 0, .int .i16 0, .int .i16 0, .int .i16 0, .int .i16 0, .int .i16 0, .int .i16 0, .int .i16 0, .int .i16 0, .int .i16 0, .int .i16 0, .int .i16 0, .int .i16 0, .int .i16 0, .int .i16 0, .int .i16 0, .int .i16 0, .int .i16 0, .int .i16 0, .int .i16 0, .int .i16 0, .int .i16 0, .int .i16 0, .int .i16 0, .int .i16 0, .int .i16 0, .int .i16 0, .int .i16 0, .int .i16 0, .int .i16 0, .int .i16 0, .int .i16 0, .int .i16 0, .int .i16 0, .int .i16 0, .int .i16 0, .int .i16 0, .int .i16 0, .int .i16 0, .int .i16 0, .int .i16 0, .int .i16 0, .int .i16 0, .int .i16 0, .int .i16 0, .int .i16 0, .int .i16 0, .int .i16 0, .int .i16 0, .int .i16 0, .int .i16 0, .int .i16 0, .int .i16 0, .int .i16 0, .int .i16 0, .int .i16 0, .int .i16 0, .int .i16 0, .int .i16 0, .int .i16 0, .int .i16 0, .int .i16 0, .int .i16 0, .int .i16 0, .int .i16 0, .int .i16 0, .int .i16 0, .int .i16 0, .int .i16 0, .int .i16 0, .int .i16 0, .int .i16 0, .int .i16 0, .int .i16 0, .int .i16 0, .int .i16 0, .int .i16 0, .int .i16 0, .int .i16 0, .int .i16 0, .int .i16 0, .int .i16 0, .int .i16 0, .int .i16 0, .int .i16 0, .int .i16 0, .int .i16 0, .int .i16 0, .int .i16 0, .int .i16 0, .int .i16 0, .int .i16 0, .int .i16 0, .int .i16 0, .int .i16 0, .int .i16 0, .int .i16 0, .int .i16 0, .int .i16 0, .int .i16 0, .int .i16 0, .int .i16 0, .int .i16 0, .int .i16 0, .int .i16 0, .int .i16 0, .int .i16 0, .int .i16 0, .int .i16 0, .int .i16 0, .int .i16 0, .int .i16 0, .int .i16 0, .int .i16 0, .int .i16 0, .int .i16 0, .int .i16 0, .int .i16 0, .int .i16 0, .int .i16 0, .int .i16 0, .int .i16 0, .int .i16 0, .int .i16 0, .int .i16 0, .int .i16 0, .int .i16 0, .int .i16 0, .int .i16 0, .int .i16 0, .int .i16 0, .int .i16 0, .int .i16 0, .int .i16 0, .int .i16 0, .int .i16 0, .int .i16 0, .int .i16 0, .int .i16 0, .int .i16 0, .int .i16 0, .int .i16 0, .int .i16 0, .int .i16 0, .int .i16 0, .int .i16 0, .int .i16 0, .int .i16 0, .int .i16 0, .int .i16 0, .int .i16 0, .int .i16 0, .int .i16 0, .int .i16 0, .int .i16 0, .int .i16 0, .int .i16 0, .int .i16 0, .int .i16 0, .int .i16 0, .int .i16 0, .int .i16 0, .int .i16 0, .int .i16 0, .int .i16 0, .int .i16 0, .int .i16 0, .int .i16 0, .int .i16 0, .int .i16 0, .int .i16 0, .int .i16 0, .int .i16 0, .int .i16 0, .int .i16 0, .int .i16 0, .int .i16 0, .int .i16 0, .int .i16 0, .int .i16 0, .int .i16 0, .int .i16 0, .int .i16 0, .int .i16 0, .int .i16 0, .int .i16 0, .int .i16 0, .int .i16 0, .int .i16 0, .int .i16 0, .int .i16 0, .int .i16 0, .int .i16 0, .int .i16 0, .int .i16 0, .int .i16 0, .int .i16 0, .int .i16 0, .int .i16 0, .int .i16 0, .int .i16 0, .slice none 0 0]), by kernel_rfl, rfl, by decide⟩
theorem ck3 : cellK Try.prog 20 3 = [none] := by kernel_rfl
theorem ck45 : cellK Try.prog 20 45 = [none, none, some 1] := by kernel_rfl
theorem ck47 : cellK Try.prog 20 47 = [none, none] := by kernel_rfl
theorem ck5 : cellK Try.prog 20 5 = [none] := by kernel_rfl
theorem ck85 : cellK Try.prog 20 85 = [none] := by kernel_rfl
theorem eg47 : Try.prog.eqGuardType Try.prog.depth 47 = false := by kernel_rfl
theorem sf47 : Try.prog.underlying 47 = some (.struct (Try.prog.fieldsOf 47)) := by kernel_rfl
theorem sh47 : Try.prog.stoodInHeld 47 = false := by kernel_rfl
theorem se47 (x y : api_Hit) (w : World) : (Op.equalIn 10000 47 (.agg #[.int .i64 x.Pattern, .int .i64 x.At]) (.agg #[.int .i64 y.Pattern, .int .i64 y.At])).run Try.prog w = .ok (decide (x = y)) w := by
 have u3 := Try.underlying3
 have a3 := Try.isAgg3
 have z3 := Try.sizeOf3
 rw [show (10000 : Nat) = 9999 + 1 from rfl, run_equalIn_agg w 9999 47 _ _ sf47 sh47]
 simp only [Program.fieldsOf, Try.underlying47]
 go_simp
 rcases x with ⟨x0, x1⟩
 rcases y with ⟨y0, y1⟩
 by_cases h0 : x0 = y0 <;> by_cases h1 : x1 = y1 <;> simp [h0, h1]
theorem steq47_eql (x y : api_Hit) {X Y : Operand} {tk : Nat} {yt ty : TypeId} {b1 b2 : Option LB} : OpR Try.prog tk (.binOp .eql 47 X Y yt) ty [(.agg [.val (.int .i64 x.Pattern), .val (.int .i64 x.At)], b1), (.agg [.val (.int .i64 y.Pattern), .val (.int .i64 y.At)], b2)] [] (v0 (.val (.bool (decide (x = y))))) :=
 .binOpA rfl rfl (fun _ _ => rfl) (fun w => by
  rw [Sem.run_bind, run_eqGuard_agg w _ 47 X Y _ _ eg47]
  simp only [Result.andThen_ok, run_eql_struct]
  exact congrArg (fun r => Result.andThen r _) (se47 x y w))
theorem steq47_neq (x y : api_Hit) {X Y : Operand} {tk : Nat} {yt ty : TypeId} {b1 b2 : Option LB} : OpR Try.prog tk (.binOp .neq 47 X Y yt) ty [(.agg [.val (.int .i64 x.Pattern), .val (.int .i64 x.At)], b1), (.agg [.val (.int .i64 y.Pattern), .val (.int .i64 y.At)], b2)] [] (v0 (.val (.bool (!decide (x = y))))) :=
 .binOpA rfl rfl (fun _ _ => rfl) (fun w => by
  rw [Sem.run_bind, run_eqGuard_agg w _ 47 X Y _ _ eg47]
  simp only [Result.andThen_ok, run_neq_struct]
  exact congrArg (fun r => Result.andThen r _) (se47 x y w))
instance : FdC Try.prog 114 2 2 3 := ⟨fd114_2⟩
instance : FdC Try.prog 114 3 3 22 := ⟨fd114_3⟩
instance : FdC Try.prog 114 4 4 22 := ⟨fd114_4⟩
instance : FdC Try.prog 43 0 0 3 := ⟨fd43_0⟩
instance : FdC Try.prog 43 1 1 3 := ⟨fd43_1⟩
instance : FdC Try.prog 45 0 0 43 := ⟨fd45_0⟩
instance : FdC Try.prog 45 1 2 27 := ⟨fd45_1⟩
instance : FdC Try.prog 47 0 0 3 := ⟨fd47_0⟩
instance : FdC Try.prog 47 1 1 3 := ⟨fd47_1⟩
instance : FdC Try.prog 64 0 0 22 := ⟨fd64_0⟩
instance : FdC Try.prog 64 1 1 3 := ⟨fd64_1⟩
instance : FdC Try.prog 88 0 0 86 := ⟨fd88_0⟩
instance : FdC Try.prog 88 1 256 85 := ⟨fd88_1⟩
instance : FdC Try.prog 88 2 257 22 := ⟨fd88_2⟩
instance : SlC Try.prog 100 85 1 2 := ⟨sl100⟩
instance : SlC Try.prog 22 3 1 8 := ⟨sl22⟩
instance : SlC Try.prog 27 5 1 1 := ⟨sl27⟩
instance : SlC Try.prog 30 45 3 40 := ⟨sl30⟩
instance : SlC Try.prog 31 47 2 16 := ⟨sl31⟩
instance : SlC Try.prog 83 88 258 544 := ⟨sl83⟩
instance : TyC Try.prog 114 true 5 := ⟨ty114⟩
instance : TyC Try.prog 129 false 1 := ⟨ty129⟩
instance : TyC Try.prog 135 true 115 := ⟨ty135⟩
instance : TyC Try.prog 137 true 2 := ⟨ty137⟩
instance : TyC Try.prog 22 false 1 := ⟨ty22⟩
instance : TyC Try.prog 27 false 1 := ⟨ty27⟩
instance : TyC Try.prog 3 false 1 := ⟨ty3⟩
instance : TyC Try.prog 31 false 1 := ⟨ty31⟩
instance : TyC Try.prog 43 true 2 := ⟨ty43⟩
instance : TyC Try.prog 45 true 3 := ⟨ty45⟩
instance : TyC Try.prog 47 true 2 := ⟨ty47⟩
instance : TyC Try.prog 5 false 1 := ⟨ty5⟩
instance : TyC Try.prog 85 false 1 := ⟨ty85⟩
instance : TyC Try.prog 86 true 256 := ⟨ty86⟩
instance : TyC Try.prog 88 true 258 := ⟨ty88⟩
instance : ZtC Try.prog 114 [.string ⟨#[]⟩, .int .i64 0, .int .i64 0, .slice none 0 0, .slice none 0 0] := ⟨z114⟩
instance : ZtC Try.prog 129 [.int .u64 0] := ⟨z129⟩
instance : ZtC Try.prog 135 [.string ⟨#[]⟩, .int .i64 0, .int .i64 0, .slice none 0 0, .slice none 0 0, .string ⟨#[]⟩, .int .i64 0, .int .i64 0, .slice none 0 0, .slice none 0 0, .string ⟨#[]⟩, .int .i64 0, .int .i64 0, .slice none 0 0, .slice none 0 0, .string ⟨#[]⟩, .int .i64 0, .int .i64 0, .slice none 0 0, .slice none 0 0, .string ⟨#[]⟩, .int .i64 0, .int .i64 0, .slice none 0 0, .slice none 0 0, .string ⟨#[]⟩, .int .i64 0, .int .i64 0, .slice none 0 0, .slice none 0 0, .string ⟨#[]⟩, .int .i64 0, .int .i64 0, .slice none 0 0, .slice none 0 0, .string ⟨#[]⟩, .int .i64 0, .int .i64 0, .slice none 0 0, .slice none 0 0, .string ⟨#[]⟩, .int .i64 0, .int .i64 0, .slice none 0 0, .slice none 0 0, .string ⟨#[]⟩, .int .i64 0, .int .i64 0, .slice none 0 0, .slice none 0 0, .string ⟨#[]⟩, .int .i64 0, .int .i64 0, .slice none 0 0, .slice none 0 0, .string ⟨#[]⟩, .int .i64 0, .int .i64 0, .slice none 0 0, .slice none 0 0, .string ⟨#[]⟩, .int .i64 0, .int .i64 0, .slice none 0 0, .slice none 0 0, .string ⟨#[]⟩, .int .i64 0, .int .i64 0, .slice none 0 0, .slice none 0 0, .string ⟨#[]⟩, .int .i64 0, .int .i64 0, .slice none 0 0, .slice none 0 0, .string ⟨#[]⟩, .int .i64 0, .int .i64 0, .slice none 0 0, .slice none 0 0, .string ⟨#[]⟩, .int .i64 0, .int .i64 0, .slice none 0 0, .slice none 0 0, .string ⟨#[]⟩, .int .i64 0, .int .i64 0, .slice none 0 0, .slice none 0 0, .string ⟨#[]⟩, .int .i64 0, .int .i64 0, .slice none 0 0, .slice none 0 0, .string ⟨#[]⟩, .int .i64 0, .int .i64 0, .slice none 0 0, .slice none 0 0, .string ⟨#[]⟩, .int .i64 0, .int .i64 0, .slice none 0 0, .slice none 0 0, .string ⟨#[]⟩, .int .i64 0, .int .i64 0, .slice none 0 0, .slice none 0 0, .string ⟨#[]⟩, .int .i64 0, .int .i64 0, .slice none 0 0, .slice none 0 0] := ⟨z135⟩
instance : ZtC Try.prog 137 [.int .i64 0, .int .i64 0] := ⟨z137⟩
instance : ZtC Try.prog 138 [.int .i64 0, .int .i64 0, .int .i64 0, .int .i64 0, .int .i64 0, .int .i64 0, .int .i64 0, .int .i64 0, .int .i64 0, .int .i64 0] := ⟨z138⟩
instance : ZtC Try.prog 22 [.slice none 0 0] := ⟨z22⟩
instance : ZtC Try.prog 3 [.int .i64 0] := ⟨z3⟩
instance : ZtC Try.prog 31 [.slice none 0 0] := ⟨z31⟩
instance : ZtC Try.prog 43 [.int .i64 0, .int .i64 0] := ⟨z43⟩
instance : ZtC Try.prog 45 [.int .i64 0, .int .i64 0, .slice none 0 0] := ⟨z45⟩
instance : ZtC Try.prog 47 [.int .i64 0, .int .i64 0] := ⟨z47⟩
instance : ZtC Try.prog 5 [.int .u8 0] := ⟨z5⟩
instance : ZtC Try.prog 64 [.slice none 0 0, .int .i64 0] := ⟨z64⟩
instance : ZtC Try.prog 85 [.int .i16 0] := ⟨z85⟩
instance : ZtC Try.prog 88 [.int .i16 0, .int .i16 0, .int .i16 0, .int .i16 0, .int .i16 0, .int .i16 0, .int .i16 0, .int .i16 0, .int .i16 0, .int .i16 0, .int .i16 0, .int .i16 0, .int .i16 0, .int .i16 0, .int .i16 0, .int .i16 0, .int .i16 0, .int .i16 0, .int .i16 0, .int .i16 0, .int .i16 0, .int .i16 0, .int .i16 0, .int .i16 0, .int .i16 0, .int .i16 0, .int .i16 0, .int .i16 0, .int .i16 0, .int .i16 0, .int .i16 0, .int .i16 0, .int .i16 0, .int .i16 0, .int .i16 0, .int .i16 0, .int .i16 0, .int .i16 0, .int .i16 0, .int .i16 0, .int .i16 0, .int .i16 0, .int .i16 0, .int .i16 0, .int .i16 0, .int .i16 0, .int .i16 0, .int .i16 0, .int .i16 0, .int .i16 0, .int .i16 0, .int .i16 0, .int .i16 0, .int .i16 0, .int .i16 0, .int .i16 0, .int .i16 0, .int .i16 0, .int .i16 0, .int .i16 0, .int .i16 0, .int .i16 0, .int .i16 0, .int .i16 0, .int .i16 0, .int .i16 0, .int .i16 0, .int .i16 0, .int .i16 0, .int .i16 0, .int .i16 0, .int .i16 0, .int .i16 0, .int .i16 0, .int .i16 0, .int .i16 0, .int .i16 0, .int .i16 0, .int .i16 0, .int .i16 0, .int .i16 0, .int .i16 0, .int .i16 0, .int .i16 0, .int .i16 0, .int .i16 0, .int .i16 0, .int .i16 0, .int .i16 0, .int .i16 0, .int .i16 0, .int .i16 0, .int .i16 0, .int .i16 0, .int .i16 0, .int .i16 0, .int .i16 0, .int .i16 0, .int .i16 0, .int .i16 0, .int .i16 0, .int .i16 0, .int .i16 0, .int .i16 0, .int .i16 0, .int .i16 0, .int .i16 0, .int .i16 0, .int .i16 0, .int .i16 0, .int .i16 0, .int .i16 0, .int .i16 0, .int .i16 0, .int .i16 0, .int .i16 0, .int .i16 0, .int .i16 0, .int .i16 0, .int .i16 0, .int .i16 0, .int .i16 0, .int .i16 0, .int .i16 0, .int .i16 0, .int .i16 0, .int .i16 0, .int .i16 0, .int .i16 0, .int .i16 0, .int .i16 0, .int .i16 0, .int .i16 0, .int .i16 0, .int .i16 0, .int .i16 0, .int .i16 0, .int .i16 0, .int .i16 0, .int .i16 0, .int .i16 0, .int .i16 0, .int .i16 0, .int .i16 0, .int .i16 0, .int .i16 0, .int .i16 0, .int .i16 0, .int .i16 0, .int .i16 0, .int .i16 0, .int .i16 0, .int .i16 0, .int .i16 0, .int .i16 0, .int .i16 0, .int .i16 0, .int .i16 0, .int .i16 0, .int .i16 0, .int .i16 0, .int .i16 0, .int .i16 0, .int .i16 0, .int .i16 0, .int .i16 0, .int .i16 0, .int .i16 0, .int .i16 0, .int .i16 0, .int .i16 0, .int .i16 0, .int .i16 0, .int .i16 0, .int .i16 0, .int .i16 0, .int .i16 0, .int .i16 0, .int .i16 0, .int .i16 0, .int .i16 0, .int .i16 0, .int .i16 0, .int .i16 0, .int .i16 0, .int .i16 0, .int .i16 0, .int .i16 0, .int .i16 0, .int .i16 0, .int .i16 0, .int .i16 0, .int .i16 0, .int .i16 0, .int .i16 0, .int .i16 0, .int .i16 0, .int .i16 0, .int .i16 0, .int .i16 0, .int .i16 0, .int .i16 0, .int .i16 0, .int .i16 0, .int .i16 0, .int .i16 0, .int .i16 0, .int .i16 0, .int .i16 0, .int .i16 0, .int .i16 0, .int .i16 0, .int .i16 0, .int .i16 0, .int .i16 0, .int .i16 0, .int .i16 0, .int .i16 0, .int .i16 0, .int .i16 0, .int .i16 0, .int .i16 0, .int .i16 0, .int .i16 0, .int .i16 0, .int .i16 0, .int .i16 0, .int .i16 0, .int .i16 0, .int .i16 0, .int .i16 0, .int .i16 0, .int .i16 0, .int .i16 0, .int .i16 0, .int .i16 0, .int .i16 0, .int .i16 0, .int .i16 0, .int .i16 0, .int .i16 0, .int .i16 0, .int .i16 0, .int .i16 0, .int .i16 0, .int .i16 0, .int .i16 0, .int .i16 0, .int .i16 0, .int .i16 0, .int .i16 0, .int .i16 0, .int .i16 0, .int .i16 0, .int .i16 0, .int .i16 0, .int .i16 0, .slice none 0 0] := ⟨z88⟩
instance : ElC cipherplanmake_Dice.enc 2 := ⟨cipherplanmake_Dice.enc_len⟩
instance : ElC api_Use.enc 2 := ⟨api_Use.enc_len⟩
instance : ElC api_Pattern.enc 3 := ⟨api_Pattern.enc_len⟩
instance : ElC api_Hit.enc 2 := ⟨api_Hit.enc_len⟩
instance : ElC catalog_row.enc 5 := ⟨catalog_row.enc_len⟩
instance : ElC pattern_state.enc 258 := ⟨pattern_state.enc_len⟩
end Go.Proofs.Ytfkgbfhpibiheaa
