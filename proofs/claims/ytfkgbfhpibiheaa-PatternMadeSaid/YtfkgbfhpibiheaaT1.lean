import Derived.Test.YtfkgbfhpibiheaaEV
import Derived.Test.YtfkgbfhpibiheaaP1
import Derived.Test.YtfkgbfhpibiheaaProg
set_option linter.unusedVariables false
set_option linter.unusedSimpArgs false
set_option maxRecDepth 100000
set_option maxHeartbeats 1600000
namespace Go.Proofs.Ytfkgbfhpibiheaa
open Go.RowKit
abbrev Am.dv (x : Am) : List DV := [.sl 1 (As eI x.L), .val (.int .i64 x.At)]
def Am.enc (x : Am) : List C := [.sl 1 (As eI x.L), .int .i64 x.At]
theorem Am.enc_len (x : Am) : (Am.enc x).length = 2 := rfl
abbrev Aa.dv (x : Aa) : List DV := [.val (.int .i64 x.Alg), .val (.int .i64 x.Bits)]
def Aa.enc (x : Aa) : List C := [.int .i64 x.Alg, .int .i64 x.Bits]
theorem Aa.enc_len (x : Aa) : (Aa.enc x).length = 2 := rfl
abbrev Ai.dv (x : Ai) : List DV := [.val (.int .i64 x.Use.Alg), .val (.int .i64 x.Use.Bits), .sl 1 (As e8 x.Bytes)]
def Ai.enc (x : Ai) : List C := [.int .i64 x.Use.Alg, .int .i64 x.Use.Bits, .sl 1 (As e8 x.Bytes)]
theorem Ai.enc_len (x : Ai) : (Ai.enc x).length = 3 := rfl
abbrev A5.dv (x : A5) : List DV := [.val (.string x.Name), .sl 1 (As e8 x.Bytes)]
def A5.enc (x : A5) : List C := [.str x.Name, .sl 1 (As e8 x.Bytes)]
theorem A5.enc_len (x : A5) : (A5.enc x).length = 2 := rfl
abbrev Bc.dv (x : Bc) : List DV := [.val (.string x.Name), .val (.int .i64 x.Value)]
def Bc.enc (x : Bc) : List C := [.str x.Name, .int .i64 x.Value]
theorem Bc.enc_len (x : Bc) : (Bc.enc x).length = 2 := rfl
abbrev Bv.dv (x : Bv) : List DV := [.sl 2 (As A5.enc x.Sections), .sl 2 (As Bc.enc x.Symbols)]
def Bv.enc (x : Bv) : List C := [.sl 2 (As A5.enc x.Sections), .sl 2 (As Bc.enc x.Symbols)]
theorem Bv.enc_len (x : Bv) : (Bv.enc x).length = 2 := rfl
abbrev Ab.dv (x : Ab) : List DV := [.val (.int .i64 x.Pattern), .val (.int .i64 x.At)]
def Ab.enc (x : Ab) : List C := [.int .i64 x.Pattern, .int .i64 x.At]
theorem Ab.enc_len (x : Ab) : (Ab.enc x).length = 2 := rfl
abbrev B8.dv (x : B8) : List DV := [.val (.string x.name), .val (.int .i64 x.kind), .val (.int .i64 x.way), .sl 1 (As eI x.sizes), .sl 1 (As eI x.strengths)]
def B8.enc (x : B8) : List C := [.str x.name, .int .i64 x.kind, .int .i64 x.way, .sl 1 (As eI x.sizes), .sl 1 (As eI x.strengths)]
theorem B8.enc_len (x : B8) : (B8.enc x).length = 5 := rfl
abbrev Al.dv (x : Al) : List DV := (aD .i16 256 x.next ++ [.val (.int .i16 x.back), .sl 1 (As eI x.ends)])
def Al.enc (x : Al) : List C := (aC .i16 256 x.next ++ [.int .i16 x.back, .sl 1 (As eI x.ends)])
theorem Al.enc_len (x : Al) : (Al.enc x).length = 258 := by simp [Al.enc, Ph]
theorem Rq : Try.prog.underlying 3 = some (.int .i64) := by kernel_rfl
theorem Qe : Try.prog.underlying 5 = some (.int .u8) := by kernel_rfl
theorem Pd : Try.prog.underlying 9 = some (.string) := by kernel_rfl
theorem R8 : Try.prog.underlying 27 = some (.slice 5) := by kernel_rfl
theorem Zk : Try.prog.underlying 43 = some (.struct ((match Try.prog.underlying 43 with | some (.struct f) => f | _ => #[]))) := by kernel_rfl
theorem Yt : Try.prog.underlying 45 = some (.struct ((match Try.prog.underlying 45 with | some (.struct f) => f | _ => #[]))) := by kernel_rfl
theorem Ue : Try.prog.underlying 47 = some (.struct ((match Try.prog.underlying 47 with | some (.struct f) => f | _ => #[]))) := by kernel_rfl
theorem oG : Try.prog.underlying 53 = some (.struct ((match Try.prog.underlying 53 with | some (.struct f) => f | _ => #[]))) := by kernel_rfl
theorem dG : Try.prog.underlying 57 = some (.struct ((match Try.prog.underlying 57 with | some (.struct f) => f | _ => #[]))) := by kernel_rfl
theorem iS : Try.prog.underlying 64 = some (.struct ((match Try.prog.underlying 64 with | some (.struct f) => f | _ => #[]))) := by kernel_rfl
theorem iZ : Try.prog.underlying 77 = some (.struct ((match Try.prog.underlying 77 with | some (.struct f) => f | _ => #[]))) := by kernel_rfl
theorem vL : Try.prog.underlying 85 = some (.int .i16) := by kernel_rfl
theorem Qs : Try.prog.underlying 86 = some (.array 256 85) := by kernel_rfl
theorem kJ : Try.prog.underlying 88 = some (.struct ((match Try.prog.underlying 88 with | some (.struct f) => f | _ => #[]))) := by kernel_rfl
theorem Zm : Try.prog.underlying 91 = some (.int .u64) := by kernel_rfl
theorem qI : Try.prog.underlying 112 = some (.int .u64) := by kernel_rfl
theorem Fv : Try.prog.underlying 114 = some (.struct ((match Try.prog.underlying 114 with | some (.struct f) => f | _ => #[]))) := by kernel_rfl
theorem lB : Try.prog.underlying 129 = some (.int .u64) := by kernel_rfl
theorem iI : Try.prog.underlying 135 = some (.array 23 114) := by kernel_rfl
theorem Pr : Try.prog.underlying 137 = some (.array 2 3) := by kernel_rfl
theorem jY : Try.prog.underlying 138 = some (.array 5 137) := by kernel_rfl
theorem lW : Fd Try.prog 114 2 2 3 := ⟨_, (match Try.prog.underlying 114 with | some (.struct f) => f | _ => #[])[2]!, Fv, by kernel_rfl, by kernel_rfl, by kernel_rfl⟩
theorem nO : Fd Try.prog 114 3 3 22 := ⟨_, (match Try.prog.underlying 114 with | some (.struct f) => f | _ => #[])[3]!, Fv, by kernel_rfl, by kernel_rfl, by kernel_rfl⟩
theorem nC : Fd Try.prog 114 4 4 22 := ⟨_, (match Try.prog.underlying 114 with | some (.struct f) => f | _ => #[])[4]!, Fv, by kernel_rfl, by kernel_rfl, by kernel_rfl⟩
theorem bO : Fd Try.prog 43 0 0 3 := ⟨_, (match Try.prog.underlying 43 with | some (.struct f) => f | _ => #[])[0]!, Zk, by kernel_rfl, by kernel_rfl, by kernel_rfl⟩
theorem hY : Fd Try.prog 43 1 1 3 := ⟨_, (match Try.prog.underlying 43 with | some (.struct f) => f | _ => #[])[1]!, Zk, by kernel_rfl, by kernel_rfl, by kernel_rfl⟩
theorem Xm : Fd Try.prog 45 0 0 43 := ⟨_, (match Try.prog.underlying 45 with | some (.struct f) => f | _ => #[])[0]!, Yt, by kernel_rfl, by kernel_rfl, by kernel_rfl⟩
theorem Pi : Fd Try.prog 45 1 2 27 := ⟨_, (match Try.prog.underlying 45 with | some (.struct f) => f | _ => #[])[1]!, Yt, by kernel_rfl, by kernel_rfl, by kernel_rfl⟩
theorem sG : Fd Try.prog 47 0 0 3 := ⟨_, (match Try.prog.underlying 47 with | some (.struct f) => f | _ => #[])[0]!, Ue, by kernel_rfl, by kernel_rfl, by kernel_rfl⟩
theorem sQ : Fd Try.prog 47 1 1 3 := ⟨_, (match Try.prog.underlying 47 with | some (.struct f) => f | _ => #[])[1]!, Ue, by kernel_rfl, by kernel_rfl, by kernel_rfl⟩
theorem oT : Fd Try.prog 53 0 0 50 := ⟨_, (match Try.prog.underlying 53 with | some (.struct f) => f | _ => #[])[0]!, oG, by kernel_rfl, by kernel_rfl, by kernel_rfl⟩
theorem rW : Fd Try.prog 53 1 1 51 := ⟨_, (match Try.prog.underlying 53 with | some (.struct f) => f | _ => #[])[1]!, oG, by kernel_rfl, by kernel_rfl, by kernel_rfl⟩
theorem Ug : Fd Try.prog 57 0 0 9 := ⟨_, (match Try.prog.underlying 57 with | some (.struct f) => f | _ => #[])[0]!, dG, by kernel_rfl, by kernel_rfl, by kernel_rfl⟩
theorem bL : Fd Try.prog 57 1 1 3 := ⟨_, (match Try.prog.underlying 57 with | some (.struct f) => f | _ => #[])[1]!, dG, by kernel_rfl, by kernel_rfl, by kernel_rfl⟩
theorem rV : Fd Try.prog 64 0 0 22 := ⟨_, (match Try.prog.underlying 64 with | some (.struct f) => f | _ => #[])[0]!, iS, by kernel_rfl, by kernel_rfl, by kernel_rfl⟩
theorem sD : Fd Try.prog 64 1 1 3 := ⟨_, (match Try.prog.underlying 64 with | some (.struct f) => f | _ => #[])[1]!, iS, by kernel_rfl, by kernel_rfl, by kernel_rfl⟩
theorem Un : Fd Try.prog 77 0 0 9 := ⟨_, (match Try.prog.underlying 77 with | some (.struct f) => f | _ => #[])[0]!, iZ, by kernel_rfl, by kernel_rfl, by kernel_rfl⟩
theorem W8 : Fd Try.prog 77 1 1 27 := ⟨_, (match Try.prog.underlying 77 with | some (.struct f) => f | _ => #[])[1]!, iZ, by kernel_rfl, by kernel_rfl, by kernel_rfl⟩
theorem aF : Fd Try.prog 88 0 0 86 := ⟨_, (match Try.prog.underlying 88 with | some (.struct f) => f | _ => #[])[0]!, kJ, by kernel_rfl, by kernel_rfl, by kernel_rfl⟩
theorem oZ : Fd Try.prog 88 1 256 85 := ⟨_, (match Try.prog.underlying 88 with | some (.struct f) => f | _ => #[])[1]!, kJ, by kernel_rfl, by kernel_rfl, by kernel_rfl⟩
theorem bS : Fd Try.prog 88 2 257 22 := ⟨_, (match Try.prog.underlying 88 with | some (.struct f) => f | _ => #[])[2]!, kJ, by kernel_rfl, by kernel_rfl, by kernel_rfl⟩
theorem H0 : ((match Try.prog.underlying 114 with | some (.struct f) => f | _ => #[]) : Array Field).toList.map (fun f => (Try.prog.info? f.type).map fun i => (f.offset, i.size)) = [(0, 1), (1, 1), (2, 1), (3, 1), (4, 1)].map some := by kernel_rfl
theorem pZ : ((match Try.prog.underlying 43 with | some (.struct f) => f | _ => #[]) : Array Field).toList.map (fun f => (Try.prog.info? f.type).map fun i => (f.offset, i.size)) = [(0, 1), (1, 1)].map some := by kernel_rfl
theorem sN : ((match Try.prog.underlying 45 with | some (.struct f) => f | _ => #[]) : Array Field).toList.map (fun f => (Try.prog.info? f.type).map fun i => (f.offset, i.size)) = [(0, 2), (2, 1)].map some := by kernel_rfl
theorem jW : ((match Try.prog.underlying 47 with | some (.struct f) => f | _ => #[]) : Array Field).toList.map (fun f => (Try.prog.info? f.type).map fun i => (f.offset, i.size)) = [(0, 1), (1, 1)].map some := by kernel_rfl
theorem tC : ((match Try.prog.underlying 57 with | some (.struct f) => f | _ => #[]) : Array Field).toList.map (fun f => (Try.prog.info? f.type).map fun i => (f.offset, i.size)) = [(0, 1), (1, 1)].map some := by kernel_rfl
theorem vU : ((match Try.prog.underlying 64 with | some (.struct f) => f | _ => #[]) : Array Field).toList.map (fun f => (Try.prog.info? f.type).map fun i => (f.offset, i.size)) = [(0, 1), (1, 1)].map some := by kernel_rfl
theorem wI : ((match Try.prog.underlying 77 with | some (.struct f) => f | _ => #[]) : Array Field).toList.map (fun f => (Try.prog.info? f.type).map fun i => (f.offset, i.size)) = [(0, 1), (1, 1)].map some := by kernel_rfl
theorem Uc : Fs Try.prog 100 85 1 2 := Fs.mk' (z := (.int .i16 0)) (by kernel_rfl) (by kernel_rfl) rfl (by decide) (by decide)
theorem Fo : Fs Try.prog 22 3 1 8 := Fs.mk' (z := (.int .i64 0)) (by kernel_rfl) (by kernel_rfl) rfl (by decide) (by decide)
theorem Lc : Fs Try.prog 27 5 1 1 := Fs.mk' (z := (.int .u8 0)) (by kernel_rfl) (by kernel_rfl) rfl (by decide) (by decide)
theorem fE : Fs Try.prog 30 45 3 40 := Fs.mk' (z := (.agg #[.int .i64 0, .int .i64 0, .slice none 0 0])) (by kernel_rfl) (by kernel_rfl) rfl (by decide) (by decide)
theorem iV : Fs Try.prog 31 47 2 16 := Fs.mk' (z := (.agg #[.int .i64 0, .int .i64 0])) (by kernel_rfl) (by kernel_rfl) rfl (by decide) (by decide)
theorem rJ : Fs Try.prog 50 77 2 40 := Fs.mk' (z := (.agg #[.string ⟨#[]⟩, .slice none 0 0])) (by kernel_rfl) (by kernel_rfl) rfl (by decide) (by decide)
theorem iA : Fs Try.prog 51 57 2 24 := Fs.mk' (z := (.agg #[.string ⟨#[]⟩, .int .i64 0])) (by kernel_rfl) (by kernel_rfl) rfl (by decide) (by decide)
theorem Na : Fs Try.prog 58 43 2 16 := Fs.mk' (z := (.agg #[.int .i64 0, .int .i64 0])) (by kernel_rfl) (by kernel_rfl) rfl (by decide) (by decide)
theorem Xs : Fs Try.prog 75 9 1 16 := Fs.mk' (z := (.string ⟨#[]⟩)) (by kernel_rfl) (by kernel_rfl) rfl (by decide) (by decide)
theorem M7 : Fs Try.prog 83 88 258 544 := Fs.mk' (z := (.agg #[.int .i16 0, .int .i16 0, .int .i16 0, .int .i16 0, .int .i16 0, .int .i16 0, .int .i16 0, .int .i16 0, .int .i16 0, .int .i16 0, .int .i16 0, .int .i16 0, .int .i16 0, .int .i16 0, .int .i16 0, .int .i16 0, .int .i16 0, .int .i16 0, .int .i16 0, .int .i16 0, .int .i16 0, .int .i16 0, .int .i16 0, .int .i16 0, .int .i16 0, .int .i16 0, .int .i16 0, .int .i16 0, .int .i16 0, .int .i16 0, .int .i16 0, .int .i16 0, .int .i16 0, .int .i16 0, .int .i16 0, .int .i16 0, .int .i16 0, .int .i16 0, .int .i16 0, .int .i16 0, .int .i16 0, .int .i16 0, .int .i16 0, .int .i16 0, .int .i16 0, .int .i16 0, .int .i16 0, .int .i16 0, .int .i16 0, .int .i16 0, .int .i16 0, .int .i16 0, .int .i16 0, .int .i16 0, .int .i16 0, .int .i16 0, .int .i16 0, .int .i16 0, .int .i16 0, .int .i16 0, .int .i16 0, .int .i16 0, .int .i16 0, .int .i16 0, .int .i16 0, .int .i16 0, .int .i16 0, .int .i16 0, .int .i16 0, .int .i16 0, .int .i16 0, .int .i16 0, .int .i16 0, .int .i16 0, .int .i16 0, .int .i16 0, .int .i16 0, .int .i16 0, .int .i16 0, .int .i16 0, .int .i16 0, .int .i16 0, .int .i16 0, .int .i16 0, .int .i16 0, .int .i16 0, .int .i16 0, .int .i16 0, .int .i16 0, .int .i16 0, .int .i16 0, .int .i16 0, .int .i16 0, .int .i16 0, .int .i16 0, .int .i16 0, .int .i16 0, .int .i16 0, .int .i16 0, .int .i16 0, .int .i16 0, .int .i16 0, .int .i16 0, .int .i16 0, .int .i16 0, .int .i16 0, .int .i16 0, .int .i16 0, .int .i16 0, .int .i16 0, .int .i16 0, .int .i16 0, .int .i16 0, .int .i16 0, .int .i16 0, .int .i16 0, .int .i16 0, .int .i16 0, .int .i16 0, .int .i16 0, .int .i16 0, .int .i16 0, .int .i16 0, .int .i16 0, .int .i16 0, .int .i16 0, .int .i16 0, .int .i16 0, .int .i16 0, .int .i16 0, .int .i16 0, .int .i16 0, .int .i16 0, .int .i16 0, .int .i16 0, .int .i16 0, .int .i16 0, .int .i16 0, .int .i16 0, .int .i16 0, .int .i16 0, .int .i16 0, .int .i16 0, .int .i16 0, .int .i16 0, .int .i16 0, .int .i16 0, .int .i16 0, .int .i16 0, .int .i16 0, .int .i16 0, .int .i16 0, .int .i16 0, .int .i16 0, .int .i16 0, .int .i16 0, .int .i16 0, .int .i16 0, .int .i16 0, .int .i16 0, .int .i16 0, .int .i16 0, .int .i16 0, .int .i16 0, .int .i16 0, .int .i16 0, .int .i16 0, .int .i16 0, .int .i16 0, .int .i16 0, .int .i16 0, .int .i16 0, .int .i16 0, .int .i16 0, .int .i16 0, .int .i16 0, .int .i16 0, .int .i16 0, .int .i16 0, .int .i16 0, .int .i16 0, .int .i16 0, .int .i16 0, .int .i16 0, .int .i16 0, .int .i16 0, .int .i16 0, .int .i16 0, .int .i16 0, .int .i16 0, .int .i16 0, .int .i16 0, .int .i16 0, .int .i16 0, .int .i16 0, .int .i16 0, .int .i16 0, .int .i16 0, .int .i16 0, .int .i16 0, .int .i16 0, .int .i16 0, .int .i16 0, .int .i16 0, .int .i16 0, .int .i16 0, .int .i16 0, .int .i16 0, .int .i16 0, .int .i16 0, .int .i16 0, .int .i16 0, .int .i16 0, .int .i16 0, .int .i16 0, .int .i16 0, .int .i16 0, .int .i16 0, .int .i16 0, .int .i16 0, .int .i16 0, .int .i16 0, .int .i16 0, .int .i16 0, .int .i16 0, .int .i16 0, .int .i16 0, .int .i16 0, .int .i16 0, .int .i16 0, .int .i16 0, .int .i16 0, .int .i16 0, .int .i16 0, .int .i16 0, .int .i16 0, .int .i16 0, .int .i16 0, .int .i16 0, .int .i16 0, .int .i16 0, .int .i16 0, .int .i16 0, .int .i16 0, .int .i16 0, .int .i16 0, .int .i16 0, .int .i16 0, .int .i16 0, .int .i16 0, .int .i16 0, .int .i16 0, .int .i16 0, .int .i16 0, .int .i16 0, .int .i16 0, .int .i16 0, .slice none 0 0])) (by kernel_rfl) (by kernel_rfl) rfl (by decide) (by decide)
theorem oF : Ty Try.prog 114 true 5 := ⟨by kernel_rfl, by kernel_rfl⟩
theorem uO : Ty Try.prog 129 false 1 := ⟨by kernel_rfl, by kernel_rfl⟩
theorem uZ : Ty Try.prog 135 true 115 := ⟨by kernel_rfl, by kernel_rfl⟩
theorem oH : Ty Try.prog 137 true 2 := ⟨by kernel_rfl, by kernel_rfl⟩
theorem Vz : Ty Try.prog 22 false 1 := ⟨by kernel_rfl, by kernel_rfl⟩
theorem Ky : Ty Try.prog 27 false 1 := ⟨by kernel_rfl, by kernel_rfl⟩
theorem Yr : Ty Try.prog 3 false 1 := ⟨by kernel_rfl, by kernel_rfl⟩
theorem wM : Ty Try.prog 31 false 1 := ⟨by kernel_rfl, by kernel_rfl⟩
theorem Ut : Ty Try.prog 43 true 2 := ⟨by kernel_rfl, by kernel_rfl⟩
theorem wG : Ty Try.prog 45 true 3 := ⟨by kernel_rfl, by kernel_rfl⟩
theorem wP : Ty Try.prog 47 true 2 := ⟨by kernel_rfl, by kernel_rfl⟩
theorem xF : Ty Try.prog 5 false 1 := ⟨by kernel_rfl, by kernel_rfl⟩
theorem wK : Ty Try.prog 50 false 1 := ⟨by kernel_rfl, by kernel_rfl⟩
theorem vR : Ty Try.prog 51 false 1 := ⟨by kernel_rfl, by kernel_rfl⟩
theorem wL : Ty Try.prog 53 true 2 := ⟨by kernel_rfl, by kernel_rfl⟩
theorem wT : Ty Try.prog 57 true 2 := ⟨by kernel_rfl, by kernel_rfl⟩
theorem vQ : Ty Try.prog 77 true 2 := ⟨by kernel_rfl, by kernel_rfl⟩
theorem K0 : Ty Try.prog 85 false 1 := ⟨by kernel_rfl, by kernel_rfl⟩
theorem rA : Ty Try.prog 86 true 256 := ⟨by kernel_rfl, by kernel_rfl⟩
theorem nA : Ty Try.prog 88 true 258 := ⟨by kernel_rfl, by kernel_rfl⟩
theorem Wl : Ty Try.prog 9 false 1 := ⟨by kernel_rfl, by kernel_rfl⟩
theorem J7 : Zt Try.prog 114 [.string ⟨#[]⟩, .int .i64 0, .int .i64 0, .slice none 0 0, .slice none 0 0] := ⟨(.agg #[.string ⟨#[]⟩, .int .i64 0, .int .i64 0, .slice none 0 0, .slice none 0 0]), by kernel_rfl, rfl, by decide⟩
theorem wD : Zt Try.prog 129 [.int .u64 0] := ⟨(.int .u64 0), by kernel_rfl, rfl, by decide⟩
theorem uH : Zt Try.prog 135 [.string ⟨#[]⟩, .int .i64 0, .int .i64 0, .slice none 0 0, .slice none 0 0, .string ⟨#[]⟩, .int .i64 0, .int .i64 0, .slice none 0 0, .slice none 0 0, .string ⟨#[]⟩, .int .i64 0, .int .i64 0, .slice none 0 0, .slice none 0 0, .string ⟨#[]⟩, .int .i64 0, .int .i64 0, .slice none 0 0, .slice none 0 0, .string ⟨#[]⟩, .int .i64 0, .int .i64 0, .slice none 0 0, .slice none 0 0, .string ⟨#[]⟩, .int .i64 0, .int .i64 0, .slice none 0 0, .slice none 0 0, .string ⟨#[]⟩, .int .i64 0, .int .i64 0, .slice none 0 0, .slice none 0 0, .string ⟨#[]⟩, .int .i64 0, .int .i64 0, .slice none 0 0, .slice none 0 0, .string ⟨#[]⟩, .int .i64 0, .int .i64 0, .slice none 0 0, .slice none 0 0, .string ⟨#[]⟩, .int .i64 0, .int .i64 0, .slice none 0 0, .slice none 0 0, .string ⟨#[]⟩, .int .i64 0, .int .i64 0, .slice none 0 0, .slice none 0 0, .string ⟨#[]⟩, .int .i64 0, .int .i64 0, .slice none 0 0, .slice none 0 0, .string ⟨#[]⟩, .int .i64 0, .int .i64 0, .slice none 0 0, .slice none 0 0, .string ⟨#[]⟩, .int .i64 0, .int .i64 0, .slice none 0 0, .slice none 0 0, .string ⟨#[]⟩, .int .i64 0, .int .i64 0, .slice none 0 0, .slice none 0 0, .string ⟨#[]⟩, .int .i64 0, .int .i64 0, .slice none 0 0, .slice none 0 0, .string ⟨#[]⟩, .int .i64 0, .int .i64 0, .slice none 0 0, .slice none 0 0, .string ⟨#[]⟩, .int .i64 0, .int .i64 0, .slice none 0 0, .slice none 0 0, .string ⟨#[]⟩, .int .i64 0, .int .i64 0, .slice none 0 0, .slice none 0 0, .string ⟨#[]⟩, .int .i64 0, .int .i64 0, .slice none 0 0, .slice none 0 0, .string ⟨#[]⟩, .int .i64 0, .int .i64 0, .slice none 0 0, .slice none 0 0, .string ⟨#[]⟩, .int .i64 0, .int .i64 0, .slice none 0 0, .slice none 0 0, .string ⟨#[]⟩, .int .i64 0, .int .i64 0, .slice none 0 0, .slice none 0 0] := ⟨(.agg #[.string ⟨#[]⟩, .int .i64 0, .int .i64 0, .slice none 0 0, .slice none 0 0, .string ⟨#[]⟩, .int .i64 0, .int .i64 0, .slice none 0 0, .slice none 0 0, .string ⟨#[]⟩, .int .i64 0, .int .i64 0, .slice none 0 0, .slice none 0 0, .string ⟨#[]⟩, .int .i64 0, .int .i64 0, .slice none 0 0, .slice none 0 0, .string ⟨#[]⟩, .int .i64 0, .int .i64 0, .slice none 0 0, .slice none 0 0, .string ⟨#[]⟩, .int .i64 0, .int .i64 0, .slice none 0 0, .slice none 0 0, .string ⟨#[]⟩, .int .i64 0, .int .i64 0, .slice none 0 0, .slice none 0 0, .string ⟨#[]⟩, .int .i64 0, .int .i64 0, .slice none 0 0, .slice none 0 0, .string ⟨#[]⟩, .int .i64 0, .int .i64 0, .slice none 0 0, .slice none 0 0, .string ⟨#[]⟩, .int .i64 0, .int .i64 0, .slice none 0 0, .slice none 0 0, .string ⟨#[]⟩, .int .i64 0, .int .i64 0, .slice none 0 0, .slice none 0 0, .string ⟨#[]⟩, .int .i64 0, .int .i64 0, .slice none 0 0, .slice none 0 0, .string ⟨#[]⟩, .int .i64 0, .int .i64 0, .slice none 0 0, .slice none 0 0, .string ⟨#[]⟩, .int .i64 0, .int .i64 0, .slice none 0 0, .slice none 0 0, .string ⟨#[]⟩, .int .i64 0, .int .i64 0, .slice none 0 0, .slice none 0 0, .string ⟨#[]⟩, .int .i64 0, .int .i64 0, .slice none 0 0, .slice none 0 0, .string ⟨#[]⟩, .int .i64 0, .int .i64 0, .slice none 0 0, .slice none 0 0, .string ⟨#[]⟩, .int .i64 0, .int .i64 0, .slice none 0 0, .slice none 0 0, .string ⟨#[]⟩, .int .i64 0, .int .i64 0, .slice none 0 0, .slice none 0 0, .string ⟨#[]⟩, .int .i64 0, .int .i64 0, .slice none 0 0, .slice none 0 0, .string ⟨#[]⟩, .int .i64 0, .int .i64 0, .slice none 0 0, .slice none 0 0, .string ⟨#[]⟩, .int .i64 0, .int .i64 0, .slice none 0 0, .slice none 0 0, .string ⟨#[]⟩, .int .i64 0, .int .i64 0, .slice none 0 0, .slice none 0 0]), by kernel_rfl, rfl, by decide⟩
theorem fJ : Zt Try.prog 137 [.int .i64 0, .int .i64 0] := ⟨(.agg #[.int .i64 0, .int .i64 0]), by kernel_rfl, rfl, by decide⟩
theorem uJ : Zt Try.prog 138 [.int .i64 0, .int .i64 0, .int .i64 0, .int .i64 0, .int .i64 0, .int .i64 0, .int .i64 0, .int .i64 0, .int .i64 0, .int .i64 0] := ⟨(.agg #[.int .i64 0, .int .i64 0, .int .i64 0, .int .i64 0, .int .i64 0, .int .i64 0, .int .i64 0, .int .i64 0, .int .i64 0, .int .i64 0]), by kernel_rfl, rfl, by decide⟩
theorem xI : Zt Try.prog 22 [.slice none 0 0] := ⟨(.slice none 0 0), by kernel_rfl, rfl, by decide⟩
theorem z3 : Zt Try.prog 3 [.int .i64 0] := ⟨(.int .i64 0), by kernel_rfl, rfl, by decide⟩
theorem xH : Zt Try.prog 31 [.slice none 0 0] := ⟨(.slice none 0 0), by kernel_rfl, rfl, by decide⟩
theorem oM : Zt Try.prog 43 [.int .i64 0, .int .i64 0] := ⟨(.agg #[.int .i64 0, .int .i64 0]), by kernel_rfl, rfl, by decide⟩
theorem oR : Zt Try.prog 45 [.int .i64 0, .int .i64 0, .slice none 0 0] := ⟨(.agg #[.int .i64 0, .int .i64 0, .slice none 0 0]), by kernel_rfl, rfl, by decide⟩
theorem oI : Zt Try.prog 47 [.int .i64 0, .int .i64 0] := ⟨(.agg #[.int .i64 0, .int .i64 0]), by kernel_rfl, rfl, by decide⟩
theorem z5 : Zt Try.prog 5 [.int .u8 0] := ⟨(.int .u8 0), by kernel_rfl, rfl, by decide⟩
theorem xB : Zt Try.prog 53 [.slice none 0 0, .slice none 0 0] := ⟨(.agg #[.slice none 0 0, .slice none 0 0]), by kernel_rfl, rfl, by decide⟩
theorem uY : Zt Try.prog 57 [.string ⟨#[]⟩, .int .i64 0] := ⟨(.agg #[.string ⟨#[]⟩, .int .i64 0]), by kernel_rfl, rfl, by decide⟩
theorem wX : Zt Try.prog 64 [.slice none 0 0, .int .i64 0] := ⟨(.agg #[.slice none 0 0, .int .i64 0]), by kernel_rfl, rfl, by decide⟩
theorem wS : Zt Try.prog 77 [.string ⟨#[]⟩, .slice none 0 0] := ⟨(.agg #[.string ⟨#[]⟩, .slice none 0 0]), by kernel_rfl, rfl, by decide⟩
theorem wB : Zt Try.prog 85 [.int .i16 0] := ⟨(.int .i16 0), by kernel_rfl, rfl, by decide⟩
theorem tN : Zt Try.prog 88 [.int .i16 0, .int .i16 0, .int .i16 0, .int .i16 0, .int .i16 0, .int .i16 0, .int .i16 0, .int .i16 0, .int .i16 0, .int .i16 0, .int .i16 0, .int .i16 0, .int .i16 0, .int .i16 0, .int .i16 0, .int .i16 0, .int .i16 0, .int .i16 0, .int .i16 0, .int .i16 0, .int .i16 0, .int .i16 0, .int .i16 0, .int .i16 0, .int .i16 0, .int .i16 0, .int .i16 0, .int .i16 0, .int .i16 0, .int .i16 0, .int .i16 0, .int .i16 0, .int .i16 0, .int .i16 0, .int .i16 0, .int .i16 0, .int .i16 0, .int .i16 0, .int .i16 0, .int .i16 0, .int .i16 0, .int .i16 0, .int .i16 0, .int .i16 0, .int .i16 0, .int .i16 0, .int .i16 0, .int .i16 0, .int .i16 0, .int .i16 0, .int .i16 0, .int .i16 0, .int .i16 0, .int .i16 0, .int .i16 0, .int .i16 0, .int .i16 0, .int .i16 0, .int .i16 0, .int .i16 0, .int .i16 0, .int .i16 0, .int .i16 0, .int .i16 0, .int .i16 0, .int .i16 0, .int .i16 0, .int .i16 0, .int .i16 0, .int .i16 0, .int .i16 0, .int .i16 0, .int .i16 0, .int .i16 0, .int .i16 0, .int .i16 0, .int .i16 0, .int .i16 0, .int .i16 0, .int .i16 0, .int .i16 0, .int .i16 0, .int .i16 0, .int .i16 0, .int .i16 0, .int .i16 0, .int .i16 0, .int .i16 0, .int .i16 0, .int .i16 0, .int .i16 0, .int .i16 0, .int .i16 0, .int .i16 0, .int .i16 0, .int .i16 0, .int .i16 0, .int .i16 0, .int .i16 0, .int .i16 0, .int .i16 0, .int .i16 0, .int .i16 0, .int .i16 0, .int .i16 0, .int .i16 0, .int .i16 0, .int .i16 0, .int .i16 0, .int .i16 0, .int .i16 0, .int .i16 0, .int .i16 0, .int .i16 0, .int .i16 0, .int .i16 0, .int .i16 0, .int .i16 0, .int .i16 0, .int .i16 0, .int .i16 0, .int .i16 0, .int .i16 0, .int .i16 0, .int .i16 0, .int .i16 0, .int .i16 0, .int .i16 0, .int .i16 0, .int .i16 0, .int .i16 0, .int .i16 0, .int .i16 0, .int .i16 0, .int .i16 0, .int .i16 0, .int .i16 0, .int .i16 0, .int .i16 0, .int .i16 0, .int .i16 0, .int .i16 0, .int .i16 0, .int .i16 0, .int .i16 0, .int .i16 0, .int .i16 0, .int .i16 0, .int .i16 0, .int .i16 0, .int .i16 0, .int .i16 0, .int .i16 0, .int .i16 0, .int .i16 0, .int .i16 0, .int .i16 0, .int .i16 0, .int .i16 0, .int .i16 0, .int .i16 0, .int .i16 0, .int .i16 0, .int .i16 0, .int .i16 0, .int .i16 0, .int .i16 0, .int .i16 0, .int .i16 0, .int .i16 0, .int .i16 0, .int .i16 0, .int .i16 0, .int .i16 0, .int .i16 0, .int .i16 0, .int .i16 0, .int .i16 0, .int .i16 0, .int .i16 0, .int .i16 0, .int .i16 0, .int .i16 0, .int .i16 0, .int .i16 0, .int .i16 0, .int .i16 0, .int .i16 0, .int .i16 0, .int .i16 0, .int .i16 0, .int .i16 0, .int .i16 0, .int .i16 0, .int .i16 0, .int .i16 0, .int .i16 0, .int .i16 0, .int .i16 0, .int .i16 0, .int .i16 0, .int .i16 0, .int .i16 0, .int .i16 0, .int .i16 0, .int .i16 0, .int .i16 0, .int .i16 0, .int .i16 0, .int .i16 0, .int .i16 0, .int .i16 0, .int .i16 0, .int .i16 0, .int .i16 0, .int .i16 0, .int .i16 0, .int .i16 0, .int .i16 0, .int .i16 0, .int .i16 0, .int .i16 0, .int .i16 0, .int .i16 0, .int .i16 0, .int .i16 0, .int .i16 0, .int .i16 0, .int .i16 0, .int .i16 0, .int .i16 0, .int .i16 0, .int .i16 0, .int .i16 0, .int .i16 0, .int .i16 0, .int .i16 0, .int .i16 0, .int .i16 0, .int .i16 0, .int .i16 0, .int .i16 0, .int .i16 0, .int .i16 0, .int .i16 0, .int .i16 0, .int .i16 0, .int .i16 0, .int .i16 0, .int .i16 0, .int .i16 0, .int .i16 0, .int .i16 0, .int .i16 0, .int .i16 0, .int .i16 0, .int .i16 0, .slice none 0 0] := ⟨(.agg #[.int .i16 0, .int .i16 0, .int .i16 0, .int .i16 0, .int .i16 0, .int .i16 0, .int .i16 0, .int .i16 0, .int .i16 0, .int .i16 0, .int .i16 0, .int .i16 0, .int .i16 0, .int .i16 0, .int .i16 0, .int .i16 0, .int .i16 0, .int .i16 0, .int .i16 0, .int .i16 0, .int .i16 0, .int .i16 0, .int .i16 0, .int .i16 0, .int .i16 0, .int .i16 0, .int .i16 0, .int .i16 0, .int .i16 0, .int .i16 0, .int .i16 0, .int .i16 0, .int .i16 0, .int .i16 0, .int .i16 0, .int .i16 0, .int .i16 0, .int .i16 0, .int .i16 0, .int .i16 0, .int .i16 0, .int .i16 0, .int .i16 0, .int .i16 0, .int .i16 0, .int .i16 0, .int .i16 0, .int .i16 0, .int .i16 0, .int .i16 0, .int .i16 0, .int .i16 0, .int .i16 0, .int .i16 0, .int .i16 0, .int .i16 0, .int .i16 0, .int .i16 0, .int .i16 0, .int .i16 0, .int .i16 0, .int .i16 0, .int .i16 0, .int .i16 0, .int .i16 0, .int .i16 0, .int .i16 0, .int .i16 0, .int .i16 0, .int .i16 0, .int .i16 0, .int .i16 0, .int .i16 0, .int .i16 0, .int .i16 0, .int .i16 0, .int .i16 0, .int .i16 0, .int .i16 0, .int .i16 0, .int .i16 0, .int .i16 0, .int .i16 0, .int .i16 0, .int .i16 0, .int .i16 0, .int .i16 0, .int .i16 0, .int .i16 0, .int .i16 0, .int .i16 0, .int .i16 0, .int .i16 0, .int .i16 0, .int .i16 0, .int .i16 0, .int .i16 0, .int .i16 0, .int .i16 0, .int .i16 0, .int .i16 0, .int .i16 0, .int .i16 0, .int .i16 0, .int .i16 0, .int .i16 0, .int .i16 0, .int .i16 0, .int .i16 0, .int .i16 0, .int .i16 0, .int .i16 0, .int .i16 0, .int .i16 0, .int .i16 0, .int .i16 0, .int .i16 0, .int .i16 0, .int .i16 0, .int .i16 0, .int .i16 0, .int .i16 0, .int .i16 0, .int .i16 0, .int .i16 0, .int .i16 0, .int .i16 0, .int .i16 0, .int .i16 0, .int .i16 0, .int .i16 0, .int .i16 0, .int .i16 0, .int .i16 0, .int .i16 0, .int .i16 0, .int .i16 0, .int .i16 0, .int .i16 0, .int .i16 0, .int .i16 0, .int .i16 0, .int .i16 0, .int .i16 0, .int .i16 0, .int .i16 0, .int .i16 0, .int .i16 0, .int .i16 0, .int .i16 0, .int .i16 0, .int .i16 0, .int .i16 0, .int .i16 0, .int .i16 0, .int .i16 0, .int .i16 0, .int .i16 0, .int .i16 0, .int .i16 0, .int .i16 0, .int .i16 0, .int .i16 0, .int .i16 0, .int .i16 0, .int .i16 0, .int .i16 0, .int .i16 0, .int .i16 0, .int .i16 0, .int .i16 0, .int .i16 0, .int .i16 0, .int .i16 0, .int .i16 0, .int .i16 0, .int .i16 0, .int .i16 0, .int .i16 0, .int .i16 0, .int .i16 0, .int .i16 0, .int .i16 0, .int .i16 0, .int .i16 0, .int .i16 0, .int .i16 0, .int .i16 0, .int .i16 0, .int .i16 0, .int .i16 0, .int .i16 0, .int .i16 0, .int .i16 0, .int .i16 0, .int .i16 0, .int .i16 0, .int .i16 0, .int .i16 0, .int .i16 0, .int .i16 0, .int .i16 0, .int .i16 0, .int .i16 0, .int .i16 0, .int .i16 0, .int .i16 0, .int .i16 0, .int .i16 0, .int .i16 0, .int .i16 0, .int .i16 0, .int .i16 0, .int .i16 0, .int .i16 0, .int .i16 0, .int .i16 0, .int .i16 0, .int .i16 0, .int .i16 0, .int .i16 0, .int .i16 0, .int .i16 0, .int .i16 0, .int .i16 0, .int .i16 0, .int .i16 0, .int .i16 0, .int .i16 0, .int .i16 0, .int .i16 0, .int .i16 0, .int .i16 0, .int .i16 0, .int .i16 0, .int .i16 0, .int .i16 0, .int .i16 0, .int .i16 0, .int .i16 0, .int .i16 0, .int .i16 0, .int .i16 0, .int .i16 0, .int .i16 0, .int .i16 0, .int .i16 0, .int .i16 0, .int .i16 0, .int .i16 0, .int .i16 0, .int .i16 0, .int .i16 0, .int .i16 0, .int .i16 0, .int .i16 0, .int .i16 0, .slice none 0 0]), by kernel_rfl, rfl, by decide⟩
theorem z9 : Zt Try.prog 9 [.string ⟨#[]⟩] := ⟨(.string ⟨#[]⟩), by kernel_rfl, rfl, by decide⟩
theorem qN : Ib Try.prog 20 27 = [some 1] := by kernel_rfl
theorem Jj : Ib Try.prog 20 3 = [none] := by kernel_rfl
theorem Hu : Ib Try.prog 20 43 = [none, none] := by kernel_rfl
theorem sE : Ib Try.prog 20 45 = [none, none, some 1] := by kernel_rfl
theorem Ic : Ib Try.prog 20 47 = [none, none] := by kernel_rfl
theorem gH : Ib Try.prog 20 5 = [none] := by kernel_rfl
theorem tB : Ib Try.prog 20 57 = [none, none] := by kernel_rfl
theorem wC : Ib Try.prog 20 77 = [none, some 1] := by kernel_rfl
theorem tS : Ib Try.prog 20 85 = [none] := by kernel_rfl
theorem vC : Ib Try.prog 20 9 = [none] := by kernel_rfl
theorem tK : Try.prog.eqGuardType Try.prog.depth 43 = false := by kernel_rfl
theorem wE : Try.prog.underlying 43 = some (.struct (Try.prog.fieldsOf 43)) := by kernel_rfl
theorem vW : Try.prog.stoodInHeld 43 = false := by kernel_rfl
theorem tP (x y : Aa) (w : World) : (Op.equalIn 10000 43 (.agg #[.int .i64 x.Alg, .int .i64 x.Bits]) (.agg #[.int .i64 y.Alg, .int .i64 y.Bits])).run Try.prog w = .ok (decide (x = y)) w := by
 have u3 := Try.underlying3
 have a3 := Try.isAgg3
 have z3 := Try.sizeOf3
 rw [show (10000 : Nat) = 9999 + 1 from rfl, run_equalIn_agg w 9999 43 _ _ wE vW]
 simp only [Program.fieldsOf, Try.underlying43]
 go_simp
 rcases x with ⟨x0, x1⟩
 rcases y with ⟨y0, y1⟩
 by_cases h0 : x0 = y0 <;> by_cases h1 : x1 = y1 <;> simp [h0, h1]
theorem Ui (x y : Aa) {X Y : Operand} {tk : Nat} {yt ty : TypeId} {b1 b2 : Option LB} : Ex Try.prog tk (.binOp .eql 43 X Y yt) ty [(.agg [.val (.int .i64 x.Alg), .val (.int .i64 x.Bits)], b1), (.agg [.val (.int .i64 y.Alg), .val (.int .i64 y.Bits)], b2)] [] (v0 (.val (.bool (decide (x = y))))) :=
 .binOpA rfl rfl (fun _ _ => rfl) (fun w => by
  rw [Sem.run_bind, run_eqGuard_agg w _ 43 X Y _ _ tK]
  simp only [Result.andThen_ok, run_eql_struct]
  exact congrArg (fun r => Result.andThen r _) (tP x y w))
theorem T8 (x y : Aa) {X Y : Operand} {tk : Nat} {yt ty : TypeId} {b1 b2 : Option LB} : Ex Try.prog tk (.binOp .neq 43 X Y yt) ty [(.agg [.val (.int .i64 x.Alg), .val (.int .i64 x.Bits)], b1), (.agg [.val (.int .i64 y.Alg), .val (.int .i64 y.Bits)], b2)] [] (v0 (.val (.bool (!decide (x = y))))) :=
 .binOpA rfl rfl (fun _ _ => rfl) (fun w => by
  rw [Sem.run_bind, run_eqGuard_agg w _ 43 X Y _ _ tK]
  simp only [Result.andThen_ok, run_neq_struct]
  exact congrArg (fun r => Result.andThen r _) (tP x y w))
theorem tG : Try.prog.eqGuardType Try.prog.depth 47 = false := by kernel_rfl
theorem wF : Try.prog.underlying 47 = some (.struct (Try.prog.fieldsOf 47)) := by kernel_rfl
theorem vZ : Try.prog.stoodInHeld 47 = false := by kernel_rfl
theorem uS (x y : Ab) (w : World) : (Op.equalIn 10000 47 (.agg #[.int .i64 x.Pattern, .int .i64 x.At]) (.agg #[.int .i64 y.Pattern, .int .i64 y.At])).run Try.prog w = .ok (decide (x = y)) w := by
 have u3 := Try.underlying3
 have a3 := Try.isAgg3
 have z3 := Try.sizeOf3
 rw [show (10000 : Nat) = 9999 + 1 from rfl, run_equalIn_agg w 9999 47 _ _ wF vZ]
 simp only [Program.fieldsOf, Try.underlying47]
 go_simp
 rcases x with ⟨x0, x1⟩
 rcases y with ⟨y0, y1⟩
 by_cases h0 : x0 = y0 <;> by_cases h1 : x1 = y1 <;> simp [h0, h1]
theorem Tp (x y : Ab) {X Y : Operand} {tk : Nat} {yt ty : TypeId} {b1 b2 : Option LB} : Ex Try.prog tk (.binOp .eql 47 X Y yt) ty [(.agg [.val (.int .i64 x.Pattern), .val (.int .i64 x.At)], b1), (.agg [.val (.int .i64 y.Pattern), .val (.int .i64 y.At)], b2)] [] (v0 (.val (.bool (decide (x = y))))) :=
 .binOpA rfl rfl (fun _ _ => rfl) (fun w => by
  rw [Sem.run_bind, run_eqGuard_agg w _ 47 X Y _ _ tG]
  simp only [Result.andThen_ok, run_eql_struct]
  exact congrArg (fun r => Result.andThen r _) (uS x y w))
theorem aL (x y : Ab) {X Y : Operand} {tk : Nat} {yt ty : TypeId} {b1 b2 : Option LB} : Ex Try.prog tk (.binOp .neq 47 X Y yt) ty [(.agg [.val (.int .i64 x.Pattern), .val (.int .i64 x.At)], b1), (.agg [.val (.int .i64 y.Pattern), .val (.int .i64 y.At)], b2)] [] (v0 (.val (.bool (!decide (x = y))))) :=
 .binOpA rfl rfl (fun _ _ => rfl) (fun w => by
  rw [Sem.run_bind, run_eqGuard_agg w _ 47 X Y _ _ tG]
  simp only [Result.andThen_ok, run_neq_struct]
  exact congrArg (fun r => Result.andThen r _) (uS x y w))
instance : Tm Try.prog 114 2 2 3 := ⟨lW⟩
instance : Tm Try.prog 114 3 3 22 := ⟨nO⟩
instance : Tm Try.prog 114 4 4 22 := ⟨nC⟩
instance : Tm Try.prog 43 0 0 3 := ⟨bO⟩
instance : Tm Try.prog 43 1 1 3 := ⟨hY⟩
instance : Tm Try.prog 45 0 0 43 := ⟨Xm⟩
instance : Tm Try.prog 45 1 2 27 := ⟨Pi⟩
instance : Tm Try.prog 47 0 0 3 := ⟨sG⟩
instance : Tm Try.prog 47 1 1 3 := ⟨sQ⟩
instance : Tm Try.prog 53 0 0 50 := ⟨oT⟩
instance : Tm Try.prog 53 1 1 51 := ⟨rW⟩
instance : Tm Try.prog 57 0 0 9 := ⟨Ug⟩
instance : Tm Try.prog 57 1 1 3 := ⟨bL⟩
instance : Tm Try.prog 64 0 0 22 := ⟨rV⟩
instance : Tm Try.prog 64 1 1 3 := ⟨sD⟩
instance : Tm Try.prog 77 0 0 9 := ⟨Un⟩
instance : Tm Try.prog 77 1 1 27 := ⟨W8⟩
instance : Tm Try.prog 88 0 0 86 := ⟨aF⟩
instance : Tm Try.prog 88 1 256 85 := ⟨oZ⟩
instance : Tm Try.prog 88 2 257 22 := ⟨bS⟩
instance : dF Try.prog 100 85 1 2 := ⟨Uc⟩
instance : dF Try.prog 22 3 1 8 := ⟨Fo⟩
instance : dF Try.prog 27 5 1 1 := ⟨Lc⟩
instance : dF Try.prog 30 45 3 40 := ⟨fE⟩
instance : dF Try.prog 31 47 2 16 := ⟨iV⟩
instance : dF Try.prog 50 77 2 40 := ⟨rJ⟩
instance : dF Try.prog 51 57 2 24 := ⟨iA⟩
instance : dF Try.prog 58 43 2 16 := ⟨Na⟩
instance : dF Try.prog 75 9 1 16 := ⟨Xs⟩
instance : dF Try.prog 83 88 258 544 := ⟨M7⟩
instance : O3 Try.prog 114 true 5 := ⟨oF⟩
instance : O3 Try.prog 129 false 1 := ⟨uO⟩
instance : O3 Try.prog 135 true 115 := ⟨uZ⟩
instance : O3 Try.prog 137 true 2 := ⟨oH⟩
instance : O3 Try.prog 22 false 1 := ⟨Vz⟩
instance : O3 Try.prog 27 false 1 := ⟨Ky⟩
instance : O3 Try.prog 3 false 1 := ⟨Yr⟩
instance : O3 Try.prog 31 false 1 := ⟨wM⟩
instance : O3 Try.prog 43 true 2 := ⟨Ut⟩
instance : O3 Try.prog 45 true 3 := ⟨wG⟩
instance : O3 Try.prog 47 true 2 := ⟨wP⟩
instance : O3 Try.prog 5 false 1 := ⟨xF⟩
instance : O3 Try.prog 50 false 1 := ⟨wK⟩
instance : O3 Try.prog 51 false 1 := ⟨vR⟩
instance : O3 Try.prog 53 true 2 := ⟨wL⟩
instance : O3 Try.prog 57 true 2 := ⟨wT⟩
instance : O3 Try.prog 77 true 2 := ⟨vQ⟩
instance : O3 Try.prog 85 false 1 := ⟨K0⟩
instance : O3 Try.prog 86 true 256 := ⟨rA⟩
instance : O3 Try.prog 88 true 258 := ⟨nA⟩
instance : O3 Try.prog 9 false 1 := ⟨Wl⟩
instance : V2 Try.prog 114 [.string ⟨#[]⟩, .int .i64 0, .int .i64 0, .slice none 0 0, .slice none 0 0] := ⟨J7⟩
instance : V2 Try.prog 129 [.int .u64 0] := ⟨wD⟩
instance : V2 Try.prog 135 [.string ⟨#[]⟩, .int .i64 0, .int .i64 0, .slice none 0 0, .slice none 0 0, .string ⟨#[]⟩, .int .i64 0, .int .i64 0, .slice none 0 0, .slice none 0 0, .string ⟨#[]⟩, .int .i64 0, .int .i64 0, .slice none 0 0, .slice none 0 0, .string ⟨#[]⟩, .int .i64 0, .int .i64 0, .slice none 0 0, .slice none 0 0, .string ⟨#[]⟩, .int .i64 0, .int .i64 0, .slice none 0 0, .slice none 0 0, .string ⟨#[]⟩, .int .i64 0, .int .i64 0, .slice none 0 0, .slice none 0 0, .string ⟨#[]⟩, .int .i64 0, .int .i64 0, .slice none 0 0, .slice none 0 0, .string ⟨#[]⟩, .int .i64 0, .int .i64 0, .slice none 0 0, .slice none 0 0, .string ⟨#[]⟩, .int .i64 0, .int .i64 0, .slice none 0 0, .slice none 0 0, .string ⟨#[]⟩, .int .i64 0, .int .i64 0, .slice none 0 0, .slice none 0 0, .string ⟨#[]⟩, .int .i64 0, .int .i64 0, .slice none 0 0, .slice none 0 0, .string ⟨#[]⟩, .int .i64 0, .int .i64 0, .slice none 0 0, .slice none 0 0, .string ⟨#[]⟩, .int .i64 0, .int .i64 0, .slice none 0 0, .slice none 0 0, .string ⟨#[]⟩, .int .i64 0, .int .i64 0, .slice none 0 0, .slice none 0 0, .string ⟨#[]⟩, .int .i64 0, .int .i64 0, .slice none 0 0, .slice none 0 0, .string ⟨#[]⟩, .int .i64 0, .int .i64 0, .slice none 0 0, .slice none 0 0, .string ⟨#[]⟩, .int .i64 0, .int .i64 0, .slice none 0 0, .slice none 0 0, .string ⟨#[]⟩, .int .i64 0, .int .i64 0, .slice none 0 0, .slice none 0 0, .string ⟨#[]⟩, .int .i64 0, .int .i64 0, .slice none 0 0, .slice none 0 0, .string ⟨#[]⟩, .int .i64 0, .int .i64 0, .slice none 0 0, .slice none 0 0, .string ⟨#[]⟩, .int .i64 0, .int .i64 0, .slice none 0 0, .slice none 0 0, .string ⟨#[]⟩, .int .i64 0, .int .i64 0, .slice none 0 0, .slice none 0 0, .string ⟨#[]⟩, .int .i64 0, .int .i64 0, .slice none 0 0, .slice none 0 0] := ⟨uH⟩
instance : V2 Try.prog 137 [.int .i64 0, .int .i64 0] := ⟨fJ⟩
instance : V2 Try.prog 138 [.int .i64 0, .int .i64 0, .int .i64 0, .int .i64 0, .int .i64 0, .int .i64 0, .int .i64 0, .int .i64 0, .int .i64 0, .int .i64 0] := ⟨uJ⟩
instance : V2 Try.prog 22 [.slice none 0 0] := ⟨xI⟩
instance : V2 Try.prog 3 [.int .i64 0] := ⟨z3⟩
instance : V2 Try.prog 31 [.slice none 0 0] := ⟨xH⟩
instance : V2 Try.prog 43 [.int .i64 0, .int .i64 0] := ⟨oM⟩
instance : V2 Try.prog 45 [.int .i64 0, .int .i64 0, .slice none 0 0] := ⟨oR⟩
instance : V2 Try.prog 47 [.int .i64 0, .int .i64 0] := ⟨oI⟩
instance : V2 Try.prog 5 [.int .u8 0] := ⟨z5⟩
instance : V2 Try.prog 53 [.slice none 0 0, .slice none 0 0] := ⟨xB⟩
instance : V2 Try.prog 57 [.string ⟨#[]⟩, .int .i64 0] := ⟨uY⟩
instance : V2 Try.prog 64 [.slice none 0 0, .int .i64 0] := ⟨wX⟩
instance : V2 Try.prog 77 [.string ⟨#[]⟩, .slice none 0 0] := ⟨wS⟩
instance : V2 Try.prog 85 [.int .i16 0] := ⟨wB⟩
instance : V2 Try.prog 88 [.int .i16 0, .int .i16 0, .int .i16 0, .int .i16 0, .int .i16 0, .int .i16 0, .int .i16 0, .int .i16 0, .int .i16 0, .int .i16 0, .int .i16 0, .int .i16 0, .int .i16 0, .int .i16 0, .int .i16 0, .int .i16 0, .int .i16 0, .int .i16 0, .int .i16 0, .int .i16 0, .int .i16 0, .int .i16 0, .int .i16 0, .int .i16 0, .int .i16 0, .int .i16 0, .int .i16 0, .int .i16 0, .int .i16 0, .int .i16 0, .int .i16 0, .int .i16 0, .int .i16 0, .int .i16 0, .int .i16 0, .int .i16 0, .int .i16 0, .int .i16 0, .int .i16 0, .int .i16 0, .int .i16 0, .int .i16 0, .int .i16 0, .int .i16 0, .int .i16 0, .int .i16 0, .int .i16 0, .int .i16 0, .int .i16 0, .int .i16 0, .int .i16 0, .int .i16 0, .int .i16 0, .int .i16 0, .int .i16 0, .int .i16 0, .int .i16 0, .int .i16 0, .int .i16 0, .int .i16 0, .int .i16 0, .int .i16 0, .int .i16 0, .int .i16 0, .int .i16 0, .int .i16 0, .int .i16 0, .int .i16 0, .int .i16 0, .int .i16 0, .int .i16 0, .int .i16 0, .int .i16 0, .int .i16 0, .int .i16 0, .int .i16 0, .int .i16 0, .int .i16 0, .int .i16 0, .int .i16 0, .int .i16 0, .int .i16 0, .int .i16 0, .int .i16 0, .int .i16 0, .int .i16 0, .int .i16 0, .int .i16 0, .int .i16 0, .int .i16 0, .int .i16 0, .int .i16 0, .int .i16 0, .int .i16 0, .int .i16 0, .int .i16 0, .int .i16 0, .int .i16 0, .int .i16 0, .int .i16 0, .int .i16 0, .int .i16 0, .int .i16 0, .int .i16 0, .int .i16 0, .int .i16 0, .int .i16 0, .int .i16 0, .int .i16 0, .int .i16 0, .int .i16 0, .int .i16 0, .int .i16 0, .int .i16 0, .int .i16 0, .int .i16 0, .int .i16 0, .int .i16 0, .int .i16 0, .int .i16 0, .int .i16 0, .int .i16 0, .int .i16 0, .int .i16 0, .int .i16 0, .int .i16 0, .int .i16 0, .int .i16 0, .int .i16 0, .int .i16 0, .int .i16 0, .int .i16 0, .int .i16 0, .int .i16 0, .int .i16 0, .int .i16 0, .int .i16 0, .int .i16 0, .int .i16 0, .int .i16 0, .int .i16 0, .int .i16 0, .int .i16 0, .int .i16 0, .int .i16 0, .int .i16 0, .int .i16 0, .int .i16 0, .int .i16 0, .int .i16 0, .int .i16 0, .int .i16 0, .int .i16 0, .int .i16 0, .int .i16 0, .int .i16 0, .int .i16 0, .int .i16 0, .int .i16 0, .int .i16 0, .int .i16 0, .int .i16 0, .int .i16 0, .int .i16 0, .int .i16 0, .int .i16 0, .int .i16 0, .int .i16 0, .int .i16 0, .int .i16 0, .int .i16 0, .int .i16 0, .int .i16 0, .int .i16 0, .int .i16 0, .int .i16 0, .int .i16 0, .int .i16 0, .int .i16 0, .int .i16 0, .int .i16 0, .int .i16 0, .int .i16 0, .int .i16 0, .int .i16 0, .int .i16 0, .int .i16 0, .int .i16 0, .int .i16 0, .int .i16 0, .int .i16 0, .int .i16 0, .int .i16 0, .int .i16 0, .int .i16 0, .int .i16 0, .int .i16 0, .int .i16 0, .int .i16 0, .int .i16 0, .int .i16 0, .int .i16 0, .int .i16 0, .int .i16 0, .int .i16 0, .int .i16 0, .int .i16 0, .int .i16 0, .int .i16 0, .int .i16 0, .int .i16 0, .int .i16 0, .int .i16 0, .int .i16 0, .int .i16 0, .int .i16 0, .int .i16 0, .int .i16 0, .int .i16 0, .int .i16 0, .int .i16 0, .int .i16 0, .int .i16 0, .int .i16 0, .int .i16 0, .int .i16 0, .int .i16 0, .int .i16 0, .int .i16 0, .int .i16 0, .int .i16 0, .int .i16 0, .int .i16 0, .int .i16 0, .int .i16 0, .int .i16 0, .int .i16 0, .int .i16 0, .int .i16 0, .int .i16 0, .int .i16 0, .int .i16 0, .int .i16 0, .int .i16 0, .int .i16 0, .int .i16 0, .int .i16 0, .int .i16 0, .int .i16 0, .int .i16 0, .int .i16 0, .int .i16 0, .int .i16 0, .int .i16 0, .int .i16 0, .int .i16 0, .int .i16 0, .slice none 0 0] := ⟨tN⟩
instance : V2 Try.prog 9 [.string ⟨#[]⟩] := ⟨z9⟩
instance : Uq Am.enc 2 := ⟨Am.enc_len⟩
instance : Uq Aa.enc 2 := ⟨Aa.enc_len⟩
instance : Uq Ai.enc 3 := ⟨Ai.enc_len⟩
instance : Uq A5.enc 2 := ⟨A5.enc_len⟩
instance : Uq Bc.enc 2 := ⟨Bc.enc_len⟩
instance : Uq Bv.enc 2 := ⟨Bv.enc_len⟩
instance : Uq Ab.enc 2 := ⟨Ab.enc_len⟩
instance : Uq B8.enc 5 := ⟨B8.enc_len⟩
instance : Uq Al.enc 258 := ⟨Al.enc_len⟩
end Go.Proofs.Ytfkgbfhpibiheaa
