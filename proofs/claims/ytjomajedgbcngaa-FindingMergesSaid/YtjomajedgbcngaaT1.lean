import Derived.Test.YtjomajedgbcngaaEH
import Derived.Test.YtjomajedgbcngaaP1
import Derived.Test.YtjomajedgbcngaaProg
set_option linter.unusedVariables false
set_option linter.unusedSimpArgs false
set_option maxRecDepth 100000
set_option maxHeartbeats 1600000
namespace Go.Proofs.Ytjomajedgbcngaa
open Go.RowKit
abbrev Aj.dv (x : Aj) : List DV := [.sl 1 (Az eI x.L), .val (.int .i64 x.At)]
def Aj.enc (x : Aj) : List C := [.sl 1 (Az eI x.L), .int .i64 x.At]
theorem Aj.enc_len (x : Aj) : (Aj.enc x).length = 2 := rfl
abbrev Bk.dv (x : Bk) : List DV := [.val (.int .i64 x.Alg), .val (.int .i64 x.Bits)]
def Bk.enc (x : Bk) : List C := [.int .i64 x.Alg, .int .i64 x.Bits]
theorem Bk.enc_len (x : Bk) : (Bk.enc x).length = 2 := rfl
abbrev Aa.dv (x : Aa) : List DV := [.val (.int .i64 x.Source), .val (.string x.Host), .val (.int .i64 x.Machine), .val (.int .i64 x.Day), .val (.int .i64 x.Confidence), .val (.int .i64 x.Kind), .val (.string x.Subject), .val (.int .i64 x.Use.Alg), .val (.int .i64 x.Use.Bits), .val (.int .i64 x.Number), .val (.string x.Text)]
def Aa.enc (x : Aa) : List C := [.int .i64 x.Source, .str x.Host, .int .i64 x.Machine, .int .i64 x.Day, .int .i64 x.Confidence, .int .i64 x.Kind, .str x.Subject, .int .i64 x.Use.Alg, .int .i64 x.Use.Bits, .int .i64 x.Number, .str x.Text]
theorem Aa.enc_len (x : Aa) : (Aa.enc x).length = 11 := rfl
abbrev H4.dv (x : H4) : List DV := [.val (.int .i64 x.Key), .val (.int .i64 x.Sum)]
def H4.enc (x : H4) : List C := [.int .i64 x.Key, .int .i64 x.Sum]
theorem H4.enc_len (x : H4) : (H4.enc x).length = 2 := rfl
abbrev Bc.dv (x : Bc) : List DV := [.val (.int .i64 x.Serial), .val (.string x.Issuer), .val (.string x.Subject), .val (.int .i64 x.Key.Alg), .val (.int .i64 x.Key.Bits), .val (.int .i64 x.KeyId), .val (.int .i64 x.Hash.Alg), .val (.int .i64 x.Hash.Bits), .val (.int .i64 x.From), .val (.int .i64 x.To), .val (.bool x.Authority), .val (.int .i64 x.Path), .sl 1 (Az eS x.Names), .val (.int .i64 x.Seal.Key), .val (.int .i64 x.Seal.Sum)]
def Bc.enc (x : Bc) : List C := [.int .i64 x.Serial, .str x.Issuer, .str x.Subject, .int .i64 x.Key.Alg, .int .i64 x.Key.Bits, .int .i64 x.KeyId, .int .i64 x.Hash.Alg, .int .i64 x.Hash.Bits, .int .i64 x.From, .int .i64 x.To, .bool x.Authority, .int .i64 x.Path, .sl 1 (Az eS x.Names), .int .i64 x.Seal.Key, .int .i64 x.Seal.Sum]
theorem Bc.enc_len (x : Bc) : (Bc.enc x).length = 15 := rfl
abbrev Ce.dv (x : Ce) : List DV := [.val (.string x.Alias), .val (.int .i64 x.Key.Alg), .val (.int .i64 x.Key.Bits), .val (.int .i64 x.KeyId), .val (.bool x.Secret), .sl 15 (Az Bc.enc x.Chain)]
def Ce.enc (x : Ce) : List C := [.str x.Alias, .int .i64 x.Key.Alg, .int .i64 x.Key.Bits, .int .i64 x.KeyId, .bool x.Secret, .sl 15 (Az Bc.enc x.Chain)]
theorem Ce.enc_len (x : Ce) : (Ce.enc x).length = 6 := rfl
abbrev Dk.dv (x : Dk) : List DV := [.val (.int .i64 x.at_.Source), .val (.string x.at_.Host), .val (.int .i64 x.at_.Machine), .val (.int .i64 x.at_.Day), .val (.int .i64 x.at_.Confidence), .val (.int .i64 x.at_.Kind), .val (.string x.at_.Subject), .val (.int .i64 x.at_.Use.Alg), .val (.int .i64 x.at_.Use.Bits), .val (.int .i64 x.at_.Number), .val (.string x.at_.Text), .sl 11 (Az Aa.enc x.l)]
def Dk.enc (x : Dk) : List C := [.int .i64 x.at_.Source, .str x.at_.Host, .int .i64 x.at_.Machine, .int .i64 x.at_.Day, .int .i64 x.at_.Confidence, .int .i64 x.at_.Kind, .str x.at_.Subject, .int .i64 x.at_.Use.Alg, .int .i64 x.at_.Use.Bits, .int .i64 x.at_.Number, .str x.at_.Text, .sl 11 (Az Aa.enc x.l)]
theorem Dk.enc_len (x : Dk) : (Dk.enc x).length = 12 := rfl
abbrev Bu.dv (x : Bu) : List DV := [.val (.string x.name), .val (.int .i64 x.kind), .val (.int .i64 x.way), .sl 1 (Az eI x.sizes), .sl 1 (Az eI x.strengths)]
def Bu.enc (x : Bu) : List C := [.str x.name, .int .i64 x.kind, .int .i64 x.way, .sl 1 (Az eI x.sizes), .sl 1 (Az eI x.strengths)]
theorem Bu.enc_len (x : Bu) : (Bu.enc x).length = 5 := rfl
abbrev Ar.dv (x : Ar) : List DV := [.val (.string x.name), .val (.int .i64 x.kind)]
def Ar.enc (x : Ar) : List C := [.str x.name, .int .i64 x.kind]
theorem Ar.enc_len (x : Ar) : (Ar.enc x).length = 2 := rfl
theorem Zb : Try.prog.underlying 3 = some (.int .i64) := by kernel_rfl
theorem jS : Try.prog.underlying 4 = some (.bool) := by kernel_rfl
theorem iU : Try.prog.underlying 5 = some (.int .u8) := by kernel_rfl
theorem Vw : Try.prog.underlying 9 = some (.string) := by kernel_rfl
theorem Mr : Try.prog.underlying 28 = some (.struct ((match Try.prog.underlying 28 with | some (.struct f) => f | _ => #[]))) := by kernel_rfl
theorem Nn : Try.prog.underlying 30 = some (.struct ((match Try.prog.underlying 30 with | some (.struct f) => f | _ => #[]))) := by kernel_rfl
theorem oD : Try.prog.underlying 33 = some (.slice 30) := by kernel_rfl
theorem Uv : Try.prog.underlying 46 = some (.struct ((match Try.prog.underlying 46 with | some (.struct f) => f | _ => #[]))) := by kernel_rfl
theorem aY : Try.prog.underlying 49 = some (.struct ((match Try.prog.underlying 49 with | some (.struct f) => f | _ => #[]))) := by kernel_rfl
theorem cV : Try.prog.underlying 76 = some (.struct ((match Try.prog.underlying 76 with | some (.struct f) => f | _ => #[]))) := by kernel_rfl
theorem aX : Try.prog.underlying 80 = some (.int .u64) := by kernel_rfl
theorem mV : Try.prog.underlying 83 = some (.slice 5) := by kernel_rfl
theorem nJ : Try.prog.underlying 97 = some (.int .u64) := by kernel_rfl
theorem Gy : Try.prog.underlying 99 = some (.struct ((match Try.prog.underlying 99 with | some (.struct f) => f | _ => #[]))) := by kernel_rfl
theorem Fz : Try.prog.underlying 104 = some (.struct ((match Try.prog.underlying 104 with | some (.struct f) => f | _ => #[]))) := by kernel_rfl
theorem cD : Try.prog.underlying 108 = some (.struct ((match Try.prog.underlying 108 with | some (.struct f) => f | _ => #[]))) := by kernel_rfl
theorem Jy : Try.prog.underlying 110 = some (.struct ((match Try.prog.underlying 110 with | some (.struct f) => f | _ => #[]))) := by kernel_rfl
theorem lB : Try.prog.underlying 112 = some (.int .u64) := by kernel_rfl
theorem cJ : Try.prog.underlying 120 = some (.array 23 99) := by kernel_rfl
theorem Pr : Try.prog.underlying 126 = some (.array 2 3) := by kernel_rfl
theorem dI : Try.prog.underlying 127 = some (.array 5 126) := by kernel_rfl
theorem Yv : Fd Try.prog 104 1 1 3 := ⟨_, (match Try.prog.underlying 104 with | some (.struct f) => f | _ => #[])[1]!, Fz, by kernel_rfl, by kernel_rfl, by kernel_rfl⟩
theorem eH : Fd Try.prog 108 0 0 3 := ⟨_, (match Try.prog.underlying 108 with | some (.struct f) => f | _ => #[])[0]!, cD, by kernel_rfl, by kernel_rfl, by kernel_rfl⟩
theorem fD : Fd Try.prog 108 1 1 3 := ⟨_, (match Try.prog.underlying 108 with | some (.struct f) => f | _ => #[])[1]!, cD, by kernel_rfl, by kernel_rfl, by kernel_rfl⟩
theorem dV : Fd Try.prog 110 0 0 3 := ⟨_, (match Try.prog.underlying 110 with | some (.struct f) => f | _ => #[])[0]!, Jy, by kernel_rfl, by kernel_rfl, by kernel_rfl⟩
theorem dZ : Fd Try.prog 110 1 1 9 := ⟨_, (match Try.prog.underlying 110 with | some (.struct f) => f | _ => #[])[1]!, Jy, by kernel_rfl, by kernel_rfl, by kernel_rfl⟩
theorem cG : Fd Try.prog 110 10 12 77 := ⟨_, (match Try.prog.underlying 110 with | some (.struct f) => f | _ => #[])[10]!, Jy, by kernel_rfl, by kernel_rfl, by kernel_rfl⟩
theorem bT : Fd Try.prog 110 11 13 108 := ⟨_, (match Try.prog.underlying 110 with | some (.struct f) => f | _ => #[])[11]!, Jy, by kernel_rfl, by kernel_rfl, by kernel_rfl⟩
theorem eN : Fd Try.prog 110 2 2 9 := ⟨_, (match Try.prog.underlying 110 with | some (.struct f) => f | _ => #[])[2]!, Jy, by kernel_rfl, by kernel_rfl, by kernel_rfl⟩
theorem Yq : Fd Try.prog 110 3 3 28 := ⟨_, (match Try.prog.underlying 110 with | some (.struct f) => f | _ => #[])[3]!, Jy, by kernel_rfl, by kernel_rfl, by kernel_rfl⟩
theorem Yu : Fd Try.prog 110 4 5 3 := ⟨_, (match Try.prog.underlying 110 with | some (.struct f) => f | _ => #[])[4]!, Jy, by kernel_rfl, by kernel_rfl, by kernel_rfl⟩
theorem fG : Fd Try.prog 110 5 6 28 := ⟨_, (match Try.prog.underlying 110 with | some (.struct f) => f | _ => #[])[5]!, Jy, by kernel_rfl, by kernel_rfl, by kernel_rfl⟩
theorem eV : Fd Try.prog 110 6 8 3 := ⟨_, (match Try.prog.underlying 110 with | some (.struct f) => f | _ => #[])[6]!, Jy, by kernel_rfl, by kernel_rfl, by kernel_rfl⟩
theorem eC : Fd Try.prog 110 7 9 3 := ⟨_, (match Try.prog.underlying 110 with | some (.struct f) => f | _ => #[])[7]!, Jy, by kernel_rfl, by kernel_rfl, by kernel_rfl⟩
theorem eP : Fd Try.prog 110 8 10 4 := ⟨_, (match Try.prog.underlying 110 with | some (.struct f) => f | _ => #[])[8]!, Jy, by kernel_rfl, by kernel_rfl, by kernel_rfl⟩
theorem eY : Fd Try.prog 110 9 11 3 := ⟨_, (match Try.prog.underlying 110 with | some (.struct f) => f | _ => #[])[9]!, Jy, by kernel_rfl, by kernel_rfl, by kernel_rfl⟩
theorem lD : Fd Try.prog 28 0 0 3 := ⟨_, (match Try.prog.underlying 28 with | some (.struct f) => f | _ => #[])[0]!, Mr, by kernel_rfl, by kernel_rfl, by kernel_rfl⟩
theorem iK : Fd Try.prog 28 1 1 3 := ⟨_, (match Try.prog.underlying 28 with | some (.struct f) => f | _ => #[])[1]!, Mr, by kernel_rfl, by kernel_rfl, by kernel_rfl⟩
theorem kH : Fd Try.prog 30 0 0 3 := ⟨_, (match Try.prog.underlying 30 with | some (.struct f) => f | _ => #[])[0]!, Nn, by kernel_rfl, by kernel_rfl, by kernel_rfl⟩
theorem jA : Fd Try.prog 30 1 1 9 := ⟨_, (match Try.prog.underlying 30 with | some (.struct f) => f | _ => #[])[1]!, Nn, by kernel_rfl, by kernel_rfl, by kernel_rfl⟩
theorem lE : Fd Try.prog 30 2 2 3 := ⟨_, (match Try.prog.underlying 30 with | some (.struct f) => f | _ => #[])[2]!, Nn, by kernel_rfl, by kernel_rfl, by kernel_rfl⟩
theorem lF : Fd Try.prog 30 3 3 3 := ⟨_, (match Try.prog.underlying 30 with | some (.struct f) => f | _ => #[])[3]!, Nn, by kernel_rfl, by kernel_rfl, by kernel_rfl⟩
theorem lY : Fd Try.prog 30 4 4 3 := ⟨_, (match Try.prog.underlying 30 with | some (.struct f) => f | _ => #[])[4]!, Nn, by kernel_rfl, by kernel_rfl, by kernel_rfl⟩
theorem aH : Fd Try.prog 30 5 5 3 := ⟨_, (match Try.prog.underlying 30 with | some (.struct f) => f | _ => #[])[5]!, Nn, by kernel_rfl, by kernel_rfl, by kernel_rfl⟩
theorem kL : Fd Try.prog 30 6 6 9 := ⟨_, (match Try.prog.underlying 30 with | some (.struct f) => f | _ => #[])[6]!, Nn, by kernel_rfl, by kernel_rfl, by kernel_rfl⟩
theorem kU : Fd Try.prog 30 7 7 28 := ⟨_, (match Try.prog.underlying 30 with | some (.struct f) => f | _ => #[])[7]!, Nn, by kernel_rfl, by kernel_rfl, by kernel_rfl⟩
theorem dQ : Fd Try.prog 30 8 9 3 := ⟨_, (match Try.prog.underlying 30 with | some (.struct f) => f | _ => #[])[8]!, Nn, by kernel_rfl, by kernel_rfl, by kernel_rfl⟩
theorem iX : Fd Try.prog 30 9 10 9 := ⟨_, (match Try.prog.underlying 30 with | some (.struct f) => f | _ => #[])[9]!, Nn, by kernel_rfl, by kernel_rfl, by kernel_rfl⟩
theorem bL : Fd Try.prog 46 0 0 9 := ⟨_, (match Try.prog.underlying 46 with | some (.struct f) => f | _ => #[])[0]!, Uv, by kernel_rfl, by kernel_rfl, by kernel_rfl⟩
theorem iP : Fd Try.prog 46 1 1 28 := ⟨_, (match Try.prog.underlying 46 with | some (.struct f) => f | _ => #[])[1]!, Uv, by kernel_rfl, by kernel_rfl, by kernel_rfl⟩
theorem jP : Fd Try.prog 46 2 3 3 := ⟨_, (match Try.prog.underlying 46 with | some (.struct f) => f | _ => #[])[2]!, Uv, by kernel_rfl, by kernel_rfl, by kernel_rfl⟩
theorem lX : Fd Try.prog 46 4 5 44 := ⟨_, (match Try.prog.underlying 46 with | some (.struct f) => f | _ => #[])[4]!, Uv, by kernel_rfl, by kernel_rfl, by kernel_rfl⟩
theorem iS : Fd Try.prog 49 0 0 22 := ⟨_, (match Try.prog.underlying 49 with | some (.struct f) => f | _ => #[])[0]!, aY, by kernel_rfl, by kernel_rfl, by kernel_rfl⟩
theorem jW : Fd Try.prog 49 1 1 3 := ⟨_, (match Try.prog.underlying 49 with | some (.struct f) => f | _ => #[])[1]!, aY, by kernel_rfl, by kernel_rfl, by kernel_rfl⟩
theorem jX : Fd Try.prog 76 0 0 30 := ⟨_, (match Try.prog.underlying 76 with | some (.struct f) => f | _ => #[])[0]!, cV, by kernel_rfl, by kernel_rfl, by kernel_rfl⟩
theorem mA : Fd Try.prog 76 1 11 33 := ⟨_, (match Try.prog.underlying 76 with | some (.struct f) => f | _ => #[])[1]!, cV, by kernel_rfl, by kernel_rfl, by kernel_rfl⟩
theorem kG : Fd Try.prog 99 1 1 3 := ⟨_, (match Try.prog.underlying 99 with | some (.struct f) => f | _ => #[])[1]!, Gy, by kernel_rfl, by kernel_rfl, by kernel_rfl⟩
theorem iL : Fd Try.prog 99 2 2 3 := ⟨_, (match Try.prog.underlying 99 with | some (.struct f) => f | _ => #[])[2]!, Gy, by kernel_rfl, by kernel_rfl, by kernel_rfl⟩
theorem jK : Fd Try.prog 99 3 3 22 := ⟨_, (match Try.prog.underlying 99 with | some (.struct f) => f | _ => #[])[3]!, Gy, by kernel_rfl, by kernel_rfl, by kernel_rfl⟩
theorem lN : Fd Try.prog 99 4 4 22 := ⟨_, (match Try.prog.underlying 99 with | some (.struct f) => f | _ => #[])[4]!, Gy, by kernel_rfl, by kernel_rfl, by kernel_rfl⟩
theorem Hp : ((match Try.prog.underlying 104 with | some (.struct f) => f | _ => #[]) : Array Field).toList.map (fun f => (Try.prog.info? f.type).map fun i => (f.offset, i.size)) = [(0, 1), (1, 1)].map some := by kernel_rfl
theorem Tg : ((match Try.prog.underlying 28 with | some (.struct f) => f | _ => #[]) : Array Field).toList.map (fun f => (Try.prog.info? f.type).map fun i => (f.offset, i.size)) = [(0, 1), (1, 1)].map some := by kernel_rfl
theorem oO : ((match Try.prog.underlying 30 with | some (.struct f) => f | _ => #[]) : Array Field).toList.map (fun f => (Try.prog.info? f.type).map fun i => (f.offset, i.size)) = [(0, 1), (1, 1), (2, 1), (3, 1), (4, 1), (5, 1), (6, 1), (7, 2), (9, 1), (10, 1)].map some := by kernel_rfl
theorem oN : ((match Try.prog.underlying 46 with | some (.struct f) => f | _ => #[]) : Array Field).toList.map (fun f => (Try.prog.info? f.type).map fun i => (f.offset, i.size)) = [(0, 1), (1, 2), (3, 1), (4, 1), (5, 1)].map some := by kernel_rfl
theorem qD : ((match Try.prog.underlying 49 with | some (.struct f) => f | _ => #[]) : Array Field).toList.map (fun f => (Try.prog.info? f.type).map fun i => (f.offset, i.size)) = [(0, 1), (1, 1)].map some := by kernel_rfl
theorem pY : ((match Try.prog.underlying 76 with | some (.struct f) => f | _ => #[]) : Array Field).toList.map (fun f => (Try.prog.info? f.type).map fun i => (f.offset, i.size)) = [(0, 11), (11, 1)].map some := by kernel_rfl
theorem K1 : ((match Try.prog.underlying 99 with | some (.struct f) => f | _ => #[]) : Array Field).toList.map (fun f => (Try.prog.info? f.type).map fun i => (f.offset, i.size)) = [(0, 1), (1, 1), (2, 1), (3, 1), (4, 1)].map some := by kernel_rfl
theorem hG : G4 Try.prog 105 104 2 24 := G4.mk' (z := (.agg #[.string ⟨#[]⟩, .int .i64 0])) (by kernel_rfl) (by kernel_rfl) rfl (by decide) (by decide)
theorem E7 : G4 Try.prog 22 3 1 8 := G4.mk' (z := (.int .i64 0)) (by kernel_rfl) (by kernel_rfl) rfl (by decide) (by decide)
theorem Ha : G4 Try.prog 33 30 11 112 := G4.mk' (z := (.agg #[.int .i64 0, .string ⟨#[]⟩, .int .i64 0, .int .i64 0, .int .i64 0, .int .i64 0, .string ⟨#[]⟩, .int .i64 0, .int .i64 0, .int .i64 0, .string ⟨#[]⟩])) (by kernel_rfl) (by kernel_rfl) rfl (by decide) (by decide)
theorem pD : G4 Try.prog 44 110 15 152 := G4.mk' (z := (.agg #[.int .i64 0, .string ⟨#[]⟩, .string ⟨#[]⟩, .int .i64 0, .int .i64 0, .int .i64 0, .int .i64 0, .int .i64 0, .int .i64 0, .int .i64 0, .bool false, .int .i64 0, .slice none 0 0, .int .i64 0, .int .i64 0])) (by kernel_rfl) (by kernel_rfl) rfl (by decide) (by decide)
theorem oS : G4 Try.prog 47 46 6 72 := G4.mk' (z := (.agg #[.string ⟨#[]⟩, .int .i64 0, .int .i64 0, .int .i64 0, .bool false, .slice none 0 0])) (by kernel_rfl) (by kernel_rfl) rfl (by decide) (by decide)
theorem nO : G4 Try.prog 53 28 2 16 := G4.mk' (z := (.agg #[.int .i64 0, .int .i64 0])) (by kernel_rfl) (by kernel_rfl) rfl (by decide) (by decide)
theorem Qr : G4 Try.prog 61 55 1 8 := G4.mk' (z := (.nilFunc)) (by kernel_rfl) (by kernel_rfl) rfl (by decide) (by decide)
theorem Zu : G4 Try.prog 77 9 1 16 := G4.mk' (z := (.string ⟨#[]⟩)) (by kernel_rfl) (by kernel_rfl) rfl (by decide) (by decide)
theorem nW : G4 Try.prog 81 33 1 24 := G4.mk' (z := (.slice none 0 0)) (by kernel_rfl) (by kernel_rfl) rfl (by decide) (by decide)
theorem pQ : G4 Try.prog 83 5 1 1 := G4.mk' (z := (.int .u8 0)) (by kernel_rfl) (by kernel_rfl) rfl (by decide) (by decide)
theorem oR : Ty Try.prog 108 true 2 := ⟨by kernel_rfl, by kernel_rfl⟩
theorem gZ : Ty Try.prog 110 true 15 := ⟨by kernel_rfl, by kernel_rfl⟩
theorem oI : Ty Try.prog 112 false 1 := ⟨by kernel_rfl, by kernel_rfl⟩
theorem mW : Ty Try.prog 120 true 115 := ⟨by kernel_rfl, by kernel_rfl⟩
theorem gP : Ty Try.prog 126 true 2 := ⟨by kernel_rfl, by kernel_rfl⟩
theorem pM : Ty Try.prog 22 false 1 := ⟨by kernel_rfl, by kernel_rfl⟩
theorem fE : Ty Try.prog 28 true 2 := ⟨by kernel_rfl, by kernel_rfl⟩
theorem T7 : Ty Try.prog 3 false 1 := ⟨by kernel_rfl, by kernel_rfl⟩
theorem Cg : Ty Try.prog 30 true 11 := ⟨by kernel_rfl, by kernel_rfl⟩
theorem kQ : Ty Try.prog 33 false 1 := ⟨by kernel_rfl, by kernel_rfl⟩
theorem qO : Ty Try.prog 4 false 1 := ⟨by kernel_rfl, by kernel_rfl⟩
theorem pA : Ty Try.prog 44 false 1 := ⟨by kernel_rfl, by kernel_rfl⟩
theorem lC : Ty Try.prog 46 true 6 := ⟨by kernel_rfl, by kernel_rfl⟩
theorem qL : Ty Try.prog 5 false 1 := ⟨by kernel_rfl, by kernel_rfl⟩
theorem N8 : Ty Try.prog 54 false 1 := ⟨by kernel_rfl, by kernel_rfl⟩
theorem Rz : Ty Try.prog 55 false 1 := ⟨by kernel_rfl, by kernel_rfl⟩
theorem Xc : Ty Try.prog 58 false 1 := ⟨by kernel_rfl, by kernel_rfl⟩
theorem pH : Ty Try.prog 77 false 1 := ⟨by kernel_rfl, by kernel_rfl⟩
theorem mE : Ty Try.prog 9 false 1 := ⟨by kernel_rfl, by kernel_rfl⟩
theorem nM : Ty Try.prog 99 true 5 := ⟨by kernel_rfl, by kernel_rfl⟩
theorem Jx : Zt Try.prog 104 [.string ⟨#[]⟩, .int .i64 0] := ⟨(.agg #[.string ⟨#[]⟩, .int .i64 0]), by kernel_rfl, rfl, by decide⟩
theorem pS : Zt Try.prog 110 [.int .i64 0, .string ⟨#[]⟩, .string ⟨#[]⟩, .int .i64 0, .int .i64 0, .int .i64 0, .int .i64 0, .int .i64 0, .int .i64 0, .int .i64 0, .bool false, .int .i64 0, .slice none 0 0, .int .i64 0, .int .i64 0] := ⟨(.agg #[.int .i64 0, .string ⟨#[]⟩, .string ⟨#[]⟩, .int .i64 0, .int .i64 0, .int .i64 0, .int .i64 0, .int .i64 0, .int .i64 0, .int .i64 0, .bool false, .int .i64 0, .slice none 0 0, .int .i64 0, .int .i64 0]), by kernel_rfl, rfl, by decide⟩
theorem qE : Zt Try.prog 112 [.int .u64 0] := ⟨(.int .u64 0), by kernel_rfl, rfl, by decide⟩
theorem nA : Zt Try.prog 120 [.string ⟨#[]⟩, .int .i64 0, .int .i64 0, .slice none 0 0, .slice none 0 0, .string ⟨#[]⟩, .int .i64 0, .int .i64 0, .slice none 0 0, .slice none 0 0, .string ⟨#[]⟩, .int .i64 0, .int .i64 0, .slice none 0 0, .slice none 0 0, .string ⟨#[]⟩, .int .i64 0, .int .i64 0, .slice none 0 0, .slice none 0 0, .string ⟨#[]⟩, .int .i64 0, .int .i64 0, .slice none 0 0, .slice none 0 0, .string ⟨#[]⟩, .int .i64 0, .int .i64 0, .slice none 0 0, .slice none 0 0, .string ⟨#[]⟩, .int .i64 0, .int .i64 0, .slice none 0 0, .slice none 0 0, .string ⟨#[]⟩, .int .i64 0, .int .i64 0, .slice none 0 0, .slice none 0 0, .string ⟨#[]⟩, .int .i64 0, .int .i64 0, .slice none 0 0, .slice none 0 0, .string ⟨#[]⟩, .int .i64 0, .int .i64 0, .slice none 0 0, .slice none 0 0, .string ⟨#[]⟩, .int .i64 0, .int .i64 0, .slice none 0 0, .slice none 0 0, .string ⟨#[]⟩, .int .i64 0, .int .i64 0, .slice none 0 0, .slice none 0 0, .string ⟨#[]⟩, .int .i64 0, .int .i64 0, .slice none 0 0, .slice none 0 0, .string ⟨#[]⟩, .int .i64 0, .int .i64 0, .slice none 0 0, .slice none 0 0, .string ⟨#[]⟩, .int .i64 0, .int .i64 0, .slice none 0 0, .slice none 0 0, .string ⟨#[]⟩, .int .i64 0, .int .i64 0, .slice none 0 0, .slice none 0 0, .string ⟨#[]⟩, .int .i64 0, .int .i64 0, .slice none 0 0, .slice none 0 0, .string ⟨#[]⟩, .int .i64 0, .int .i64 0, .slice none 0 0, .slice none 0 0, .string ⟨#[]⟩, .int .i64 0, .int .i64 0, .slice none 0 0, .slice none 0 0, .string ⟨#[]⟩, .int .i64 0, .int .i64 0, .slice none 0 0, .slice none 0 0, .string ⟨#[]⟩, .int .i64 0, .int .i64 0, .slice none 0 0, .slice none 0 0, .string ⟨#[]⟩, .int .i64 0, .int .i64 0, .slice none 0 0, .slice none 0 0, .string ⟨#[]⟩, .int .i64 0, .int .i64 0, .slice none 0 0, .slice none 0 0] := ⟨(.agg #[.string ⟨#[]⟩, .int .i64 0, .int .i64 0, .slice none 0 0, .slice none 0 0, .string ⟨#[]⟩, .int .i64 0, .int .i64 0, .slice none 0 0, .slice none 0 0, .string ⟨#[]⟩, .int .i64 0, .int .i64 0, .slice none 0 0, .slice none 0 0, .string ⟨#[]⟩, .int .i64 0, .int .i64 0, .slice none 0 0, .slice none 0 0, .string ⟨#[]⟩, .int .i64 0, .int .i64 0, .slice none 0 0, .slice none 0 0, .string ⟨#[]⟩, .int .i64 0, .int .i64 0, .slice none 0 0, .slice none 0 0, .string ⟨#[]⟩, .int .i64 0, .int .i64 0, .slice none 0 0, .slice none 0 0, .string ⟨#[]⟩, .int .i64 0, .int .i64 0, .slice none 0 0, .slice none 0 0, .string ⟨#[]⟩, .int .i64 0, .int .i64 0, .slice none 0 0, .slice none 0 0, .string ⟨#[]⟩, .int .i64 0, .int .i64 0, .slice none 0 0, .slice none 0 0, .string ⟨#[]⟩, .int .i64 0, .int .i64 0, .slice none 0 0, .slice none 0 0, .string ⟨#[]⟩, .int .i64 0, .int .i64 0, .slice none 0 0, .slice none 0 0, .string ⟨#[]⟩, .int .i64 0, .int .i64 0, .slice none 0 0, .slice none 0 0, .string ⟨#[]⟩, .int .i64 0, .int .i64 0, .slice none 0 0, .slice none 0 0, .string ⟨#[]⟩, .int .i64 0, .int .i64 0, .slice none 0 0, .slice none 0 0, .string ⟨#[]⟩, .int .i64 0, .int .i64 0, .slice none 0 0, .slice none 0 0, .string ⟨#[]⟩, .int .i64 0, .int .i64 0, .slice none 0 0, .slice none 0 0, .string ⟨#[]⟩, .int .i64 0, .int .i64 0, .slice none 0 0, .slice none 0 0, .string ⟨#[]⟩, .int .i64 0, .int .i64 0, .slice none 0 0, .slice none 0 0, .string ⟨#[]⟩, .int .i64 0, .int .i64 0, .slice none 0 0, .slice none 0 0, .string ⟨#[]⟩, .int .i64 0, .int .i64 0, .slice none 0 0, .slice none 0 0, .string ⟨#[]⟩, .int .i64 0, .int .i64 0, .slice none 0 0, .slice none 0 0, .string ⟨#[]⟩, .int .i64 0, .int .i64 0, .slice none 0 0, .slice none 0 0]), by kernel_rfl, rfl, by decide⟩
theorem Zc : Zt Try.prog 126 [.int .i64 0, .int .i64 0] := ⟨(.agg #[.int .i64 0, .int .i64 0]), by kernel_rfl, rfl, by decide⟩
theorem oQ : Zt Try.prog 127 [.int .i64 0, .int .i64 0, .int .i64 0, .int .i64 0, .int .i64 0, .int .i64 0, .int .i64 0, .int .i64 0, .int .i64 0, .int .i64 0] := ⟨(.agg #[.int .i64 0, .int .i64 0, .int .i64 0, .int .i64 0, .int .i64 0, .int .i64 0, .int .i64 0, .int .i64 0, .int .i64 0, .int .i64 0]), by kernel_rfl, rfl, by decide⟩
theorem Yl : Zt Try.prog 28 [.int .i64 0, .int .i64 0] := ⟨(.agg #[.int .i64 0, .int .i64 0]), by kernel_rfl, rfl, by decide⟩
theorem z3 : Zt Try.prog 3 [.int .i64 0] := ⟨(.int .i64 0), by kernel_rfl, rfl, by decide⟩
theorem Yy : Zt Try.prog 30 [.int .i64 0, .string ⟨#[]⟩, .int .i64 0, .int .i64 0, .int .i64 0, .int .i64 0, .string ⟨#[]⟩, .int .i64 0, .int .i64 0, .int .i64 0, .string ⟨#[]⟩] := ⟨(.agg #[.int .i64 0, .string ⟨#[]⟩, .int .i64 0, .int .i64 0, .int .i64 0, .int .i64 0, .string ⟨#[]⟩, .int .i64 0, .int .i64 0, .int .i64 0, .string ⟨#[]⟩]), by kernel_rfl, rfl, by decide⟩
theorem qI : Zt Try.prog 33 [.slice none 0 0] := ⟨(.slice none 0 0), by kernel_rfl, rfl, by decide⟩
theorem oW : Zt Try.prog 46 [.string ⟨#[]⟩, .int .i64 0, .int .i64 0, .int .i64 0, .bool false, .slice none 0 0] := ⟨(.agg #[.string ⟨#[]⟩, .int .i64 0, .int .i64 0, .int .i64 0, .bool false, .slice none 0 0]), by kernel_rfl, rfl, by decide⟩
theorem qG : Zt Try.prog 49 [.slice none 0 0, .int .i64 0] := ⟨(.agg #[.slice none 0 0, .int .i64 0]), by kernel_rfl, rfl, by decide⟩
theorem qJ : Zt Try.prog 55 [.nilFunc] := ⟨(.nilFunc), by kernel_rfl, rfl, by decide⟩
theorem qK : Zt Try.prog 76 [.int .i64 0, .string ⟨#[]⟩, .int .i64 0, .int .i64 0, .int .i64 0, .int .i64 0, .string ⟨#[]⟩, .int .i64 0, .int .i64 0, .int .i64 0, .string ⟨#[]⟩, .slice none 0 0] := ⟨(.agg #[.int .i64 0, .string ⟨#[]⟩, .int .i64 0, .int .i64 0, .int .i64 0, .int .i64 0, .string ⟨#[]⟩, .int .i64 0, .int .i64 0, .int .i64 0, .string ⟨#[]⟩, .slice none 0 0]), by kernel_rfl, rfl, by decide⟩
theorem z9 : Zt Try.prog 9 [.string ⟨#[]⟩] := ⟨(.string ⟨#[]⟩), by kernel_rfl, rfl, by decide⟩
theorem Si : Zt Try.prog 99 [.string ⟨#[]⟩, .int .i64 0, .int .i64 0, .slice none 0 0, .slice none 0 0] := ⟨(.agg #[.string ⟨#[]⟩, .int .i64 0, .int .i64 0, .slice none 0 0, .slice none 0 0]), by kernel_rfl, rfl, by decide⟩
theorem nV : Lt Try.prog 20 104 = [none, none] := by kernel_rfl
theorem pC : Lt Try.prog 20 28 = [none, none] := by kernel_rfl
theorem Ju : Lt Try.prog 20 3 = [none] := by kernel_rfl
theorem G3 : Lt Try.prog 20 30 = [none, none, none, none, none, none, none, none, none, none, none] := by kernel_rfl
theorem pR : Lt Try.prog 20 33 = [some 11] := by kernel_rfl
theorem pN : Lt Try.prog 20 46 = [none, none, none, none, none, some 15] := by kernel_rfl
theorem mL : Lt Try.prog 20 9 = [none] := by kernel_rfl
theorem qN (a b : ByteArray) (w : World) : (callFunc 69 [.string a, .string b].toArray).run Try.prog w = .ok (.value (.int .i64 (Y7 a b))) w := bE Try.func69 rfl rfl (by kernel_rfl) (by kernel_rfl) a b w
theorem pO : Try.prog.eqGuardType Try.prog.depth 28 = false := by kernel_rfl
theorem mQ : Try.prog.underlying 28 = some (.struct (Try.prog.fieldsOf 28)) := by kernel_rfl
theorem oU : Try.prog.stoodInHeld 28 = false := by kernel_rfl
theorem pK (x y : Bk) (w : World) : (Op.equalIn 10000 28 (.agg #[.int .i64 x.Alg, .int .i64 x.Bits]) (.agg #[.int .i64 y.Alg, .int .i64 y.Bits])).run Try.prog w = .ok (decide (x = y)) w := by
 have u3 := Try.underlying3
 have a3 := Try.isAgg3
 have z3 := Try.sizeOf3
 rw [show (10000 : Nat) = 9999 + 1 from rfl, run_equalIn_agg w 9999 28 _ _ mQ oU]
 simp only [Program.fieldsOf, Try.underlying28]
 go_simp
 rcases x with ⟨x0, x1⟩
 rcases y with ⟨y0, y1⟩
 by_cases h0 : x0 = y0 <;> by_cases h1 : x1 = y1 <;> simp [h0, h1]
theorem M6 (x y : Bk) {X Y : Operand} {tk : Nat} {yt ty : TypeId} {b1 b2 : Option LB} : Eb Try.prog tk (.binOp .eql 28 X Y yt) ty [(.agg [.val (.int .i64 x.Alg), .val (.int .i64 x.Bits)], b1), (.agg [.val (.int .i64 y.Alg), .val (.int .i64 y.Bits)], b2)] [] (v0 (.val (.bool (decide (x = y))))) :=
 .binOpA rfl rfl (fun _ _ => rfl) (fun w => by
  rw [Sem.run_bind, run_eqGuard_agg w _ 28 X Y _ _ pO]
  simp only [Result.andThen_ok, run_eql_struct]
  exact congrArg (fun r => Result.andThen r _) (pK x y w))
theorem oC : Try.prog.eqGuardType Try.prog.depth 30 = false := by kernel_rfl
theorem pL : Try.prog.underlying 30 = some (.struct (Try.prog.fieldsOf 30)) := by kernel_rfl
theorem pG : Try.prog.stoodInHeld 30 = false := by kernel_rfl
theorem mR (x y : Aa) (w : World) : (Op.equalIn 10000 30 (.agg #[.int .i64 x.Source, .string x.Host, .int .i64 x.Machine, .int .i64 x.Day, .int .i64 x.Confidence, .int .i64 x.Kind, .string x.Subject, .int .i64 x.Use.Alg, .int .i64 x.Use.Bits, .int .i64 x.Number, .string x.Text]) (.agg #[.int .i64 y.Source, .string y.Host, .int .i64 y.Machine, .int .i64 y.Day, .int .i64 y.Confidence, .int .i64 y.Kind, .string y.Subject, .int .i64 y.Use.Alg, .int .i64 y.Use.Bits, .int .i64 y.Number, .string y.Text])).run Try.prog w = .ok (decide (x = y)) w := by
 have u3 := Try.underlying3
 have a3 := Try.isAgg3
 have z3 := Try.sizeOf3
 have u9 := Try.underlying9
 have a9 := Try.isAgg9
 have z9 := Try.sizeOf9
 have u28 := Try.underlying28
 have a28 := Try.isAgg28
 have Yl := Try.sizeOf28
 have f28 := mQ
 have h28 := oU
 rw [show (10000 : Nat) = 9999 + 1 from rfl, run_equalIn_agg w 9999 30 _ _ pL pG]
 simp only [Program.fieldsOf, Try.underlying30]
 go_simp
 rcases x with ⟨x0, x1, x2, x3, x4, x5, x6, ⟨x7, x8⟩, x9, x10⟩
 rcases y with ⟨y0, y1, y2, y3, y4, y5, y6, ⟨y7, y8⟩, y9, y10⟩
 simp only [Xm]
 by_cases q0 : ¬ x0 = y0
 ·simp [q0]
 rw [Decidable.not_not] at q0
 subst q0
 by_cases q1 : ¬ x1 = y1
 ·simp [q1]
 rw [Decidable.not_not] at q1
 subst q1
 by_cases q2 : ¬ x2 = y2
 ·simp [q2]
 rw [Decidable.not_not] at q2
 subst q2
 by_cases q3 : ¬ x3 = y3
 ·simp [q3]
 rw [Decidable.not_not] at q3
 subst q3
 by_cases q4 : ¬ x4 = y4
 ·simp [q4]
 rw [Decidable.not_not] at q4
 subst q4
 by_cases q5 : ¬ x5 = y5
 ·simp [q5]
 rw [Decidable.not_not] at q5
 subst q5
 by_cases q6 : ¬ x6 = y6
 ·simp [q6]
 rw [Decidable.not_not] at q6
 subst q6
 by_cases q7 : ¬ x7 = y7
 ·simp [q7]
 rw [Decidable.not_not] at q7
 subst q7
 by_cases q8 : ¬ x8 = y8
 ·simp [q8]
 rw [Decidable.not_not] at q8
 subst q8
 by_cases q9 : ¬ x9 = y9
 ·simp [q9]
 rw [Decidable.not_not] at q9
 subst q9
 by_cases q10 : ¬ x10 = y10
 ·simp [q10]
 rw [Decidable.not_not] at q10
 subst q10
 simp
theorem Lc (x y : Aa) {X Y : Operand} {tk : Nat} {yt ty : TypeId} {b1 b2 : Option LB} : Eb Try.prog tk (.binOp .eql 30 X Y yt) ty [(.agg [.val (.int .i64 x.Source), .val (.string x.Host), .val (.int .i64 x.Machine), .val (.int .i64 x.Day), .val (.int .i64 x.Confidence), .val (.int .i64 x.Kind), .val (.string x.Subject), .val (.int .i64 x.Use.Alg), .val (.int .i64 x.Use.Bits), .val (.int .i64 x.Number), .val (.string x.Text)], b1), (.agg [.val (.int .i64 y.Source), .val (.string y.Host), .val (.int .i64 y.Machine), .val (.int .i64 y.Day), .val (.int .i64 y.Confidence), .val (.int .i64 y.Kind), .val (.string y.Subject), .val (.int .i64 y.Use.Alg), .val (.int .i64 y.Use.Bits), .val (.int .i64 y.Number), .val (.string y.Text)], b2)] [] (v0 (.val (.bool (decide (x = y))))) :=
 .binOpA rfl rfl (fun _ _ => rfl) (fun w => by
  rw [Sem.run_bind, run_eqGuard_agg w _ 30 X Y _ _ oC]
  simp only [Result.andThen_ok, run_eql_struct]
  exact congrArg (fun r => Result.andThen r _) (mR x y w))
theorem Tz (x y : Aa) {X Y : Operand} {tk : Nat} {yt ty : TypeId} {b1 b2 : Option LB} : Eb Try.prog tk (.binOp .neq 30 X Y yt) ty [(.agg [.val (.int .i64 x.Source), .val (.string x.Host), .val (.int .i64 x.Machine), .val (.int .i64 x.Day), .val (.int .i64 x.Confidence), .val (.int .i64 x.Kind), .val (.string x.Subject), .val (.int .i64 x.Use.Alg), .val (.int .i64 x.Use.Bits), .val (.int .i64 x.Number), .val (.string x.Text)], b1), (.agg [.val (.int .i64 y.Source), .val (.string y.Host), .val (.int .i64 y.Machine), .val (.int .i64 y.Day), .val (.int .i64 y.Confidence), .val (.int .i64 y.Kind), .val (.string y.Subject), .val (.int .i64 y.Use.Alg), .val (.int .i64 y.Use.Bits), .val (.int .i64 y.Number), .val (.string y.Text)], b2)] [] (v0 (.val (.bool (!decide (x = y))))) :=
 .binOpA rfl rfl (fun _ _ => rfl) (fun w => by
  rw [Sem.run_bind, run_eqGuard_agg w _ 30 X Y _ _ oC]
  simp only [Result.andThen_ok, run_neq_struct]
  exact congrArg (fun r => Result.andThen r _) (mR x y w))
instance : L6 Try.prog 104 1 1 3 := ⟨Yv⟩
instance : L6 Try.prog 108 0 0 3 := ⟨eH⟩
instance : L6 Try.prog 108 1 1 3 := ⟨fD⟩
instance : L6 Try.prog 110 0 0 3 := ⟨dV⟩
instance : L6 Try.prog 110 1 1 9 := ⟨dZ⟩
instance : L6 Try.prog 110 10 12 77 := ⟨cG⟩
instance : L6 Try.prog 110 11 13 108 := ⟨bT⟩
instance : L6 Try.prog 110 2 2 9 := ⟨eN⟩
instance : L6 Try.prog 110 3 3 28 := ⟨Yq⟩
instance : L6 Try.prog 110 4 5 3 := ⟨Yu⟩
instance : L6 Try.prog 110 5 6 28 := ⟨fG⟩
instance : L6 Try.prog 110 6 8 3 := ⟨eV⟩
instance : L6 Try.prog 110 7 9 3 := ⟨eC⟩
instance : L6 Try.prog 110 8 10 4 := ⟨eP⟩
instance : L6 Try.prog 110 9 11 3 := ⟨eY⟩
instance : L6 Try.prog 28 0 0 3 := ⟨lD⟩
instance : L6 Try.prog 28 1 1 3 := ⟨iK⟩
instance : L6 Try.prog 30 0 0 3 := ⟨kH⟩
instance : L6 Try.prog 30 1 1 9 := ⟨jA⟩
instance : L6 Try.prog 30 2 2 3 := ⟨lE⟩
instance : L6 Try.prog 30 3 3 3 := ⟨lF⟩
instance : L6 Try.prog 30 4 4 3 := ⟨lY⟩
instance : L6 Try.prog 30 5 5 3 := ⟨aH⟩
instance : L6 Try.prog 30 6 6 9 := ⟨kL⟩
instance : L6 Try.prog 30 7 7 28 := ⟨kU⟩
instance : L6 Try.prog 30 8 9 3 := ⟨dQ⟩
instance : L6 Try.prog 30 9 10 9 := ⟨iX⟩
instance : L6 Try.prog 46 0 0 9 := ⟨bL⟩
instance : L6 Try.prog 46 1 1 28 := ⟨iP⟩
instance : L6 Try.prog 46 2 3 3 := ⟨jP⟩
instance : L6 Try.prog 46 4 5 44 := ⟨lX⟩
instance : L6 Try.prog 49 0 0 22 := ⟨iS⟩
instance : L6 Try.prog 49 1 1 3 := ⟨jW⟩
instance : L6 Try.prog 76 0 0 30 := ⟨jX⟩
instance : L6 Try.prog 76 1 11 33 := ⟨mA⟩
instance : L6 Try.prog 99 1 1 3 := ⟨kG⟩
instance : L6 Try.prog 99 2 2 3 := ⟨iL⟩
instance : L6 Try.prog 99 3 3 22 := ⟨jK⟩
instance : L6 Try.prog 99 4 4 22 := ⟨lN⟩
instance : Yz Try.prog 105 104 2 24 := ⟨hG⟩
instance : Yz Try.prog 22 3 1 8 := ⟨E7⟩
instance : Yz Try.prog 33 30 11 112 := ⟨Ha⟩
instance : Yz Try.prog 44 110 15 152 := ⟨pD⟩
instance : Yz Try.prog 47 46 6 72 := ⟨oS⟩
instance : Yz Try.prog 53 28 2 16 := ⟨nO⟩
instance : Yz Try.prog 61 55 1 8 := ⟨Qr⟩
instance : Yz Try.prog 77 9 1 16 := ⟨Zu⟩
instance : Yz Try.prog 81 33 1 24 := ⟨nW⟩
instance : Yz Try.prog 83 5 1 1 := ⟨pQ⟩
instance : Qu Try.prog 108 true 2 := ⟨oR⟩
instance : Qu Try.prog 110 true 15 := ⟨gZ⟩
instance : Qu Try.prog 112 false 1 := ⟨oI⟩
instance : Qu Try.prog 120 true 115 := ⟨mW⟩
instance : Qu Try.prog 126 true 2 := ⟨gP⟩
instance : Qu Try.prog 22 false 1 := ⟨pM⟩
instance : Qu Try.prog 28 true 2 := ⟨fE⟩
instance : Qu Try.prog 3 false 1 := ⟨T7⟩
instance : Qu Try.prog 30 true 11 := ⟨Cg⟩
instance : Qu Try.prog 33 false 1 := ⟨kQ⟩
instance : Qu Try.prog 4 false 1 := ⟨qO⟩
instance : Qu Try.prog 44 false 1 := ⟨pA⟩
instance : Qu Try.prog 46 true 6 := ⟨lC⟩
instance : Qu Try.prog 5 false 1 := ⟨qL⟩
instance : Qu Try.prog 54 false 1 := ⟨N8⟩
instance : Qu Try.prog 55 false 1 := ⟨Rz⟩
instance : Qu Try.prog 58 false 1 := ⟨Xc⟩
instance : Qu Try.prog 77 false 1 := ⟨pH⟩
instance : Qu Try.prog 9 false 1 := ⟨mE⟩
instance : Qu Try.prog 99 true 5 := ⟨nM⟩
instance : V5 Try.prog 104 [.string ⟨#[]⟩, .int .i64 0] := ⟨Jx⟩
instance : V5 Try.prog 110 [.int .i64 0, .string ⟨#[]⟩, .string ⟨#[]⟩, .int .i64 0, .int .i64 0, .int .i64 0, .int .i64 0, .int .i64 0, .int .i64 0, .int .i64 0, .bool false, .int .i64 0, .slice none 0 0, .int .i64 0, .int .i64 0] := ⟨pS⟩
instance : V5 Try.prog 112 [.int .u64 0] := ⟨qE⟩
instance : V5 Try.prog 120 [.string ⟨#[]⟩, .int .i64 0, .int .i64 0, .slice none 0 0, .slice none 0 0, .string ⟨#[]⟩, .int .i64 0, .int .i64 0, .slice none 0 0, .slice none 0 0, .string ⟨#[]⟩, .int .i64 0, .int .i64 0, .slice none 0 0, .slice none 0 0, .string ⟨#[]⟩, .int .i64 0, .int .i64 0, .slice none 0 0, .slice none 0 0, .string ⟨#[]⟩, .int .i64 0, .int .i64 0, .slice none 0 0, .slice none 0 0, .string ⟨#[]⟩, .int .i64 0, .int .i64 0, .slice none 0 0, .slice none 0 0, .string ⟨#[]⟩, .int .i64 0, .int .i64 0, .slice none 0 0, .slice none 0 0, .string ⟨#[]⟩, .int .i64 0, .int .i64 0, .slice none 0 0, .slice none 0 0, .string ⟨#[]⟩, .int .i64 0, .int .i64 0, .slice none 0 0, .slice none 0 0, .string ⟨#[]⟩, .int .i64 0, .int .i64 0, .slice none 0 0, .slice none 0 0, .string ⟨#[]⟩, .int .i64 0, .int .i64 0, .slice none 0 0, .slice none 0 0, .string ⟨#[]⟩, .int .i64 0, .int .i64 0, .slice none 0 0, .slice none 0 0, .string ⟨#[]⟩, .int .i64 0, .int .i64 0, .slice none 0 0, .slice none 0 0, .string ⟨#[]⟩, .int .i64 0, .int .i64 0, .slice none 0 0, .slice none 0 0, .string ⟨#[]⟩, .int .i64 0, .int .i64 0, .slice none 0 0, .slice none 0 0, .string ⟨#[]⟩, .int .i64 0, .int .i64 0, .slice none 0 0, .slice none 0 0, .string ⟨#[]⟩, .int .i64 0, .int .i64 0, .slice none 0 0, .slice none 0 0, .string ⟨#[]⟩, .int .i64 0, .int .i64 0, .slice none 0 0, .slice none 0 0, .string ⟨#[]⟩, .int .i64 0, .int .i64 0, .slice none 0 0, .slice none 0 0, .string ⟨#[]⟩, .int .i64 0, .int .i64 0, .slice none 0 0, .slice none 0 0, .string ⟨#[]⟩, .int .i64 0, .int .i64 0, .slice none 0 0, .slice none 0 0, .string ⟨#[]⟩, .int .i64 0, .int .i64 0, .slice none 0 0, .slice none 0 0, .string ⟨#[]⟩, .int .i64 0, .int .i64 0, .slice none 0 0, .slice none 0 0] := ⟨nA⟩
instance : V5 Try.prog 126 [.int .i64 0, .int .i64 0] := ⟨Zc⟩
instance : V5 Try.prog 127 [.int .i64 0, .int .i64 0, .int .i64 0, .int .i64 0, .int .i64 0, .int .i64 0, .int .i64 0, .int .i64 0, .int .i64 0, .int .i64 0] := ⟨oQ⟩
instance : V5 Try.prog 28 [.int .i64 0, .int .i64 0] := ⟨Yl⟩
instance : V5 Try.prog 3 [.int .i64 0] := ⟨z3⟩
instance : V5 Try.prog 30 [.int .i64 0, .string ⟨#[]⟩, .int .i64 0, .int .i64 0, .int .i64 0, .int .i64 0, .string ⟨#[]⟩, .int .i64 0, .int .i64 0, .int .i64 0, .string ⟨#[]⟩] := ⟨Yy⟩
instance : V5 Try.prog 33 [.slice none 0 0] := ⟨qI⟩
instance : V5 Try.prog 46 [.string ⟨#[]⟩, .int .i64 0, .int .i64 0, .int .i64 0, .bool false, .slice none 0 0] := ⟨oW⟩
instance : V5 Try.prog 49 [.slice none 0 0, .int .i64 0] := ⟨qG⟩
instance : V5 Try.prog 55 [.nilFunc] := ⟨qJ⟩
instance : V5 Try.prog 76 [.int .i64 0, .string ⟨#[]⟩, .int .i64 0, .int .i64 0, .int .i64 0, .int .i64 0, .string ⟨#[]⟩, .int .i64 0, .int .i64 0, .int .i64 0, .string ⟨#[]⟩, .slice none 0 0] := ⟨qK⟩
instance : V5 Try.prog 9 [.string ⟨#[]⟩] := ⟨z9⟩
instance : V5 Try.prog 99 [.string ⟨#[]⟩, .int .i64 0, .int .i64 0, .slice none 0 0, .slice none 0 0] := ⟨Si⟩
instance : Vg Aj.enc 2 := ⟨Aj.enc_len⟩
instance : Vg Bk.enc 2 := ⟨Bk.enc_len⟩
instance : Vg Aa.enc 11 := ⟨Aa.enc_len⟩
instance : Vg H4.enc 2 := ⟨H4.enc_len⟩
instance : Vg Bc.enc 15 := ⟨Bc.enc_len⟩
instance : Vg Ce.enc 6 := ⟨Ce.enc_len⟩
instance : Vg Dk.enc 12 := ⟨Dk.enc_len⟩
instance : Vg Bu.enc 5 := ⟨Bu.enc_len⟩
instance : Vg Ar.enc 2 := ⟨Ar.enc_len⟩
end Go.Proofs.Ytjomajedgbcngaa
