import Derived.Test.YtkoflhimdenjaaaGreatEH
import Derived.Test.YtkoflhimdenjaaaGreatP1
import Derived.Test.YtkoflhimdenjaaaGreatProg
set_option linter.unusedVariables false
set_option linter.unusedSimpArgs false
set_option maxRecDepth 100000
set_option maxHeartbeats 1600000
namespace Go.Proofs.YtkoflhimdenjaaaGreat
open Go.RowKit
abbrev Ah.dv (x : Ah) : List DV := [.sl 1 (Aq eI x.L), .val (.int .i64 x.At)]
def Ah.enc (x : Ah) : List C := [.sl 1 (Aq eI x.L), .int .i64 x.At]
theorem Ah.enc_len (x : Ah) : (Ah.enc x).length = 2 := rfl
abbrev Aw.dv (x : Aw) : List DV := [.val (.int .i64 x.Alg), .val (.int .i64 x.Bits)]
def Aw.enc (x : Aw) : List C := [.int .i64 x.Alg, .int .i64 x.Bits]
theorem Aw.enc_len (x : Aw) : (Aw.enc x).length = 2 := rfl
abbrev D2.dv (x : D2) : List DV := [.val (.int .i64 x.Key), .val (.int .i64 x.Sum)]
def D2.enc (x : D2) : List C := [.int .i64 x.Key, .int .i64 x.Sum]
theorem D2.enc_len (x : D2) : (D2.enc x).length = 2 := rfl
abbrev Ai.dv (x : Ai) : List DV := [.val (.int .i64 x.Serial), .val (.string x.Issuer), .val (.string x.Subject), .val (.int .i64 x.Key.Alg), .val (.int .i64 x.Key.Bits), .val (.int .i64 x.KeyId), .val (.int .i64 x.Hash.Alg), .val (.int .i64 x.Hash.Bits), .val (.int .i64 x.From), .val (.int .i64 x.To), .val (.bool x.Authority), .val (.int .i64 x.Path), .sl 1 (Aq eS x.Names), .val (.int .i64 x.Seal.Key), .val (.int .i64 x.Seal.Sum)]
def Ai.enc (x : Ai) : List C := [.int .i64 x.Serial, .str x.Issuer, .str x.Subject, .int .i64 x.Key.Alg, .int .i64 x.Key.Bits, .int .i64 x.KeyId, .int .i64 x.Hash.Alg, .int .i64 x.Hash.Bits, .int .i64 x.From, .int .i64 x.To, .bool x.Authority, .int .i64 x.Path, .sl 1 (Aq eS x.Names), .int .i64 x.Seal.Key, .int .i64 x.Seal.Sum]
theorem Ai.enc_len (x : Ai) : (Ai.enc x).length = 15 := rfl
abbrev A5.dv (x : A5) : List DV := [.val (.int .i64 x.Key.Alg), .val (.int .i64 x.Key.Bits), .val (.int .i64 x.KeyId), .sl 15 (Aq Ai.enc x.Chain)]
def A5.enc (x : A5) : List C := [.int .i64 x.Key.Alg, .int .i64 x.Key.Bits, .int .i64 x.KeyId, .sl 15 (Aq Ai.enc x.Chain)]
theorem A5.enc_len (x : A5) : (A5.enc x).length = 4 := rfl
abbrev Ao.dv (x : Ao) : List DV := [.val (.string x.Name), .val (.int .i64 x.Least), .val (.int .i64 x.Most), .sl 1 (Aq eI x.Suites), .val (.bool x.OwnOrder), .sl 4 (Aq A5.enc x.Identities), .sl 1 (Aq eI x.Anchors), .sl 1 (Aq eI x.Hashes), .val (.bool x.Fallback)]
def Ao.enc (x : Ao) : List C := [.str x.Name, .int .i64 x.Least, .int .i64 x.Most, .sl 1 (Aq eI x.Suites), .bool x.OwnOrder, .sl 4 (Aq A5.enc x.Identities), .sl 1 (Aq eI x.Anchors), .sl 1 (Aq eI x.Hashes), .bool x.Fallback]
theorem Ao.enc_len (x : Ao) : (Ao.enc x).length = 9 := rfl
abbrev Bo.dv (x : Bo) : List DV := [.val (.int .i64 x.Client), .val (.int .i64 x.Server)]
def Bo.enc (x : Bo) : List C := [.int .i64 x.Client, .int .i64 x.Server]
theorem Bo.enc_len (x : Bo) : (Bo.enc x).length = 2 := rfl
abbrev C2.dv (x : C2) : List DV := [.val (.int .i64 x.Use.Alg), .val (.int .i64 x.Use.Bits), .val (.int .i64 x.Day)]
def C2.enc (x : C2) : List C := [.int .i64 x.Use.Alg, .int .i64 x.Use.Bits, .int .i64 x.Day]
theorem C2.enc_len (x : C2) : (C2.enc x).length = 3 := rfl
abbrev Di.dv (x : Di) : List DV := [.val (.string x.Name), .val (.int .i64 x.Kind), .val (.int .i64 x.Purpose), .sl 3 (Aq C2.enc x.Links), .val (.int .i64 x.Until)]
def Di.enc (x : Di) : List C := [.str x.Name, .int .i64 x.Kind, .int .i64 x.Purpose, .sl 3 (Aq C2.enc x.Links), .int .i64 x.Until]
theorem Di.enc_len (x : Di) : (Di.enc x).length = 5 := rfl
abbrev C1.dv (x : C1) : List DV := [.sl 9 (Aq Ao.enc x.Endpoints), .sl 2 (Aq Bo.enc x.Edges), .sl 5 (Aq Di.enc x.Items)]
def C1.enc (x : C1) : List C := [.sl 9 (Aq Ao.enc x.Endpoints), .sl 2 (Aq Bo.enc x.Edges), .sl 5 (Aq Di.enc x.Items)]
theorem C1.enc_len (x : C1) : (C1.enc x).length = 3 := rfl
abbrev Aa.dv (x : Aa) : List DV := [.val (.int .i64 x.Source), .val (.string x.Host), .val (.int .i64 x.Machine), .val (.int .i64 x.Day), .val (.int .i64 x.Confidence), .val (.int .i64 x.Kind), .val (.string x.Subject), .val (.int .i64 x.Use.Alg), .val (.int .i64 x.Use.Bits), .val (.int .i64 x.Number), .val (.string x.Text)]
def Aa.enc (x : Aa) : List C := [.int .i64 x.Source, .str x.Host, .int .i64 x.Machine, .int .i64 x.Day, .int .i64 x.Confidence, .int .i64 x.Kind, .str x.Subject, .int .i64 x.Use.Alg, .int .i64 x.Use.Bits, .int .i64 x.Number, .str x.Text]
theorem Aa.enc_len (x : Aa) : (Aa.enc x).length = 11 := rfl
abbrev Ap.dv (x : Ap) : List DV := [.val (.string x.name), .val (.int .i64 x.kind)]
def Ap.enc (x : Ap) : List C := [.str x.name, .int .i64 x.kind]
theorem Ap.enc_len (x : Ap) : (Ap.enc x).length = 2 := rfl
mutual
def Ae.enc : Ae -> List C
 | ⟨Tag, Bytes, Nested, Elements⟩ => [.int .i64 Tag, .sl 1 (Aq e8 Bytes), .bool Nested, .sl 4 (Ae.encs Elements)]
def Ae.encs : List Ae -> List C
 | [] => []
 | x :: l => Ae.enc x ++ Ae.encs l
end
theorem Ae.encs_eq : ∀ (l : List Ae), Ae.encs l = Aq Ae.enc l
 | [] => rfl
 | x :: l => by
  show Ae.enc x ++ Ae.encs l = Ae.enc x ++ Aq Ae.enc l
  rw [Ae.encs_eq l]
theorem Ae.enc_eq (x : Ae) : Ae.enc x = [.int .i64 x.Tag, .sl 1 (Aq e8 x.Bytes), .bool x.Nested, .sl 4 (Aq Ae.enc x.Elements)] := by
 cases x
 simp only [Ae.enc, Ae.encs_eq]
theorem Ae.enc_len (x : Ae) : (Ae.enc x).length = 4 := by rw [Ae.enc_eq]; rfl
abbrev Ae.dv (x : Ae) : List DV := [.val (.int .i64 x.Tag), .sl 1 (Aq e8 x.Bytes), .val (.bool x.Nested), .sl 4 (Aq Ae.enc x.Elements)]
abbrev C8.dv (x : C8) : List DV := [.val (.int .i64 x.at_.Source), .val (.string x.at_.Host), .val (.int .i64 x.at_.Machine), .val (.int .i64 x.at_.Day), .val (.int .i64 x.at_.Confidence), .val (.int .i64 x.at_.Kind), .val (.string x.at_.Subject), .val (.int .i64 x.at_.Use.Alg), .val (.int .i64 x.at_.Use.Bits), .val (.int .i64 x.at_.Number), .val (.string x.at_.Text), .sl 11 (Aq Aa.enc x.l)]
def C8.enc (x : C8) : List C := [.int .i64 x.at_.Source, .str x.at_.Host, .int .i64 x.at_.Machine, .int .i64 x.at_.Day, .int .i64 x.at_.Confidence, .int .i64 x.at_.Kind, .str x.at_.Subject, .int .i64 x.at_.Use.Alg, .int .i64 x.at_.Use.Bits, .int .i64 x.at_.Number, .str x.at_.Text, .sl 11 (Aq Aa.enc x.l)]
theorem C8.enc_len (x : C8) : (C8.enc x).length = 12 := rfl
abbrev Bu.dv (x : Bu) : List DV := [.val (.string x.name), .val (.int .i64 x.kind), .val (.int .i64 x.way), .sl 1 (Aq eI x.sizes), .sl 1 (Aq eI x.strengths)]
def Bu.enc (x : Bu) : List C := [.str x.name, .int .i64 x.kind, .int .i64 x.way, .sl 1 (Aq eI x.sizes), .sl 1 (Aq eI x.strengths)]
theorem Bu.enc_len (x : Bu) : (Bu.enc x).length = 5 := rfl
abbrev A7.dv (x : A7) : List DV := [.val (.int .i64 x.Code), .val (.string x.Name), .val (.int .i64 x.Exchange.Alg), .val (.int .i64 x.Exchange.Bits), .val (.int .i64 x.Sign.Alg), .val (.int .i64 x.Sign.Bits), .val (.int .i64 x.Cipher.Alg), .val (.int .i64 x.Cipher.Bits), .val (.int .i64 x.Mac.Alg), .val (.int .i64 x.Mac.Bits), .val (.int .i64 x.Least), .val (.int .i64 x.Most)]
def A7.enc (x : A7) : List C := [.int .i64 x.Code, .str x.Name, .int .i64 x.Exchange.Alg, .int .i64 x.Exchange.Bits, .int .i64 x.Sign.Alg, .int .i64 x.Sign.Bits, .int .i64 x.Cipher.Alg, .int .i64 x.Cipher.Bits, .int .i64 x.Mac.Alg, .int .i64 x.Mac.Bits, .int .i64 x.Least, .int .i64 x.Most]
theorem A7.enc_len (x : A7) : (A7.enc x).length = 12 := rfl
abbrev Cu.dv (x : Cu) : List DV := [.val (.string x.host), .val (.int .i64 x.day), .val (.int .i64 x.kind), .val (.int .i64 x.use.Alg), .val (.int .i64 x.use.Bits), .val (.int .i64 x.number), .val (.string x.text)]
def Cu.enc (x : Cu) : List C := [.str x.host, .int .i64 x.day, .int .i64 x.kind, .int .i64 x.use.Alg, .int .i64 x.use.Bits, .int .i64 x.number, .str x.text]
theorem Cu.enc_len (x : Cu) : (Cu.enc x).length = 7 := rfl
theorem V0 : Tryz.prog.underlying 3 = some (.int .i64) := by kernel_rfl
theorem aA3 : Tryz.prog.underlying 4 = some (.bool) := by kernel_rfl
theorem Vz : Tryz.prog.underlying 5 = some (.int .u8) := by kernel_rfl
theorem Vk : Tryz.prog.underlying 9 = some (.string) := by kernel_rfl
theorem pF : Tryz.prog.underlying 31 = some (.struct ((match Tryz.prog.underlying 31 with | some (.struct f) => f | _ => #[]))) := by kernel_rfl
theorem J4 : Tryz.prog.underlying 34 = some (.struct ((match Tryz.prog.underlying 34 with | some (.struct f) => f | _ => #[]))) := by kernel_rfl
theorem iG : Tryz.prog.underlying 37 = some (.struct ((match Tryz.prog.underlying 37 with | some (.struct f) => f | _ => #[]))) := by kernel_rfl
theorem Tg : Tryz.prog.underlying 43 = some (.struct ((match Tryz.prog.underlying 43 with | some (.struct f) => f | _ => #[]))) := by kernel_rfl
theorem Q8 : Tryz.prog.underlying 48 = some (.struct ((match Tryz.prog.underlying 48 with | some (.struct f) => f | _ => #[]))) := by kernel_rfl
theorem aCo : Tryz.prog.underlying 50 = some (.slice 48) := by kernel_rfl
theorem qI : Tryz.prog.underlying 71 = some (.struct ((match Tryz.prog.underlying 71 with | some (.struct f) => f | _ => #[]))) := by kernel_rfl
theorem uU : Tryz.prog.underlying 78 = some (.struct ((match Tryz.prog.underlying 78 with | some (.struct f) => f | _ => #[]))) := by kernel_rfl
theorem nZ : Tryz.prog.underlying 81 = some (.struct ((match Tryz.prog.underlying 81 with | some (.struct f) => f | _ => #[]))) := by kernel_rfl
theorem aDd : Tryz.prog.underlying 91 = some (.struct ((match Tryz.prog.underlying 91 with | some (.struct f) => f | _ => #[]))) := by kernel_rfl
theorem aS : Tryz.prog.underlying 109 = some (.struct ((match Tryz.prog.underlying 109 with | some (.struct f) => f | _ => #[]))) := by kernel_rfl
theorem Kp : Tryz.prog.underlying 111 = some (.struct ((match Tryz.prog.underlying 111 with | some (.struct f) => f | _ => #[]))) := by kernel_rfl
theorem oC : Tryz.prog.underlying 115 = some (.struct ((match Tryz.prog.underlying 115 with | some (.struct f) => f | _ => #[]))) := by kernel_rfl
theorem fO : Tryz.prog.underlying 126 = some (.struct ((match Tryz.prog.underlying 126 with | some (.struct f) => f | _ => #[]))) := by kernel_rfl
theorem fT : Tryz.prog.underlying 146 = some (.slice 5) := by kernel_rfl
theorem I4 : Tryz.prog.underlying 152 = some (.struct ((match Tryz.prog.underlying 152 with | some (.struct f) => f | _ => #[]))) := by kernel_rfl
theorem Pg : Tryz.prog.underlying 170 = some (.struct ((match Tryz.prog.underlying 170 with | some (.struct f) => f | _ => #[]))) := by kernel_rfl
theorem mC : Tryz.prog.underlying 172 = some (.int .u32) := by kernel_rfl
theorem G1 : Tryz.prog.underlying 176 = some (.struct ((match Tryz.prog.underlying 176 with | some (.struct f) => f | _ => #[]))) := by kernel_rfl
theorem eQ : Tryz.prog.underlying 192 = some (.int .u64) := by kernel_rfl
theorem Fu : Tryz.prog.underlying 215 = some (.struct ((match Tryz.prog.underlying 215 with | some (.struct f) => f | _ => #[]))) := by kernel_rfl
theorem aAo : Tryz.prog.underlying 228 = some (.int .u64) := by kernel_rfl
theorem mS : Tryz.prog.underlying 233 = some (.array 23 215) := by kernel_rfl
theorem vQ : Tryz.prog.underlying 237 = some (.int .u64) := by kernel_rfl
theorem Sv : Tryz.prog.underlying 243 = some (.array 2 3) := by kernel_rfl
theorem nJ : Tryz.prog.underlying 244 = some (.array 5 243) := by kernel_rfl
theorem rG : Fd Tryz.prog 109 0 0 3 := ⟨_, (match Tryz.prog.underlying 109 with | some (.struct f) => f | _ => #[])[0]!, aS, by kernel_rfl, by kernel_rfl, by kernel_rfl⟩
theorem rU : Fd Tryz.prog 109 1 1 3 := ⟨_, (match Tryz.prog.underlying 109 with | some (.struct f) => f | _ => #[])[1]!, aS, by kernel_rfl, by kernel_rfl, by kernel_rfl⟩
theorem tO : Fd Tryz.prog 111 0 0 3 := ⟨_, (match Tryz.prog.underlying 111 with | some (.struct f) => f | _ => #[])[0]!, Kp, by kernel_rfl, by kernel_rfl, by kernel_rfl⟩
theorem tV : Fd Tryz.prog 111 1 1 9 := ⟨_, (match Tryz.prog.underlying 111 with | some (.struct f) => f | _ => #[])[1]!, Kp, by kernel_rfl, by kernel_rfl, by kernel_rfl⟩
theorem nV : Fd Tryz.prog 111 10 12 72 := ⟨_, (match Tryz.prog.underlying 111 with | some (.struct f) => f | _ => #[])[10]!, Kp, by kernel_rfl, by kernel_rfl, by kernel_rfl⟩
theorem pZ : Fd Tryz.prog 111 11 13 109 := ⟨_, (match Tryz.prog.underlying 111 with | some (.struct f) => f | _ => #[])[11]!, Kp, by kernel_rfl, by kernel_rfl, by kernel_rfl⟩
theorem sU : Fd Tryz.prog 111 2 2 9 := ⟨_, (match Tryz.prog.underlying 111 with | some (.struct f) => f | _ => #[])[2]!, Kp, by kernel_rfl, by kernel_rfl, by kernel_rfl⟩
theorem hO : Fd Tryz.prog 111 3 3 34 := ⟨_, (match Tryz.prog.underlying 111 with | some (.struct f) => f | _ => #[])[3]!, Kp, by kernel_rfl, by kernel_rfl, by kernel_rfl⟩
theorem iY : Fd Tryz.prog 111 4 5 3 := ⟨_, (match Tryz.prog.underlying 111 with | some (.struct f) => f | _ => #[])[4]!, Kp, by kernel_rfl, by kernel_rfl, by kernel_rfl⟩
theorem sJ : Fd Tryz.prog 111 5 6 34 := ⟨_, (match Tryz.prog.underlying 111 with | some (.struct f) => f | _ => #[])[5]!, Kp, by kernel_rfl, by kernel_rfl, by kernel_rfl⟩
theorem sL : Fd Tryz.prog 111 6 8 3 := ⟨_, (match Tryz.prog.underlying 111 with | some (.struct f) => f | _ => #[])[6]!, Kp, by kernel_rfl, by kernel_rfl, by kernel_rfl⟩
theorem rR : Fd Tryz.prog 111 7 9 3 := ⟨_, (match Tryz.prog.underlying 111 with | some (.struct f) => f | _ => #[])[7]!, Kp, by kernel_rfl, by kernel_rfl, by kernel_rfl⟩
theorem tP : Fd Tryz.prog 111 8 10 4 := ⟨_, (match Tryz.prog.underlying 111 with | some (.struct f) => f | _ => #[])[8]!, Kp, by kernel_rfl, by kernel_rfl, by kernel_rfl⟩
theorem sT : Fd Tryz.prog 111 9 11 3 := ⟨_, (match Tryz.prog.underlying 111 with | some (.struct f) => f | _ => #[])[9]!, Kp, by kernel_rfl, by kernel_rfl, by kernel_rfl⟩
theorem tU : Fd Tryz.prog 115 1 2 3 := ⟨_, (match Tryz.prog.underlying 115 with | some (.struct f) => f | _ => #[])[1]!, oC, by kernel_rfl, by kernel_rfl, by kernel_rfl⟩
theorem sM : Fd Tryz.prog 126 0 0 48 := ⟨_, (match Tryz.prog.underlying 126 with | some (.struct f) => f | _ => #[])[0]!, fO, by kernel_rfl, by kernel_rfl, by kernel_rfl⟩
theorem sF : Fd Tryz.prog 126 1 11 50 := ⟨_, (match Tryz.prog.underlying 126 with | some (.struct f) => f | _ => #[])[1]!, fO, by kernel_rfl, by kernel_rfl, by kernel_rfl⟩
theorem tC : Fd Tryz.prog 152 0 0 3 := ⟨_, (match Tryz.prog.underlying 152 with | some (.struct f) => f | _ => #[])[0]!, I4, by kernel_rfl, by kernel_rfl, by kernel_rfl⟩
theorem sS : Fd Tryz.prog 170 0 0 3 := ⟨_, (match Tryz.prog.underlying 170 with | some (.struct f) => f | _ => #[])[0]!, Pg, by kernel_rfl, by kernel_rfl, by kernel_rfl⟩
theorem tM : Fd Tryz.prog 170 1 1 146 := ⟨_, (match Tryz.prog.underlying 170 with | some (.struct f) => f | _ => #[])[1]!, Pg, by kernel_rfl, by kernel_rfl, by kernel_rfl⟩
theorem sH : Fd Tryz.prog 170 2 2 4 := ⟨_, (match Tryz.prog.underlying 170 with | some (.struct f) => f | _ => #[])[2]!, Pg, by kernel_rfl, by kernel_rfl, by kernel_rfl⟩
theorem sC : Fd Tryz.prog 170 3 3 168 := ⟨_, (match Tryz.prog.underlying 170 with | some (.struct f) => f | _ => #[])[3]!, Pg, by kernel_rfl, by kernel_rfl, by kernel_rfl⟩
theorem hZ : Fd Tryz.prog 176 1 1 3 := ⟨_, (match Tryz.prog.underlying 176 with | some (.struct f) => f | _ => #[])[1]!, G1, by kernel_rfl, by kernel_rfl, by kernel_rfl⟩
theorem rN : Fd Tryz.prog 215 1 1 3 := ⟨_, (match Tryz.prog.underlying 215 with | some (.struct f) => f | _ => #[])[1]!, Fu, by kernel_rfl, by kernel_rfl, by kernel_rfl⟩
theorem qT : Fd Tryz.prog 215 2 2 3 := ⟨_, (match Tryz.prog.underlying 215 with | some (.struct f) => f | _ => #[])[2]!, Fu, by kernel_rfl, by kernel_rfl, by kernel_rfl⟩
theorem sY : Fd Tryz.prog 215 3 3 22 := ⟨_, (match Tryz.prog.underlying 215 with | some (.struct f) => f | _ => #[])[3]!, Fu, by kernel_rfl, by kernel_rfl, by kernel_rfl⟩
theorem rT : Fd Tryz.prog 215 4 4 22 := ⟨_, (match Tryz.prog.underlying 215 with | some (.struct f) => f | _ => #[])[4]!, Fu, by kernel_rfl, by kernel_rfl, by kernel_rfl⟩
theorem wT : Fd Tryz.prog 31 0 0 27 := ⟨_, (match Tryz.prog.underlying 31 with | some (.struct f) => f | _ => #[])[0]!, pF, by kernel_rfl, by kernel_rfl, by kernel_rfl⟩
theorem vU : Fd Tryz.prog 31 1 1 28 := ⟨_, (match Tryz.prog.underlying 31 with | some (.struct f) => f | _ => #[])[1]!, pF, by kernel_rfl, by kernel_rfl, by kernel_rfl⟩
theorem zQ : Fd Tryz.prog 31 2 2 29 := ⟨_, (match Tryz.prog.underlying 31 with | some (.struct f) => f | _ => #[])[2]!, pF, by kernel_rfl, by kernel_rfl, by kernel_rfl⟩
theorem wH : Fd Tryz.prog 34 0 0 3 := ⟨_, (match Tryz.prog.underlying 34 with | some (.struct f) => f | _ => #[])[0]!, J4, by kernel_rfl, by kernel_rfl, by kernel_rfl⟩
theorem zY : Fd Tryz.prog 34 1 1 3 := ⟨_, (match Tryz.prog.underlying 34 with | some (.struct f) => f | _ => #[])[1]!, J4, by kernel_rfl, by kernel_rfl, by kernel_rfl⟩
theorem vX : Fd Tryz.prog 37 0 0 34 := ⟨_, (match Tryz.prog.underlying 37 with | some (.struct f) => f | _ => #[])[0]!, iG, by kernel_rfl, by kernel_rfl, by kernel_rfl⟩
theorem vW : Fd Tryz.prog 37 1 2 3 := ⟨_, (match Tryz.prog.underlying 37 with | some (.struct f) => f | _ => #[])[1]!, iG, by kernel_rfl, by kernel_rfl, by kernel_rfl⟩
theorem aAj : Fd Tryz.prog 37 2 3 35 := ⟨_, (match Tryz.prog.underlying 37 with | some (.struct f) => f | _ => #[])[2]!, iG, by kernel_rfl, by kernel_rfl, by kernel_rfl⟩
theorem wY : Fd Tryz.prog 43 0 0 9 := ⟨_, (match Tryz.prog.underlying 43 with | some (.struct f) => f | _ => #[])[0]!, Tg, by kernel_rfl, by kernel_rfl, by kernel_rfl⟩
theorem yA : Fd Tryz.prog 43 1 1 3 := ⟨_, (match Tryz.prog.underlying 43 with | some (.struct f) => f | _ => #[])[1]!, Tg, by kernel_rfl, by kernel_rfl, by kernel_rfl⟩
theorem aAp : Fd Tryz.prog 43 2 2 3 := ⟨_, (match Tryz.prog.underlying 43 with | some (.struct f) => f | _ => #[])[2]!, Tg, by kernel_rfl, by kernel_rfl, by kernel_rfl⟩
theorem yN : Fd Tryz.prog 43 3 3 22 := ⟨_, (match Tryz.prog.underlying 43 with | some (.struct f) => f | _ => #[])[3]!, Tg, by kernel_rfl, by kernel_rfl, by kernel_rfl⟩
theorem aAg : Fd Tryz.prog 43 5 5 41 := ⟨_, (match Tryz.prog.underlying 43 with | some (.struct f) => f | _ => #[])[5]!, Tg, by kernel_rfl, by kernel_rfl, by kernel_rfl⟩
theorem vM : Fd Tryz.prog 43 6 6 22 := ⟨_, (match Tryz.prog.underlying 43 with | some (.struct f) => f | _ => #[])[6]!, Tg, by kernel_rfl, by kernel_rfl, by kernel_rfl⟩
theorem yY : Fd Tryz.prog 43 7 7 22 := ⟨_, (match Tryz.prog.underlying 43 with | some (.struct f) => f | _ => #[])[7]!, Tg, by kernel_rfl, by kernel_rfl, by kernel_rfl⟩
theorem xJ : Fd Tryz.prog 48 0 0 3 := ⟨_, (match Tryz.prog.underlying 48 with | some (.struct f) => f | _ => #[])[0]!, Q8, by kernel_rfl, by kernel_rfl, by kernel_rfl⟩
theorem wU : Fd Tryz.prog 48 1 1 9 := ⟨_, (match Tryz.prog.underlying 48 with | some (.struct f) => f | _ => #[])[1]!, Q8, by kernel_rfl, by kernel_rfl, by kernel_rfl⟩
theorem xE : Fd Tryz.prog 48 2 2 3 := ⟨_, (match Tryz.prog.underlying 48 with | some (.struct f) => f | _ => #[])[2]!, Q8, by kernel_rfl, by kernel_rfl, by kernel_rfl⟩
theorem mL : Fd Tryz.prog 48 3 3 3 := ⟨_, (match Tryz.prog.underlying 48 with | some (.struct f) => f | _ => #[])[3]!, Q8, by kernel_rfl, by kernel_rfl, by kernel_rfl⟩
theorem wG : Fd Tryz.prog 48 4 4 3 := ⟨_, (match Tryz.prog.underlying 48 with | some (.struct f) => f | _ => #[])[4]!, Q8, by kernel_rfl, by kernel_rfl, by kernel_rfl⟩
theorem xU : Fd Tryz.prog 48 5 5 3 := ⟨_, (match Tryz.prog.underlying 48 with | some (.struct f) => f | _ => #[])[5]!, Q8, by kernel_rfl, by kernel_rfl, by kernel_rfl⟩
theorem yK : Fd Tryz.prog 48 6 6 9 := ⟨_, (match Tryz.prog.underlying 48 with | some (.struct f) => f | _ => #[])[6]!, Q8, by kernel_rfl, by kernel_rfl, by kernel_rfl⟩
theorem nE : Fd Tryz.prog 48 7 7 34 := ⟨_, (match Tryz.prog.underlying 48 with | some (.struct f) => f | _ => #[])[7]!, Q8, by kernel_rfl, by kernel_rfl, by kernel_rfl⟩
theorem nO : Fd Tryz.prog 48 8 9 3 := ⟨_, (match Tryz.prog.underlying 48 with | some (.struct f) => f | _ => #[])[8]!, Q8, by kernel_rfl, by kernel_rfl, by kernel_rfl⟩
theorem xB : Fd Tryz.prog 48 9 10 9 := ⟨_, (match Tryz.prog.underlying 48 with | some (.struct f) => f | _ => #[])[9]!, Q8, by kernel_rfl, by kernel_rfl, by kernel_rfl⟩
theorem zC : Fd Tryz.prog 71 0 0 22 := ⟨_, (match Tryz.prog.underlying 71 with | some (.struct f) => f | _ => #[])[0]!, qI, by kernel_rfl, by kernel_rfl, by kernel_rfl⟩
theorem yJ : Fd Tryz.prog 71 1 1 3 := ⟨_, (match Tryz.prog.underlying 71 with | some (.struct f) => f | _ => #[])[1]!, qI, by kernel_rfl, by kernel_rfl, by kernel_rfl⟩
theorem yL : Fd Tryz.prog 81 3 3 79 := ⟨_, (match Tryz.prog.underlying 81 with | some (.struct f) => f | _ => #[])[3]!, nZ, by kernel_rfl, by kernel_rfl, by kernel_rfl⟩
theorem aAd : Fd Tryz.prog 81 4 4 3 := ⟨_, (match Tryz.prog.underlying 81 with | some (.struct f) => f | _ => #[])[4]!, nZ, by kernel_rfl, by kernel_rfl, by kernel_rfl⟩
theorem uQ : ((match Tryz.prog.underlying 109 with | some (.struct f) => f | _ => #[]) : Array Field).toList.map (fun f => (Tryz.prog.info? f.type).map fun i => (f.offset, i.size)) = [(0, 1), (1, 1)].map some := by kernel_rfl
theorem vG : ((match Tryz.prog.underlying 111 with | some (.struct f) => f | _ => #[]) : Array Field).toList.map (fun f => (Tryz.prog.info? f.type).map fun i => (f.offset, i.size)) = [(0, 1), (1, 1), (2, 1), (3, 2), (5, 1), (6, 2), (8, 1), (9, 1), (10, 1), (11, 1), (12, 1), (13, 2)].map some := by kernel_rfl
theorem aCb : ((match Tryz.prog.underlying 115 with | some (.struct f) => f | _ => #[]) : Array Field).toList.map (fun f => (Tryz.prog.info? f.type).map fun i => (f.offset, i.size)) = [(0, 2), (2, 1)].map some := by kernel_rfl
theorem aC9 : ((match Tryz.prog.underlying 126 with | some (.struct f) => f | _ => #[]) : Array Field).toList.map (fun f => (Tryz.prog.info? f.type).map fun i => (f.offset, i.size)) = [(0, 11), (11, 1)].map some := by kernel_rfl
theorem Lj : ((match Tryz.prog.underlying 152 with | some (.struct f) => f | _ => #[]) : Array Field).toList.map (fun f => (Tryz.prog.info? f.type).map fun i => (f.offset, i.size)) = [(0, 1), (1, 1), (2, 2), (4, 2), (6, 2), (8, 2), (10, 1), (11, 1)].map some := by kernel_rfl
theorem dL : ((match Tryz.prog.underlying 170 with | some (.struct f) => f | _ => #[]) : Array Field).toList.map (fun f => (Tryz.prog.info? f.type).map fun i => (f.offset, i.size)) = [(0, 1), (1, 1), (2, 1), (3, 1)].map some := by kernel_rfl
theorem Jk : ((match Tryz.prog.underlying 176 with | some (.struct f) => f | _ => #[]) : Array Field).toList.map (fun f => (Tryz.prog.info? f.type).map fun i => (f.offset, i.size)) = [(0, 1), (1, 1)].map some := by kernel_rfl
theorem Jl : ((match Tryz.prog.underlying 215 with | some (.struct f) => f | _ => #[]) : Array Field).toList.map (fun f => (Tryz.prog.info? f.type).map fun i => (f.offset, i.size)) = [(0, 1), (1, 1), (2, 1), (3, 1), (4, 1)].map some := by kernel_rfl
theorem Qg : ((match Tryz.prog.underlying 34 with | some (.struct f) => f | _ => #[]) : Array Field).toList.map (fun f => (Tryz.prog.info? f.type).map fun i => (f.offset, i.size)) = [(0, 1), (1, 1)].map some := by kernel_rfl
theorem aDs : ((match Tryz.prog.underlying 37 with | some (.struct f) => f | _ => #[]) : Array Field).toList.map (fun f => (Tryz.prog.info? f.type).map fun i => (f.offset, i.size)) = [(0, 2), (2, 1), (3, 1)].map some := by kernel_rfl
theorem aC0 : ((match Tryz.prog.underlying 43 with | some (.struct f) => f | _ => #[]) : Array Field).toList.map (fun f => (Tryz.prog.info? f.type).map fun i => (f.offset, i.size)) = [(0, 1), (1, 1), (2, 1), (3, 1), (4, 1), (5, 1), (6, 1), (7, 1), (8, 1)].map some := by kernel_rfl
theorem aEe : ((match Tryz.prog.underlying 48 with | some (.struct f) => f | _ => #[]) : Array Field).toList.map (fun f => (Tryz.prog.info? f.type).map fun i => (f.offset, i.size)) = [(0, 1), (1, 1), (2, 1), (3, 1), (4, 1), (5, 1), (6, 1), (7, 2), (9, 1), (10, 1)].map some := by kernel_rfl
theorem aDt : ((match Tryz.prog.underlying 71 with | some (.struct f) => f | _ => #[]) : Array Field).toList.map (fun f => (Tryz.prog.info? f.type).map fun i => (f.offset, i.size)) = [(0, 1), (1, 1)].map some := by kernel_rfl
theorem aBe : ((match Tryz.prog.underlying 78 with | some (.struct f) => f | _ => #[]) : Array Field).toList.map (fun f => (Tryz.prog.info? f.type).map fun i => (f.offset, i.size)) = [(0, 1), (1, 1)].map some := by kernel_rfl
theorem aE0 : ((match Tryz.prog.underlying 81 with | some (.struct f) => f | _ => #[]) : Array Field).toList.map (fun f => (Tryz.prog.info? f.type).map fun i => (f.offset, i.size)) = [(0, 1), (1, 1), (2, 1), (3, 1), (4, 1)].map some := by kernel_rfl
theorem aDx : ((match Tryz.prog.underlying 91 with | some (.struct f) => f | _ => #[]) : Array Field).toList.map (fun f => (Tryz.prog.info? f.type).map fun i => (f.offset, i.size)) = [(0, 1), (1, 1), (2, 1), (3, 2), (5, 1), (6, 1)].map some := by kernel_rfl
theorem Kk : Hq Tryz.prog 146 5 1 1 := Hq.mk' (z := (.int .u8 0)) (by kernel_rfl) (by kernel_rfl) rfl (by decide) (by decide)
theorem Xb : Hq Tryz.prog 168 170 4 64 := Hq.mk' (z := (.agg #[.int .i64 0, .slice none 0 0, .bool false, .slice none 0 0])) (by kernel_rfl) (by kernel_rfl) rfl (by decide) (by decide)
theorem uY : Hq Tryz.prog 173 152 12 104 := Hq.mk' (z := (.agg #[.int .i64 0, .string ⟨#[]⟩, .int .i64 0, .int .i64 0, .int .i64 0, .int .i64 0, .int .i64 0, .int .i64 0, .int .i64 0, .int .i64 0, .int .i64 0, .int .i64 0])) (by kernel_rfl) (by kernel_rfl) rfl (by decide) (by decide)
theorem uX : Hq Tryz.prog 177 176 2 24 := Hq.mk' (z := (.agg #[.string ⟨#[]⟩, .int .i64 0])) (by kernel_rfl) (by kernel_rfl) rfl (by decide) (by decide)
theorem N1 : Hq Tryz.prog 199 194 1 8 := Hq.mk' (z := (.nilFunc)) (by kernel_rfl) (by kernel_rfl) rfl (by decide) (by decide)
theorem G6 : Hq Tryz.prog 22 3 1 8 := Hq.mk' (z := (.int .i64 0)) (by kernel_rfl) (by kernel_rfl) rfl (by decide) (by decide)
theorem zL : Hq Tryz.prog 27 43 9 144 := Hq.mk' (z := (.agg #[.string ⟨#[]⟩, .int .i64 0, .int .i64 0, .slice none 0 0, .bool false, .slice none 0 0, .slice none 0 0, .slice none 0 0, .bool false])) (by kernel_rfl) (by kernel_rfl) rfl (by decide) (by decide)
theorem sK : Hq Tryz.prog 28 78 2 16 := Hq.mk' (z := (.agg #[.int .i64 0, .int .i64 0])) (by kernel_rfl) (by kernel_rfl) rfl (by decide) (by decide)
theorem yD : Hq Tryz.prog 29 81 5 64 := Hq.mk' (z := (.agg #[.string ⟨#[]⟩, .int .i64 0, .int .i64 0, .slice none 0 0, .int .i64 0])) (by kernel_rfl) (by kernel_rfl) rfl (by decide) (by decide)
theorem aC8 : Hq Tryz.prog 35 111 15 152 := Hq.mk' (z := (.agg #[.int .i64 0, .string ⟨#[]⟩, .string ⟨#[]⟩, .int .i64 0, .int .i64 0, .int .i64 0, .int .i64 0, .int .i64 0, .int .i64 0, .int .i64 0, .bool false, .int .i64 0, .slice none 0 0, .int .i64 0, .int .i64 0])) (by kernel_rfl) (by kernel_rfl) rfl (by decide) (by decide)
theorem aBd : Hq Tryz.prog 41 37 4 48 := Hq.mk' (z := (.agg #[.int .i64 0, .int .i64 0, .int .i64 0, .slice none 0 0])) (by kernel_rfl) (by kernel_rfl) rfl (by decide) (by decide)
theorem Qe : Hq Tryz.prog 50 48 11 112 := Hq.mk' (z := (.agg #[.int .i64 0, .string ⟨#[]⟩, .int .i64 0, .int .i64 0, .int .i64 0, .int .i64 0, .string ⟨#[]⟩, .int .i64 0, .int .i64 0, .int .i64 0, .string ⟨#[]⟩])) (by kernel_rfl) (by kernel_rfl) rfl (by decide) (by decide)
theorem Yk : Hq Tryz.prog 72 9 1 16 := Hq.mk' (z := (.string ⟨#[]⟩)) (by kernel_rfl) (by kernel_rfl) rfl (by decide) (by decide)
theorem aBg : Hq Tryz.prog 74 22 1 24 := Hq.mk' (z := (.slice none 0 0)) (by kernel_rfl) (by kernel_rfl) rfl (by decide) (by decide)
theorem aAa : Hq Tryz.prog 79 115 3 24 := Hq.mk' (z := (.agg #[.int .i64 0, .int .i64 0, .int .i64 0])) (by kernel_rfl) (by kernel_rfl) rfl (by decide) (by decide)
theorem aCy : Hq Tryz.prog 84 34 2 16 := Hq.mk' (z := (.agg #[.int .i64 0, .int .i64 0])) (by kernel_rfl) (by kernel_rfl) rfl (by decide) (by decide)
theorem aA5 : Ty Tryz.prog 109 true 2 := ⟨by kernel_rfl, by kernel_rfl⟩
theorem aCz : Ty Tryz.prog 111 true 15 := ⟨by kernel_rfl, by kernel_rfl⟩
theorem aB5 : Ty Tryz.prog 146 false 1 := ⟨by kernel_rfl, by kernel_rfl⟩
theorem aBt : Ty Tryz.prog 152 true 12 := ⟨by kernel_rfl, by kernel_rfl⟩
theorem aB2 : Ty Tryz.prog 168 false 1 := ⟨by kernel_rfl, by kernel_rfl⟩
theorem cW : Ty Tryz.prog 170 true 4 := ⟨by kernel_rfl, by kernel_rfl⟩
theorem Lf : Ty Tryz.prog 193 false 1 := ⟨by kernel_rfl, by kernel_rfl⟩
theorem Qa : Ty Tryz.prog 194 false 1 := ⟨by kernel_rfl, by kernel_rfl⟩
theorem Xl : Ty Tryz.prog 196 false 1 := ⟨by kernel_rfl, by kernel_rfl⟩
theorem uO : Ty Tryz.prog 215 true 5 := ⟨by kernel_rfl, by kernel_rfl⟩
theorem aBj : Ty Tryz.prog 22 false 1 := ⟨by kernel_rfl, by kernel_rfl⟩
theorem aDb : Ty Tryz.prog 233 true 115 := ⟨by kernel_rfl, by kernel_rfl⟩
theorem aB4 : Ty Tryz.prog 237 false 1 := ⟨by kernel_rfl, by kernel_rfl⟩
theorem uK : Ty Tryz.prog 243 true 2 := ⟨by kernel_rfl, by kernel_rfl⟩
theorem aDu : Ty Tryz.prog 27 false 1 := ⟨by kernel_rfl, by kernel_rfl⟩
theorem aEc : Ty Tryz.prog 28 false 1 := ⟨by kernel_rfl, by kernel_rfl⟩
theorem aDz : Ty Tryz.prog 29 false 1 := ⟨by kernel_rfl, by kernel_rfl⟩
theorem jF : Ty Tryz.prog 3 false 1 := ⟨by kernel_rfl, by kernel_rfl⟩
theorem aEk : Ty Tryz.prog 31 true 3 := ⟨by kernel_rfl, by kernel_rfl⟩
theorem lJ : Ty Tryz.prog 34 true 2 := ⟨by kernel_rfl, by kernel_rfl⟩
theorem aEs : Ty Tryz.prog 35 false 1 := ⟨by kernel_rfl, by kernel_rfl⟩
theorem aFb : Ty Tryz.prog 37 true 4 := ⟨by kernel_rfl, by kernel_rfl⟩
theorem ty4 : Ty Tryz.prog 4 false 1 := ⟨by kernel_rfl, by kernel_rfl⟩
theorem aFa : Ty Tryz.prog 41 false 1 := ⟨by kernel_rfl, by kernel_rfl⟩
theorem aCt : Ty Tryz.prog 43 true 9 := ⟨by kernel_rfl, by kernel_rfl⟩
theorem Le : Ty Tryz.prog 48 true 11 := ⟨by kernel_rfl, by kernel_rfl⟩
theorem ty5 : Ty Tryz.prog 5 false 1 := ⟨by kernel_rfl, by kernel_rfl⟩
theorem aEr : Ty Tryz.prog 50 false 1 := ⟨by kernel_rfl, by kernel_rfl⟩
theorem xS : Ty Tryz.prog 58 false 1 := ⟨by kernel_rfl, by kernel_rfl⟩
theorem aD8 : Ty Tryz.prog 72 false 1 := ⟨by kernel_rfl, by kernel_rfl⟩
theorem aD1 : Ty Tryz.prog 79 false 1 := ⟨by kernel_rfl, by kernel_rfl⟩
theorem aFe : Ty Tryz.prog 81 true 5 := ⟨by kernel_rfl, by kernel_rfl⟩
theorem aBb : Ty Tryz.prog 89 false 1 := ⟨by kernel_rfl, by kernel_rfl⟩
theorem ty9 : Ty Tryz.prog 9 false 1 := ⟨by kernel_rfl, by kernel_rfl⟩
theorem aEq : Ty Tryz.prog 91 true 7 := ⟨by kernel_rfl, by kernel_rfl⟩
theorem aAl : Zt Tryz.prog 109 [.int .i64 0, .int .i64 0] := ⟨(.agg #[.int .i64 0, .int .i64 0]), by kernel_rfl, rfl, by decide⟩
theorem qV : Zt Tryz.prog 111 [.int .i64 0, .string ⟨#[]⟩, .string ⟨#[]⟩, .int .i64 0, .int .i64 0, .int .i64 0, .int .i64 0, .int .i64 0, .int .i64 0, .int .i64 0, .bool false, .int .i64 0, .slice none 0 0, .int .i64 0, .int .i64 0] := ⟨(.agg #[.int .i64 0, .string ⟨#[]⟩, .string ⟨#[]⟩, .int .i64 0, .int .i64 0, .int .i64 0, .int .i64 0, .int .i64 0, .int .i64 0, .int .i64 0, .bool false, .int .i64 0, .slice none 0 0, .int .i64 0, .int .i64 0]), by kernel_rfl, rfl, by decide⟩
theorem vO : Zt Tryz.prog 115 [.int .i64 0, .int .i64 0, .int .i64 0] := ⟨(.agg #[.int .i64 0, .int .i64 0, .int .i64 0]), by kernel_rfl, rfl, by decide⟩
theorem aCh : Zt Tryz.prog 126 [.int .i64 0, .string ⟨#[]⟩, .int .i64 0, .int .i64 0, .int .i64 0, .int .i64 0, .string ⟨#[]⟩, .int .i64 0, .int .i64 0, .int .i64 0, .string ⟨#[]⟩, .slice none 0 0] := ⟨(.agg #[.int .i64 0, .string ⟨#[]⟩, .int .i64 0, .int .i64 0, .int .i64 0, .int .i64 0, .string ⟨#[]⟩, .int .i64 0, .int .i64 0, .int .i64 0, .string ⟨#[]⟩, .slice none 0 0]), by kernel_rfl, rfl, by decide⟩
theorem Pm : Zt Tryz.prog 152 [.int .i64 0, .string ⟨#[]⟩, .int .i64 0, .int .i64 0, .int .i64 0, .int .i64 0, .int .i64 0, .int .i64 0, .int .i64 0, .int .i64 0, .int .i64 0, .int .i64 0] := ⟨(.agg #[.int .i64 0, .string ⟨#[]⟩, .int .i64 0, .int .i64 0, .int .i64 0, .int .i64 0, .int .i64 0, .int .i64 0, .int .i64 0, .int .i64 0, .int .i64 0, .int .i64 0]), by kernel_rfl, rfl, by decide⟩
theorem Yu : Zt Tryz.prog 170 [.int .i64 0, .slice none 0 0, .bool false, .slice none 0 0] := ⟨(.agg #[.int .i64 0, .slice none 0 0, .bool false, .slice none 0 0]), by kernel_rfl, rfl, by decide⟩
theorem Lv : Zt Tryz.prog 176 [.string ⟨#[]⟩, .int .i64 0] := ⟨(.agg #[.string ⟨#[]⟩, .int .i64 0]), by kernel_rfl, rfl, by decide⟩
theorem aCr : Zt Tryz.prog 194 [.nilFunc] := ⟨(.nilFunc), by kernel_rfl, rfl, by decide⟩
theorem L8 : Zt Tryz.prog 215 [.string ⟨#[]⟩, .int .i64 0, .int .i64 0, .slice none 0 0, .slice none 0 0] := ⟨(.agg #[.string ⟨#[]⟩, .int .i64 0, .int .i64 0, .slice none 0 0, .slice none 0 0]), by kernel_rfl, rfl, by decide⟩
theorem z22 : Zt Tryz.prog 22 [.slice none 0 0] := ⟨(.slice none 0 0), by kernel_rfl, rfl, by decide⟩
theorem aCm : Zt Tryz.prog 233 [.string ⟨#[]⟩, .int .i64 0, .int .i64 0, .slice none 0 0, .slice none 0 0, .string ⟨#[]⟩, .int .i64 0, .int .i64 0, .slice none 0 0, .slice none 0 0, .string ⟨#[]⟩, .int .i64 0, .int .i64 0, .slice none 0 0, .slice none 0 0, .string ⟨#[]⟩, .int .i64 0, .int .i64 0, .slice none 0 0, .slice none 0 0, .string ⟨#[]⟩, .int .i64 0, .int .i64 0, .slice none 0 0, .slice none 0 0, .string ⟨#[]⟩, .int .i64 0, .int .i64 0, .slice none 0 0, .slice none 0 0, .string ⟨#[]⟩, .int .i64 0, .int .i64 0, .slice none 0 0, .slice none 0 0, .string ⟨#[]⟩, .int .i64 0, .int .i64 0, .slice none 0 0, .slice none 0 0, .string ⟨#[]⟩, .int .i64 0, .int .i64 0, .slice none 0 0, .slice none 0 0, .string ⟨#[]⟩, .int .i64 0, .int .i64 0, .slice none 0 0, .slice none 0 0, .string ⟨#[]⟩, .int .i64 0, .int .i64 0, .slice none 0 0, .slice none 0 0, .string ⟨#[]⟩, .int .i64 0, .int .i64 0, .slice none 0 0, .slice none 0 0, .string ⟨#[]⟩, .int .i64 0, .int .i64 0, .slice none 0 0, .slice none 0 0, .string ⟨#[]⟩, .int .i64 0, .int .i64 0, .slice none 0 0, .slice none 0 0, .string ⟨#[]⟩, .int .i64 0, .int .i64 0, .slice none 0 0, .slice none 0 0, .string ⟨#[]⟩, .int .i64 0, .int .i64 0, .slice none 0 0, .slice none 0 0, .string ⟨#[]⟩, .int .i64 0, .int .i64 0, .slice none 0 0, .slice none 0 0, .string ⟨#[]⟩, .int .i64 0, .int .i64 0, .slice none 0 0, .slice none 0 0, .string ⟨#[]⟩, .int .i64 0, .int .i64 0, .slice none 0 0, .slice none 0 0, .string ⟨#[]⟩, .int .i64 0, .int .i64 0, .slice none 0 0, .slice none 0 0, .string ⟨#[]⟩, .int .i64 0, .int .i64 0, .slice none 0 0, .slice none 0 0, .string ⟨#[]⟩, .int .i64 0, .int .i64 0, .slice none 0 0, .slice none 0 0, .string ⟨#[]⟩, .int .i64 0, .int .i64 0, .slice none 0 0, .slice none 0 0] := ⟨(.agg #[.string ⟨#[]⟩, .int .i64 0, .int .i64 0, .slice none 0 0, .slice none 0 0, .string ⟨#[]⟩, .int .i64 0, .int .i64 0, .slice none 0 0, .slice none 0 0, .string ⟨#[]⟩, .int .i64 0, .int .i64 0, .slice none 0 0, .slice none 0 0, .string ⟨#[]⟩, .int .i64 0, .int .i64 0, .slice none 0 0, .slice none 0 0, .string ⟨#[]⟩, .int .i64 0, .int .i64 0, .slice none 0 0, .slice none 0 0, .string ⟨#[]⟩, .int .i64 0, .int .i64 0, .slice none 0 0, .slice none 0 0, .string ⟨#[]⟩, .int .i64 0, .int .i64 0, .slice none 0 0, .slice none 0 0, .string ⟨#[]⟩, .int .i64 0, .int .i64 0, .slice none 0 0, .slice none 0 0, .string ⟨#[]⟩, .int .i64 0, .int .i64 0, .slice none 0 0, .slice none 0 0, .string ⟨#[]⟩, .int .i64 0, .int .i64 0, .slice none 0 0, .slice none 0 0, .string ⟨#[]⟩, .int .i64 0, .int .i64 0, .slice none 0 0, .slice none 0 0, .string ⟨#[]⟩, .int .i64 0, .int .i64 0, .slice none 0 0, .slice none 0 0, .string ⟨#[]⟩, .int .i64 0, .int .i64 0, .slice none 0 0, .slice none 0 0, .string ⟨#[]⟩, .int .i64 0, .int .i64 0, .slice none 0 0, .slice none 0 0, .string ⟨#[]⟩, .int .i64 0, .int .i64 0, .slice none 0 0, .slice none 0 0, .string ⟨#[]⟩, .int .i64 0, .int .i64 0, .slice none 0 0, .slice none 0 0, .string ⟨#[]⟩, .int .i64 0, .int .i64 0, .slice none 0 0, .slice none 0 0, .string ⟨#[]⟩, .int .i64 0, .int .i64 0, .slice none 0 0, .slice none 0 0, .string ⟨#[]⟩, .int .i64 0, .int .i64 0, .slice none 0 0, .slice none 0 0, .string ⟨#[]⟩, .int .i64 0, .int .i64 0, .slice none 0 0, .slice none 0 0, .string ⟨#[]⟩, .int .i64 0, .int .i64 0, .slice none 0 0, .slice none 0 0, .string ⟨#[]⟩, .int .i64 0, .int .i64 0, .slice none 0 0, .slice none 0 0, .string ⟨#[]⟩, .int .i64 0, .int .i64 0, .slice none 0 0, .slice none 0 0]), by kernel_rfl, rfl, by decide⟩
theorem aEi : Zt Tryz.prog 237 [.int .u64 0] := ⟨(.int .u64 0), by kernel_rfl, rfl, by decide⟩
theorem kI : Zt Tryz.prog 243 [.int .i64 0, .int .i64 0] := ⟨(.agg #[.int .i64 0, .int .i64 0]), by kernel_rfl, rfl, by decide⟩
theorem aAy : Zt Tryz.prog 244 [.int .i64 0, .int .i64 0, .int .i64 0, .int .i64 0, .int .i64 0, .int .i64 0, .int .i64 0, .int .i64 0, .int .i64 0, .int .i64 0] := ⟨(.agg #[.int .i64 0, .int .i64 0, .int .i64 0, .int .i64 0, .int .i64 0, .int .i64 0, .int .i64 0, .int .i64 0, .int .i64 0, .int .i64 0]), by kernel_rfl, rfl, by decide⟩
theorem z3 : Zt Tryz.prog 3 [.int .i64 0] := ⟨(.int .i64 0), by kernel_rfl, rfl, by decide⟩
theorem z31 : Zt Tryz.prog 31 [.slice none 0 0, .slice none 0 0, .slice none 0 0] := ⟨(.agg #[.slice none 0 0, .slice none 0 0, .slice none 0 0]), by kernel_rfl, rfl, by decide⟩
theorem Ym : Zt Tryz.prog 34 [.int .i64 0, .int .i64 0] := ⟨(.agg #[.int .i64 0, .int .i64 0]), by kernel_rfl, rfl, by decide⟩
theorem z37 : Zt Tryz.prog 37 [.int .i64 0, .int .i64 0, .int .i64 0, .slice none 0 0] := ⟨(.agg #[.int .i64 0, .int .i64 0, .int .i64 0, .slice none 0 0]), by kernel_rfl, rfl, by decide⟩
theorem z43 : Zt Tryz.prog 43 [.string ⟨#[]⟩, .int .i64 0, .int .i64 0, .slice none 0 0, .bool false, .slice none 0 0, .slice none 0 0, .slice none 0 0, .bool false] := ⟨(.agg #[.string ⟨#[]⟩, .int .i64 0, .int .i64 0, .slice none 0 0, .bool false, .slice none 0 0, .slice none 0 0, .slice none 0 0, .bool false]), by kernel_rfl, rfl, by decide⟩
theorem yU : Zt Tryz.prog 48 [.int .i64 0, .string ⟨#[]⟩, .int .i64 0, .int .i64 0, .int .i64 0, .int .i64 0, .string ⟨#[]⟩, .int .i64 0, .int .i64 0, .int .i64 0, .string ⟨#[]⟩] := ⟨(.agg #[.int .i64 0, .string ⟨#[]⟩, .int .i64 0, .int .i64 0, .int .i64 0, .int .i64 0, .string ⟨#[]⟩, .int .i64 0, .int .i64 0, .int .i64 0, .string ⟨#[]⟩]), by kernel_rfl, rfl, by decide⟩
theorem z5 : Zt Tryz.prog 5 [.int .u8 0] := ⟨(.int .u8 0), by kernel_rfl, rfl, by decide⟩
theorem z71 : Zt Tryz.prog 71 [.slice none 0 0, .int .i64 0] := ⟨(.agg #[.slice none 0 0, .int .i64 0]), by kernel_rfl, rfl, by decide⟩
theorem z78 : Zt Tryz.prog 78 [.int .i64 0, .int .i64 0] := ⟨(.agg #[.int .i64 0, .int .i64 0]), by kernel_rfl, rfl, by decide⟩
theorem z81 : Zt Tryz.prog 81 [.string ⟨#[]⟩, .int .i64 0, .int .i64 0, .slice none 0 0, .int .i64 0] := ⟨(.agg #[.string ⟨#[]⟩, .int .i64 0, .int .i64 0, .slice none 0 0, .int .i64 0]), by kernel_rfl, rfl, by decide⟩
theorem z89 : Zt Tryz.prog 89 [.map none] := ⟨(.map none), by kernel_rfl, rfl, by decide⟩
theorem z9 : Zt Tryz.prog 9 [.string ⟨#[]⟩] := ⟨(.string ⟨#[]⟩), by kernel_rfl, rfl, by decide⟩
theorem z91 : Zt Tryz.prog 91 [.string ⟨#[]⟩, .int .i64 0, .int .i64 0, .int .i64 0, .int .i64 0, .int .i64 0, .string ⟨#[]⟩] := ⟨(.agg #[.string ⟨#[]⟩, .int .i64 0, .int .i64 0, .int .i64 0, .int .i64 0, .int .i64 0, .string ⟨#[]⟩]), by kernel_rfl, rfl, by decide⟩
theorem aCi : Iv Tryz.prog 20 111 = [none, none, none, none, none, none, none, none, none, none, none, none, some 1, none, none] := by kernel_rfl
theorem aDh : Iv Tryz.prog 20 115 = [none, none, none] := by kernel_rfl
theorem aCw : Iv Tryz.prog 20 152 = [none, none, none, none, none, none, none, none, none, none, none, none] := by kernel_rfl
theorem iF : Iv Tryz.prog 20 170 = [none, some 1, none, some 4] := by kernel_rfl
theorem aCq : Iv Tryz.prog 20 176 = [none, none] := by kernel_rfl
theorem aEv : Iv Tryz.prog 20 22 = [some 1] := by kernel_rfl
theorem Mi : Iv Tryz.prog 20 3 = [none] := by kernel_rfl
theorem aFf : Iv Tryz.prog 20 34 = [none, none] := by kernel_rfl
theorem aEo : Iv Tryz.prog 20 37 = [none, none, none, some 15] := by kernel_rfl
theorem aD0 : Iv Tryz.prog 20 43 = [none, none, none, some 1, none, some 4, some 1, some 1, none] := by kernel_rfl
theorem Jh : Iv Tryz.prog 20 48 = [none, none, none, none, none, none, none, none, none, none, none] := by kernel_rfl
theorem qP : Iv Tryz.prog 20 5 = [none] := by kernel_rfl
theorem aCd : Iv Tryz.prog 20 78 = [none, none] := by kernel_rfl
theorem aEh : Iv Tryz.prog 20 81 = [none, none, none, some 3, none] := by kernel_rfl
theorem ck9 : Iv Tryz.prog 20 9 = [none] := by kernel_rfl
theorem aEw (s : ByteArray) (c : UInt8) (w : World) : (callFunc 212 [.string s, .int .u8 (c.toNat : Int)].toArray).run Tryz.prog w = .ok (.value (.int .i64 (bJ s c))) w := mW Tryz.func212 rfl rfl (by kernel_rfl) (by kernel_rfl) s c w
theorem aD4 (a b : ByteArray) (w : World) : (callFunc 211 [.string a, .string b].toArray).run Tryz.prog w = .ok (.value (.int .i64 (kH a b))) w := nQ Tryz.func211 rfl rfl (by kernel_rfl) (by kernel_rfl) a b w
theorem aEg : Tryz.prog.eqGuardType Tryz.prog.depth 34 = false := by kernel_rfl
theorem xA : Tryz.prog.underlying 34 = some (.struct (Tryz.prog.fieldsOf 34)) := by kernel_rfl
theorem vZ : Tryz.prog.stoodInHeld 34 = false := by kernel_rfl
theorem aE9 (x y : Aw) (w : World) : (Op.equalIn 10000 34 (.agg #[.int .i64 x.Alg, .int .i64 x.Bits]) (.agg #[.int .i64 y.Alg, .int .i64 y.Bits])).run Tryz.prog w = .ok (decide (x = y)) w := by
 have u3 := Tryz.underlying3
 have a3 := Tryz.isAgg3
 have z3 := Tryz.sizeOf3
 rw [show (10000 : Nat) = 9999 + 1 from rfl, run_equalIn_agg w 9999 34 _ _ xA vZ]
 simp only [Program.fieldsOf, Tryz.underlying34]
 go_simp
 rcases x with ⟨x0, x1⟩
 rcases y with ⟨y0, y1⟩
 by_cases h0 : x0 = y0 <;> by_cases h1 : x1 = y1 <;> simp [h0, h1]
theorem Pq (x y : Aw) {X Y : Operand} {tk : Nat} {yt ty : TypeId} {b1 b2 : Option LB} : Ex Tryz.prog tk (.binOp .eql 34 X Y yt) ty [(.agg [.val (.int .i64 x.Alg), .val (.int .i64 x.Bits)], b1), (.agg [.val (.int .i64 y.Alg), .val (.int .i64 y.Bits)], b2)] [] (v0 (.val (.bool (decide (x = y))))) :=
 .binOpA rfl rfl (fun _ _ => rfl) (fun w => by
  rw [Sem.run_bind, run_eqGuard_agg w _ 34 X Y _ _ aEg]
  simp only [Result.andThen_ok, run_eql_struct]
  exact congrArg (fun r => Result.andThen r _) (aE9 x y w))
theorem aAt : Tryz.prog.eqGuardType Tryz.prog.depth 48 = false := by kernel_rfl
theorem aEb : Tryz.prog.underlying 48 = some (.struct (Tryz.prog.fieldsOf 48)) := by kernel_rfl
theorem aDw : Tryz.prog.stoodInHeld 48 = false := by kernel_rfl
theorem aCv (x y : Aa) (w : World) : (Op.equalIn 10000 48 (.agg #[.int .i64 x.Source, .string x.Host, .int .i64 x.Machine, .int .i64 x.Day, .int .i64 x.Confidence, .int .i64 x.Kind, .string x.Subject, .int .i64 x.Use.Alg, .int .i64 x.Use.Bits, .int .i64 x.Number, .string x.Text]) (.agg #[.int .i64 y.Source, .string y.Host, .int .i64 y.Machine, .int .i64 y.Day, .int .i64 y.Confidence, .int .i64 y.Kind, .string y.Subject, .int .i64 y.Use.Alg, .int .i64 y.Use.Bits, .int .i64 y.Number, .string y.Text])).run Tryz.prog w = .ok (decide (x = y)) w := by
 have u3 := Tryz.underlying3
 have a3 := Tryz.isAgg3
 have z3 := Tryz.sizeOf3
 have u9 := Tryz.underlying9
 have a9 := Tryz.isAgg9
 have z9 := Tryz.sizeOf9
 have u34 := Tryz.underlying34
 have a34 := Tryz.isAgg34
 have Ym := Tryz.sizeOf34
 have f34 := xA
 have h34 := vZ
 rw [show (10000 : Nat) = 9999 + 1 from rfl, run_equalIn_agg w 9999 48 _ _ aEb aDw]
 simp only [Program.fieldsOf, Tryz.underlying48]
 go_simp
 rcases x with ⟨x0, x1, x2, x3, x4, x5, x6, ⟨x7, x8⟩, x9, x10⟩
 rcases y with ⟨y0, y1, y2, y3, y4, y5, y6, ⟨y7, y8⟩, y9, y10⟩
 simp only [Wy]
 by_cases q0 : ¬ x0 = y0
 ·simp [q0]
 rw [Decidable.not_not] at q0
 subst q0
 by_cases q1 : ¬ x1 = y1
 ·simp [q1]
 rw [Decidable.not_not] at q1
 subst q1
 by_cases q2 : ¬ x2 = y2
 ·simp [q2]
 rw [Decidable.not_not] at q2
 subst q2
 by_cases q3 : ¬ x3 = y3
 ·simp [q3]
 rw [Decidable.not_not] at q3
 subst q3
 by_cases q4 : ¬ x4 = y4
 ·simp [q4]
 rw [Decidable.not_not] at q4
 subst q4
 by_cases q5 : ¬ x5 = y5
 ·simp [q5]
 rw [Decidable.not_not] at q5
 subst q5
 by_cases q6 : ¬ x6 = y6
 ·simp [q6]
 rw [Decidable.not_not] at q6
 subst q6
 by_cases q7 : ¬ x7 = y7
 ·simp [q7]
 rw [Decidable.not_not] at q7
 subst q7
 by_cases q8 : ¬ x8 = y8
 ·simp [q8]
 rw [Decidable.not_not] at q8
 subst q8
 by_cases q9 : ¬ x9 = y9
 ·simp [q9]
 rw [Decidable.not_not] at q9
 subst q9
 by_cases q10 : ¬ x10 = y10
 ·simp [q10]
 rw [Decidable.not_not] at q10
 subst q10
 simp
theorem gK (x y : Aa) {X Y : Operand} {tk : Nat} {yt ty : TypeId} {b1 b2 : Option LB} : Ex Tryz.prog tk (.binOp .eql 48 X Y yt) ty [(.agg [.val (.int .i64 x.Source), .val (.string x.Host), .val (.int .i64 x.Machine), .val (.int .i64 x.Day), .val (.int .i64 x.Confidence), .val (.int .i64 x.Kind), .val (.string x.Subject), .val (.int .i64 x.Use.Alg), .val (.int .i64 x.Use.Bits), .val (.int .i64 x.Number), .val (.string x.Text)], b1), (.agg [.val (.int .i64 y.Source), .val (.string y.Host), .val (.int .i64 y.Machine), .val (.int .i64 y.Day), .val (.int .i64 y.Confidence), .val (.int .i64 y.Kind), .val (.string y.Subject), .val (.int .i64 y.Use.Alg), .val (.int .i64 y.Use.Bits), .val (.int .i64 y.Number), .val (.string y.Text)], b2)] [] (v0 (.val (.bool (decide (x = y))))) :=
 .binOpA rfl rfl (fun _ _ => rfl) (fun w => by
  rw [Sem.run_bind, run_eqGuard_agg w _ 48 X Y _ _ aAt]
  simp only [Result.andThen_ok, run_eql_struct]
  exact congrArg (fun r => Result.andThen r _) (aCv x y w))
theorem eO (x y : Aa) {X Y : Operand} {tk : Nat} {yt ty : TypeId} {b1 b2 : Option LB} : Ex Tryz.prog tk (.binOp .neq 48 X Y yt) ty [(.agg [.val (.int .i64 x.Source), .val (.string x.Host), .val (.int .i64 x.Machine), .val (.int .i64 x.Day), .val (.int .i64 x.Confidence), .val (.int .i64 x.Kind), .val (.string x.Subject), .val (.int .i64 x.Use.Alg), .val (.int .i64 x.Use.Bits), .val (.int .i64 x.Number), .val (.string x.Text)], b1), (.agg [.val (.int .i64 y.Source), .val (.string y.Host), .val (.int .i64 y.Machine), .val (.int .i64 y.Day), .val (.int .i64 y.Confidence), .val (.int .i64 y.Kind), .val (.string y.Subject), .val (.int .i64 y.Use.Alg), .val (.int .i64 y.Use.Bits), .val (.int .i64 y.Number), .val (.string y.Text)], b2)] [] (v0 (.val (.bool (!decide (x = y))))) :=
 .binOpA rfl rfl (fun _ _ => rfl) (fun w => by
  rw [Sem.run_bind, run_eqGuard_agg w _ 48 X Y _ _ aAt]
  simp only [Result.andThen_ok, run_neq_struct]
  exact congrArg (fun r => Result.andThen r _) (aCv x y w))
theorem aBs : Tryz.prog.underlying 91 = some (.struct (Tryz.prog.fieldsOf 91)) := by kernel_rfl
theorem aE7 : Tryz.prog.stoodInHeld 91 = false := by kernel_rfl
theorem aEl (x y : Cu) (w : World) : (Op.equalIn 10000 91 (.agg #[.string x.host, .int .i64 x.day, .int .i64 x.kind, .int .i64 x.use.Alg, .int .i64 x.use.Bits, .int .i64 x.number, .string x.text]) (.agg #[.string y.host, .int .i64 y.day, .int .i64 y.kind, .int .i64 y.use.Alg, .int .i64 y.use.Bits, .int .i64 y.number, .string y.text])).run Tryz.prog w = .ok (decide (x = y)) w := by
 have u3 := Tryz.underlying3
 have a3 := Tryz.isAgg3
 have z3 := Tryz.sizeOf3
 have u9 := Tryz.underlying9
 have a9 := Tryz.isAgg9
 have z9 := Tryz.sizeOf9
 have u34 := Tryz.underlying34
 have a34 := Tryz.isAgg34
 have Ym := Tryz.sizeOf34
 have f34 := xA
 have h34 := vZ
 rw [show (10000 : Nat) = 9999 + 1 from rfl, run_equalIn_agg w 9999 91 _ _ aBs aE7]
 simp only [Program.fieldsOf, Tryz.underlying91]
 go_simp
 rcases x with ⟨x0, x1, x2, ⟨x3, x4⟩, x5, x6⟩
 rcases y with ⟨y0, y1, y2, ⟨y3, y4⟩, y5, y6⟩
 simp only [Wy]
 by_cases q0 : ¬ x0 = y0
 ·simp [q0]
 rw [Decidable.not_not] at q0
 subst q0
 by_cases q1 : ¬ x1 = y1
 ·simp [q1]
 rw [Decidable.not_not] at q1
 subst q1
 by_cases q2 : ¬ x2 = y2
 ·simp [q2]
 rw [Decidable.not_not] at q2
 subst q2
 by_cases q3 : ¬ x3 = y3
 ·simp [q3]
 rw [Decidable.not_not] at q3
 subst q3
 by_cases q4 : ¬ x4 = y4
 ·simp [q4]
 rw [Decidable.not_not] at q4
 subst q4
 by_cases q5 : ¬ x5 = y5
 ·simp [q5]
 rw [Decidable.not_not] at q5
 subst q5
 by_cases q6 : ¬ x6 = y6
 ·simp [q6]
 rw [Decidable.not_not] at q6
 subst q6
 simp
theorem oW : Tryz.prog.underlying 89 = some (.map 91 4) := by kernel_rfl
abbrev S2 (x : Cu) : Value := .agg #[.string x.host, .int .i64 x.day, .int .i64 x.kind, .int .i64 x.use.Alg, .int .i64 x.use.Bits, .int .i64 x.number, .string x.text]
theorem zv4 (w : World) : (zeroValue 4).run Tryz.prog w = .ok (.bool false) w := aC2 (by kernel_rfl) w
theorem mE : aV Tryz.prog 91 S2 := aEa (by kernel_rfl) (fun x => ⟨_, rfl⟩) (fun e x w => pV aBs (by
  simp only [Program.fieldsOf, Tryz.underlying91]
  intro f hf
  simp at hf
  rcases hf with rfl | rfl | rfl | rfl | rfl | rfl
  · exact .inl ⟨by kernel_rfl, _, rfl⟩
  · exact .inl ⟨by kernel_rfl, _, rfl⟩
  · exact .inl ⟨by kernel_rfl, _, rfl⟩
  · exact .inr ⟨_, 2, Tryz.underlying34, by kernel_rfl, by kernel_rfl, by intro g G; simp at G; rcases G with rfl | rfl <;> exact ⟨by kernel_rfl, _, rfl⟩⟩
  · exact .inl ⟨by kernel_rfl, _, rfl⟩
  · exact .inl ⟨by kernel_rfl, _, rfl⟩)) (fun x y w => aEl x y w) (fun x => by simp [Instr.sameBits, aBo])
instance : Kd Tryz.prog 109 0 0 3 := ⟨rG⟩
instance : Kd Tryz.prog 109 1 1 3 := ⟨rU⟩
instance : Kd Tryz.prog 111 0 0 3 := ⟨tO⟩
instance : Kd Tryz.prog 111 1 1 9 := ⟨tV⟩
instance : Kd Tryz.prog 111 10 12 72 := ⟨nV⟩
instance : Kd Tryz.prog 111 11 13 109 := ⟨pZ⟩
instance : Kd Tryz.prog 111 2 2 9 := ⟨sU⟩
instance : Kd Tryz.prog 111 3 3 34 := ⟨hO⟩
instance : Kd Tryz.prog 111 4 5 3 := ⟨iY⟩
instance : Kd Tryz.prog 111 5 6 34 := ⟨sJ⟩
instance : Kd Tryz.prog 111 6 8 3 := ⟨sL⟩
instance : Kd Tryz.prog 111 7 9 3 := ⟨rR⟩
instance : Kd Tryz.prog 111 8 10 4 := ⟨tP⟩
instance : Kd Tryz.prog 111 9 11 3 := ⟨sT⟩
instance : Kd Tryz.prog 115 1 2 3 := ⟨tU⟩
instance : Kd Tryz.prog 126 0 0 48 := ⟨sM⟩
instance : Kd Tryz.prog 126 1 11 50 := ⟨sF⟩
instance : Kd Tryz.prog 152 0 0 3 := ⟨tC⟩
instance : Kd Tryz.prog 170 0 0 3 := ⟨sS⟩
instance : Kd Tryz.prog 170 1 1 146 := ⟨tM⟩
instance : Kd Tryz.prog 170 2 2 4 := ⟨sH⟩
instance : Kd Tryz.prog 170 3 3 168 := ⟨sC⟩
instance : Kd Tryz.prog 176 1 1 3 := ⟨hZ⟩
instance : Kd Tryz.prog 215 1 1 3 := ⟨rN⟩
instance : Kd Tryz.prog 215 2 2 3 := ⟨qT⟩
instance : Kd Tryz.prog 215 3 3 22 := ⟨sY⟩
instance : Kd Tryz.prog 215 4 4 22 := ⟨rT⟩
instance : Kd Tryz.prog 31 0 0 27 := ⟨wT⟩
instance : Kd Tryz.prog 31 1 1 28 := ⟨vU⟩
instance : Kd Tryz.prog 31 2 2 29 := ⟨zQ⟩
instance : Kd Tryz.prog 34 0 0 3 := ⟨wH⟩
instance : Kd Tryz.prog 34 1 1 3 := ⟨zY⟩
instance : Kd Tryz.prog 37 0 0 34 := ⟨vX⟩
instance : Kd Tryz.prog 37 1 2 3 := ⟨vW⟩
instance : Kd Tryz.prog 37 2 3 35 := ⟨aAj⟩
instance : Kd Tryz.prog 43 0 0 9 := ⟨wY⟩
instance : Kd Tryz.prog 43 1 1 3 := ⟨yA⟩
instance : Kd Tryz.prog 43 2 2 3 := ⟨aAp⟩
instance : Kd Tryz.prog 43 3 3 22 := ⟨yN⟩
instance : Kd Tryz.prog 43 5 5 41 := ⟨aAg⟩
instance : Kd Tryz.prog 43 6 6 22 := ⟨vM⟩
instance : Kd Tryz.prog 43 7 7 22 := ⟨yY⟩
instance : Kd Tryz.prog 48 0 0 3 := ⟨xJ⟩
instance : Kd Tryz.prog 48 1 1 9 := ⟨wU⟩
instance : Kd Tryz.prog 48 2 2 3 := ⟨xE⟩
instance : Kd Tryz.prog 48 3 3 3 := ⟨mL⟩
instance : Kd Tryz.prog 48 4 4 3 := ⟨wG⟩
instance : Kd Tryz.prog 48 5 5 3 := ⟨xU⟩
instance : Kd Tryz.prog 48 6 6 9 := ⟨yK⟩
instance : Kd Tryz.prog 48 7 7 34 := ⟨nE⟩
instance : Kd Tryz.prog 48 8 9 3 := ⟨nO⟩
instance : Kd Tryz.prog 48 9 10 9 := ⟨xB⟩
instance : Kd Tryz.prog 71 0 0 22 := ⟨zC⟩
instance : Kd Tryz.prog 71 1 1 3 := ⟨yJ⟩
instance : Kd Tryz.prog 81 3 3 79 := ⟨yL⟩
instance : Kd Tryz.prog 81 4 4 3 := ⟨aAd⟩
instance : Zd Tryz.prog 146 5 1 1 := ⟨Kk⟩
instance : Zd Tryz.prog 168 170 4 64 := ⟨Xb⟩
instance : Zd Tryz.prog 173 152 12 104 := ⟨uY⟩
instance : Zd Tryz.prog 177 176 2 24 := ⟨uX⟩
instance : Zd Tryz.prog 199 194 1 8 := ⟨N1⟩
instance : Zd Tryz.prog 22 3 1 8 := ⟨G6⟩
instance : Zd Tryz.prog 27 43 9 144 := ⟨zL⟩
instance : Zd Tryz.prog 28 78 2 16 := ⟨sK⟩
instance : Zd Tryz.prog 29 81 5 64 := ⟨yD⟩
instance : Zd Tryz.prog 35 111 15 152 := ⟨aC8⟩
instance : Zd Tryz.prog 41 37 4 48 := ⟨aBd⟩
instance : Zd Tryz.prog 50 48 11 112 := ⟨Qe⟩
instance : Zd Tryz.prog 72 9 1 16 := ⟨Yk⟩
instance : Zd Tryz.prog 74 22 1 24 := ⟨aBg⟩
instance : Zd Tryz.prog 79 115 3 24 := ⟨aAa⟩
instance : Zd Tryz.prog 84 34 2 16 := ⟨aCy⟩
instance : Nf Tryz.prog 109 true 2 := ⟨aA5⟩
instance : Nf Tryz.prog 111 true 15 := ⟨aCz⟩
instance : Nf Tryz.prog 146 false 1 := ⟨aB5⟩
instance : Nf Tryz.prog 152 true 12 := ⟨aBt⟩
instance : Nf Tryz.prog 168 false 1 := ⟨aB2⟩
instance : Nf Tryz.prog 170 true 4 := ⟨cW⟩
instance : Nf Tryz.prog 193 false 1 := ⟨Lf⟩
instance : Nf Tryz.prog 194 false 1 := ⟨Qa⟩
instance : Nf Tryz.prog 196 false 1 := ⟨Xl⟩
instance : Nf Tryz.prog 215 true 5 := ⟨uO⟩
instance : Nf Tryz.prog 22 false 1 := ⟨aBj⟩
instance : Nf Tryz.prog 233 true 115 := ⟨aDb⟩
instance : Nf Tryz.prog 237 false 1 := ⟨aB4⟩
instance : Nf Tryz.prog 243 true 2 := ⟨uK⟩
instance : Nf Tryz.prog 27 false 1 := ⟨aDu⟩
instance : Nf Tryz.prog 28 false 1 := ⟨aEc⟩
instance : Nf Tryz.prog 29 false 1 := ⟨aDz⟩
instance : Nf Tryz.prog 3 false 1 := ⟨jF⟩
instance : Nf Tryz.prog 31 true 3 := ⟨aEk⟩
instance : Nf Tryz.prog 34 true 2 := ⟨lJ⟩
instance : Nf Tryz.prog 35 false 1 := ⟨aEs⟩
instance : Nf Tryz.prog 37 true 4 := ⟨aFb⟩
instance : Nf Tryz.prog 4 false 1 := ⟨ty4⟩
instance : Nf Tryz.prog 41 false 1 := ⟨aFa⟩
instance : Nf Tryz.prog 43 true 9 := ⟨aCt⟩
instance : Nf Tryz.prog 48 true 11 := ⟨Le⟩
instance : Nf Tryz.prog 5 false 1 := ⟨ty5⟩
instance : Nf Tryz.prog 50 false 1 := ⟨aEr⟩
instance : Nf Tryz.prog 58 false 1 := ⟨xS⟩
instance : Nf Tryz.prog 72 false 1 := ⟨aD8⟩
instance : Nf Tryz.prog 79 false 1 := ⟨aD1⟩
instance : Nf Tryz.prog 81 true 5 := ⟨aFe⟩
instance : Nf Tryz.prog 89 false 1 := ⟨aBb⟩
instance : Nf Tryz.prog 9 false 1 := ⟨ty9⟩
instance : Nf Tryz.prog 91 true 7 := ⟨aEq⟩
instance : Ue Tryz.prog 109 [.int .i64 0, .int .i64 0] := ⟨aAl⟩
instance : Ue Tryz.prog 111 [.int .i64 0, .string ⟨#[]⟩, .string ⟨#[]⟩, .int .i64 0, .int .i64 0, .int .i64 0, .int .i64 0, .int .i64 0, .int .i64 0, .int .i64 0, .bool false, .int .i64 0, .slice none 0 0, .int .i64 0, .int .i64 0] := ⟨qV⟩
instance : Ue Tryz.prog 115 [.int .i64 0, .int .i64 0, .int .i64 0] := ⟨vO⟩
instance : Ue Tryz.prog 126 [.int .i64 0, .string ⟨#[]⟩, .int .i64 0, .int .i64 0, .int .i64 0, .int .i64 0, .string ⟨#[]⟩, .int .i64 0, .int .i64 0, .int .i64 0, .string ⟨#[]⟩, .slice none 0 0] := ⟨aCh⟩
instance : Ue Tryz.prog 152 [.int .i64 0, .string ⟨#[]⟩, .int .i64 0, .int .i64 0, .int .i64 0, .int .i64 0, .int .i64 0, .int .i64 0, .int .i64 0, .int .i64 0, .int .i64 0, .int .i64 0] := ⟨Pm⟩
instance : Ue Tryz.prog 170 [.int .i64 0, .slice none 0 0, .bool false, .slice none 0 0] := ⟨Yu⟩
instance : Ue Tryz.prog 176 [.string ⟨#[]⟩, .int .i64 0] := ⟨Lv⟩
instance : Ue Tryz.prog 194 [.nilFunc] := ⟨aCr⟩
instance : Ue Tryz.prog 215 [.string ⟨#[]⟩, .int .i64 0, .int .i64 0, .slice none 0 0, .slice none 0 0] := ⟨L8⟩
instance : Ue Tryz.prog 22 [.slice none 0 0] := ⟨z22⟩
instance : Ue Tryz.prog 233 [.string ⟨#[]⟩, .int .i64 0, .int .i64 0, .slice none 0 0, .slice none 0 0, .string ⟨#[]⟩, .int .i64 0, .int .i64 0, .slice none 0 0, .slice none 0 0, .string ⟨#[]⟩, .int .i64 0, .int .i64 0, .slice none 0 0, .slice none 0 0, .string ⟨#[]⟩, .int .i64 0, .int .i64 0, .slice none 0 0, .slice none 0 0, .string ⟨#[]⟩, .int .i64 0, .int .i64 0, .slice none 0 0, .slice none 0 0, .string ⟨#[]⟩, .int .i64 0, .int .i64 0, .slice none 0 0, .slice none 0 0, .string ⟨#[]⟩, .int .i64 0, .int .i64 0, .slice none 0 0, .slice none 0 0, .string ⟨#[]⟩, .int .i64 0, .int .i64 0, .slice none 0 0, .slice none 0 0, .string ⟨#[]⟩, .int .i64 0, .int .i64 0, .slice none 0 0, .slice none 0 0, .string ⟨#[]⟩, .int .i64 0, .int .i64 0, .slice none 0 0, .slice none 0 0, .string ⟨#[]⟩, .int .i64 0, .int .i64 0, .slice none 0 0, .slice none 0 0, .string ⟨#[]⟩, .int .i64 0, .int .i64 0, .slice none 0 0, .slice none 0 0, .string ⟨#[]⟩, .int .i64 0, .int .i64 0, .slice none 0 0, .slice none 0 0, .string ⟨#[]⟩, .int .i64 0, .int .i64 0, .slice none 0 0, .slice none 0 0, .string ⟨#[]⟩, .int .i64 0, .int .i64 0, .slice none 0 0, .slice none 0 0, .string ⟨#[]⟩, .int .i64 0, .int .i64 0, .slice none 0 0, .slice none 0 0, .string ⟨#[]⟩, .int .i64 0, .int .i64 0, .slice none 0 0, .slice none 0 0, .string ⟨#[]⟩, .int .i64 0, .int .i64 0, .slice none 0 0, .slice none 0 0, .string ⟨#[]⟩, .int .i64 0, .int .i64 0, .slice none 0 0, .slice none 0 0, .string ⟨#[]⟩, .int .i64 0, .int .i64 0, .slice none 0 0, .slice none 0 0, .string ⟨#[]⟩, .int .i64 0, .int .i64 0, .slice none 0 0, .slice none 0 0, .string ⟨#[]⟩, .int .i64 0, .int .i64 0, .slice none 0 0, .slice none 0 0, .string ⟨#[]⟩, .int .i64 0, .int .i64 0, .slice none 0 0, .slice none 0 0] := ⟨aCm⟩
instance : Ue Tryz.prog 237 [.int .u64 0] := ⟨aEi⟩
instance : Ue Tryz.prog 243 [.int .i64 0, .int .i64 0] := ⟨kI⟩
instance : Ue Tryz.prog 244 [.int .i64 0, .int .i64 0, .int .i64 0, .int .i64 0, .int .i64 0, .int .i64 0, .int .i64 0, .int .i64 0, .int .i64 0, .int .i64 0] := ⟨aAy⟩
instance : Ue Tryz.prog 3 [.int .i64 0] := ⟨z3⟩
instance : Ue Tryz.prog 31 [.slice none 0 0, .slice none 0 0, .slice none 0 0] := ⟨z31⟩
instance : Ue Tryz.prog 34 [.int .i64 0, .int .i64 0] := ⟨Ym⟩
instance : Ue Tryz.prog 37 [.int .i64 0, .int .i64 0, .int .i64 0, .slice none 0 0] := ⟨z37⟩
instance : Ue Tryz.prog 43 [.string ⟨#[]⟩, .int .i64 0, .int .i64 0, .slice none 0 0, .bool false, .slice none 0 0, .slice none 0 0, .slice none 0 0, .bool false] := ⟨z43⟩
instance : Ue Tryz.prog 48 [.int .i64 0, .string ⟨#[]⟩, .int .i64 0, .int .i64 0, .int .i64 0, .int .i64 0, .string ⟨#[]⟩, .int .i64 0, .int .i64 0, .int .i64 0, .string ⟨#[]⟩] := ⟨yU⟩
instance : Ue Tryz.prog 5 [.int .u8 0] := ⟨z5⟩
instance : Ue Tryz.prog 71 [.slice none 0 0, .int .i64 0] := ⟨z71⟩
instance : Ue Tryz.prog 78 [.int .i64 0, .int .i64 0] := ⟨z78⟩
instance : Ue Tryz.prog 81 [.string ⟨#[]⟩, .int .i64 0, .int .i64 0, .slice none 0 0, .int .i64 0] := ⟨z81⟩
instance : Ue Tryz.prog 89 [.map none] := ⟨z89⟩
instance : Ue Tryz.prog 9 [.string ⟨#[]⟩] := ⟨z9⟩
instance : Ue Tryz.prog 91 [.string ⟨#[]⟩, .int .i64 0, .int .i64 0, .int .i64 0, .int .i64 0, .int .i64 0, .string ⟨#[]⟩] := ⟨z91⟩
instance : So Ah.enc 2 := ⟨Ah.enc_len⟩
instance : So Aw.enc 2 := ⟨Aw.enc_len⟩
instance : So D2.enc 2 := ⟨D2.enc_len⟩
instance : So Ai.enc 15 := ⟨Ai.enc_len⟩
instance : So A5.enc 4 := ⟨A5.enc_len⟩
instance : So Ao.enc 9 := ⟨Ao.enc_len⟩
instance : So Bo.enc 2 := ⟨Bo.enc_len⟩
instance : So C2.enc 3 := ⟨C2.enc_len⟩
instance : So Di.enc 5 := ⟨Di.enc_len⟩
instance : So C1.enc 3 := ⟨C1.enc_len⟩
instance : So Aa.enc 11 := ⟨Aa.enc_len⟩
instance : So Ap.enc 2 := ⟨Ap.enc_len⟩
instance : So Ae.enc 4 := ⟨Ae.enc_len⟩
instance : So C8.enc 12 := ⟨C8.enc_len⟩
instance : So Bu.enc 5 := ⟨Bu.enc_len⟩
instance : So A7.enc 12 := ⟨A7.enc_len⟩
instance : So Cu.enc 7 := ⟨Cu.enc_len⟩
instance : qQ Aw.enc := ⟨fun x c hc => by simp only [Aw.enc, List.mem_cons, List.not_mem_nil, or_false] at hc; rcases hc with rfl | rfl <;> rfl⟩
instance : qQ D2.enc := ⟨fun x c hc => by simp only [D2.enc, List.mem_cons, List.not_mem_nil, or_false] at hc; rcases hc with rfl | rfl <;> rfl⟩
instance : qQ Bo.enc := ⟨fun x c hc => by simp only [Bo.enc, List.mem_cons, List.not_mem_nil, or_false] at hc; rcases hc with rfl | rfl <;> rfl⟩
instance : qQ C2.enc := ⟨fun x c hc => by simp only [C2.enc, List.mem_cons, List.not_mem_nil, or_false] at hc; rcases hc with rfl | rfl | rfl <;> rfl⟩
instance : qQ Aa.enc := ⟨fun x c hc => by simp only [Aa.enc, List.mem_cons, List.not_mem_nil, or_false] at hc; rcases hc with rfl | rfl | rfl | rfl | rfl | rfl | rfl | rfl | rfl | rfl | rfl <;> rfl⟩
instance : qQ Ap.enc := ⟨fun x c hc => by simp only [Ap.enc, List.mem_cons, List.not_mem_nil, or_false] at hc; rcases hc with rfl | rfl <;> rfl⟩
instance : qQ A7.enc := ⟨fun x c hc => by simp only [A7.enc, List.mem_cons, List.not_mem_nil, or_false] at hc; rcases hc with rfl | rfl | rfl | rfl | rfl | rfl | rfl | rfl | rfl | rfl | rfl | rfl <;> rfl⟩
instance : qQ Cu.enc := ⟨fun x c hc => by simp only [Cu.enc, List.mem_cons, List.not_mem_nil, or_false] at hc; rcases hc with rfl | rfl | rfl | rfl | rfl | rfl | rfl <;> rfl⟩
end Go.Proofs.YtkoflhimdenjaaaGreat
