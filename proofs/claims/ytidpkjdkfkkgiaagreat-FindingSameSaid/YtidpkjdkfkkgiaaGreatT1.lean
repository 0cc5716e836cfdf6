import Derived.Test.YtidpkjdkfkkgiaaGreatEH
import Derived.Test.YtidpkjdkfkkgiaaGreatP1
import Derived.Test.YtidpkjdkfkkgiaaGreatProg
set_option linter.unusedVariables false
set_option linter.unusedSimpArgs false
set_option maxRecDepth 100000
set_option maxHeartbeats 1600000
namespace Go.Proofs.YtidpkjdkfkkgiaaGreat
open Go.RowKit
abbrev Ad.dv (x : Ad) : List DV := [.sl 1 (Aq eI x.L), .val (.int .i64 x.At)]
def Ad.enc (x : Ad) : List C := [.sl 1 (Aq eI x.L), .int .i64 x.At]
theorem Ad.enc_len (x : Ad) : (Ad.enc x).length = 2 := rfl
abbrev As.dv (x : As) : List DV := [.val (.int .i64 x.Alg), .val (.int .i64 x.Bits)]
def As.enc (x : As) : List C := [.int .i64 x.Alg, .int .i64 x.Bits]
theorem As.enc_len (x : As) : (As.enc x).length = 2 := rfl
abbrev Aa.dv (x : Aa) : List DV := [.val (.int .i64 x.Source), .val (.string x.Host), .val (.int .i64 x.Machine), .val (.int .i64 x.Day), .val (.int .i64 x.Confidence), .val (.int .i64 x.Kind), .val (.string x.Subject), .val (.int .i64 x.Use.Alg), .val (.int .i64 x.Use.Bits), .val (.int .i64 x.Number), .val (.string x.Text)]
def Aa.enc (x : Aa) : List C := [.int .i64 x.Source, .str x.Host, .int .i64 x.Machine, .int .i64 x.Day, .int .i64 x.Confidence, .int .i64 x.Kind, .str x.Subject, .int .i64 x.Use.Alg, .int .i64 x.Use.Bits, .int .i64 x.Number, .str x.Text]
theorem Aa.enc_len (x : Aa) : (Aa.enc x).length = 11 := rfl
abbrev D4.dv (x : D4) : List DV := [.val (.int .i64 x.Key), .val (.int .i64 x.Sum)]
def D4.enc (x : D4) : List C := [.int .i64 x.Key, .int .i64 x.Sum]
theorem D4.enc_len (x : D4) : (D4.enc x).length = 2 := rfl
abbrev Af.dv (x : Af) : List DV := [.val (.int .i64 x.Serial), .val (.string x.Issuer), .val (.string x.Subject), .val (.int .i64 x.Key.Alg), .val (.int .i64 x.Key.Bits), .val (.int .i64 x.KeyId), .val (.int .i64 x.Hash.Alg), .val (.int .i64 x.Hash.Bits), .val (.int .i64 x.From), .val (.int .i64 x.To), .val (.bool x.Authority), .val (.int .i64 x.Path), .sl 1 (Aq eS x.Names), .val (.int .i64 x.Seal.Key), .val (.int .i64 x.Seal.Sum)]
def Af.enc (x : Af) : List C := [.int .i64 x.Serial, .str x.Issuer, .str x.Subject, .int .i64 x.Key.Alg, .int .i64 x.Key.Bits, .int .i64 x.KeyId, .int .i64 x.Hash.Alg, .int .i64 x.Hash.Bits, .int .i64 x.From, .int .i64 x.To, .bool x.Authority, .int .i64 x.Path, .sl 1 (Aq eS x.Names), .int .i64 x.Seal.Key, .int .i64 x.Seal.Sum]
theorem Af.enc_len (x : Af) : (Af.enc x).length = 15 := rfl
abbrev Be.dv (x : Be) : List DV := [.val (.int .i64 x.Key.Alg), .val (.int .i64 x.Key.Bits), .val (.int .i64 x.KeyId), .sl 15 (Aq Af.enc x.Chain)]
def Be.enc (x : Be) : List C := [.int .i64 x.Key.Alg, .int .i64 x.Key.Bits, .int .i64 x.KeyId, .sl 15 (Aq Af.enc x.Chain)]
theorem Be.enc_len (x : Be) : (Be.enc x).length = 4 := rfl
abbrev A6.dv (x : A6) : List DV := [.val (.string x.Name), .val (.int .i64 x.Least), .val (.int .i64 x.Most), .sl 1 (Aq eI x.Suites), .val (.bool x.OwnOrder), .sl 4 (Aq Be.enc x.Identities), .sl 1 (Aq eI x.Anchors), .sl 1 (Aq eI x.Hashes), .val (.bool x.Fallback)]
def A6.enc (x : A6) : List C := [.str x.Name, .int .i64 x.Least, .int .i64 x.Most, .sl 1 (Aq eI x.Suites), .bool x.OwnOrder, .sl 4 (Aq Be.enc x.Identities), .sl 1 (Aq eI x.Anchors), .sl 1 (Aq eI x.Hashes), .bool x.Fallback]
theorem A6.enc_len (x : A6) : (A6.enc x).length = 9 := rfl
abbrev C7.dv (x : C7) : List DV := [.val (.int .i64 x.Most), .sl 1 (Aq eI x.Suites), .sl 1 (Aq eI x.Hashes)]
def C7.enc (x : C7) : List C := [.int .i64 x.Most, .sl 1 (Aq eI x.Suites), .sl 1 (Aq eI x.Hashes)]
theorem C7.enc_len (x : C7) : (C7.enc x).length = 3 := rfl
abbrev Cz.dv (x : Cz) : List DV := [.val (.int .i64 x.Version), .val (.int .i64 x.Suite), .val (.int .i64 x.KeyId)]
def Cz.enc (x : Cz) : List C := [.int .i64 x.Version, .int .i64 x.Suite, .int .i64 x.KeyId]
theorem Cz.enc_len (x : Cz) : (Cz.enc x).length = 3 := rfl
abbrev C9.dv (x : C9) : List DV := [.val (.string x.Alias), .val (.int .i64 x.Key.Alg), .val (.int .i64 x.Key.Bits), .val (.int .i64 x.KeyId), .val (.bool x.Secret), .sl 15 (Aq Af.enc x.Chain)]
def C9.enc (x : C9) : List C := [.str x.Alias, .int .i64 x.Key.Alg, .int .i64 x.Key.Bits, .int .i64 x.KeyId, .bool x.Secret, .sl 15 (Aq Af.enc x.Chain)]
theorem C9.enc_len (x : C9) : (C9.enc x).length = 6 := rfl
abbrev Dh.dv (x : Dh) : List DV := [.val (.int .i64 x.at_.Source), .val (.string x.at_.Host), .val (.int .i64 x.at_.Machine), .val (.int .i64 x.at_.Day), .val (.int .i64 x.at_.Confidence), .val (.int .i64 x.at_.Kind), .val (.string x.at_.Subject), .val (.int .i64 x.at_.Use.Alg), .val (.int .i64 x.at_.Use.Bits), .val (.int .i64 x.at_.Number), .val (.string x.at_.Text), .sl 11 (Aq Aa.enc x.l)]
def Dh.enc (x : Dh) : List C := [.int .i64 x.at_.Source, .str x.at_.Host, .int .i64 x.at_.Machine, .int .i64 x.at_.Day, .int .i64 x.at_.Confidence, .int .i64 x.at_.Kind, .str x.at_.Subject, .int .i64 x.at_.Use.Alg, .int .i64 x.at_.Use.Bits, .int .i64 x.at_.Number, .str x.at_.Text, .sl 11 (Aq Aa.enc x.l)]
theorem Dh.enc_len (x : Dh) : (Dh.enc x).length = 12 := rfl
abbrev Bv.dv (x : Bv) : List DV := [.val (.string x.name), .val (.int .i64 x.kind), .val (.int .i64 x.way), .sl 1 (Aq eI x.sizes), .sl 1 (Aq eI x.strengths)]
def Bv.enc (x : Bv) : List C := [.str x.name, .int .i64 x.kind, .int .i64 x.way, .sl 1 (Aq eI x.sizes), .sl 1 (Aq eI x.strengths)]
theorem Bv.enc_len (x : Bv) : (Bv.enc x).length = 5 := rfl
abbrev Ay.dv (x : Ay) : List DV := [.val (.int .i64 x.Code), .val (.string x.Name), .val (.int .i64 x.Exchange.Alg), .val (.int .i64 x.Exchange.Bits), .val (.int .i64 x.Sign.Alg), .val (.int .i64 x.Sign.Bits), .val (.int .i64 x.Cipher.Alg), .val (.int .i64 x.Cipher.Bits), .val (.int .i64 x.Mac.Alg), .val (.int .i64 x.Mac.Bits), .val (.int .i64 x.Least), .val (.int .i64 x.Most)]
def Ay.enc (x : Ay) : List C := [.int .i64 x.Code, .str x.Name, .int .i64 x.Exchange.Alg, .int .i64 x.Exchange.Bits, .int .i64 x.Sign.Alg, .int .i64 x.Sign.Bits, .int .i64 x.Cipher.Alg, .int .i64 x.Cipher.Bits, .int .i64 x.Mac.Alg, .int .i64 x.Mac.Bits, .int .i64 x.Least, .int .i64 x.Most]
theorem Ay.enc_len (x : Ay) : (Ay.enc x).length = 12 := rfl
abbrev Ar.dv (x : Ar) : List DV := [.val (.string x.name), .val (.int .i64 x.kind)]
def Ar.enc (x : Ar) : List C := [.str x.name, .int .i64 x.kind]
theorem Ar.enc_len (x : Ar) : (Ar.enc x).length = 2 := rfl
mutual
def Ah.enc : Ah -> List C
 | ⟨Tag, Bytes, Nested, Elements⟩ => [.int .i64 Tag, .sl 1 (Aq e8 Bytes), .bool Nested, .sl 4 (Ah.encs Elements)]
def Ah.encs : List Ah -> List C
 | [] => []
 | x :: l => Ah.enc x ++ Ah.encs l
end
theorem Ah.encs_eq : ∀ (l : List Ah), Ah.encs l = Aq Ah.enc l
 | [] => rfl
 | x :: l => by
  show Ah.enc x ++ Ah.encs l = Ah.enc x ++ Aq Ah.enc l
  rw [Ah.encs_eq l]
theorem Ah.enc_eq (x : Ah) : Ah.enc x = [.int .i64 x.Tag, .sl 1 (Aq e8 x.Bytes), .bool x.Nested, .sl 4 (Aq Ah.enc x.Elements)] := by
 cases x
 simp only [Ah.enc, Ah.encs_eq]
theorem Ah.enc_len (x : Ah) : (Ah.enc x).length = 4 := by rw [Ah.enc_eq]; rfl
abbrev Ah.dv (x : Ah) : List DV := [.val (.int .i64 x.Tag), .sl 1 (Aq e8 x.Bytes), .val (.bool x.Nested), .sl 4 (Aq Ah.enc x.Elements)]
theorem L5 : Tryz.prog.underlying 3 = some (.int .i64) := by kernel_rfl
theorem aEb : Tryz.prog.underlying 4 = some (.bool) := by kernel_rfl
theorem Mc : Tryz.prog.underlying 5 = some (.int .u8) := by kernel_rfl
theorem Vc : Tryz.prog.underlying 9 = some (.string) := by kernel_rfl
theorem Iu : Tryz.prog.underlying 28 = some (.struct ((match Tryz.prog.underlying 28 with | some (.struct f) => f | _ => #[]))) := by kernel_rfl
theorem Q0 : Tryz.prog.underlying 30 = some (.struct ((match Tryz.prog.underlying 30 with | some (.struct f) => f | _ => #[]))) := by kernel_rfl
theorem Td : Tryz.prog.underlying 34 = some (.struct ((match Tryz.prog.underlying 34 with | some (.struct f) => f | _ => #[]))) := by kernel_rfl
theorem jA : Tryz.prog.underlying 39 = some (.struct ((match Tryz.prog.underlying 39 with | some (.struct f) => f | _ => #[]))) := by kernel_rfl
theorem aCj : Tryz.prog.underlying 40 = some (.slice 30) := by kernel_rfl
theorem kM : Tryz.prog.underlying 46 = some (.struct ((match Tryz.prog.underlying 46 with | some (.struct f) => f | _ => #[]))) := by kernel_rfl
theorem iZ : Tryz.prog.underlying 48 = some (.struct ((match Tryz.prog.underlying 48 with | some (.struct f) => f | _ => #[]))) := by kernel_rfl
theorem aI : Tryz.prog.underlying 60 = some (.struct ((match Tryz.prog.underlying 60 with | some (.struct f) => f | _ => #[]))) := by kernel_rfl
theorem rD : Tryz.prog.underlying 66 = some (.struct ((match Tryz.prog.underlying 66 with | some (.struct f) => f | _ => #[]))) := by kernel_rfl
theorem nH : Tryz.prog.underlying 80 = some (.struct ((match Tryz.prog.underlying 80 with | some (.struct f) => f | _ => #[]))) := by kernel_rfl
theorem oV : Tryz.prog.underlying 81 = some (.slice 5) := by kernel_rfl
theorem J3 : Tryz.prog.underlying 86 = some (.struct ((match Tryz.prog.underlying 86 with | some (.struct f) => f | _ => #[]))) := by kernel_rfl
theorem cB : Tryz.prog.underlying 105 = some (.struct ((match Tryz.prog.underlying 105 with | some (.struct f) => f | _ => #[]))) := by kernel_rfl
theorem Kz : Tryz.prog.underlying 107 = some (.struct ((match Tryz.prog.underlying 107 with | some (.struct f) => f | _ => #[]))) := by kernel_rfl
theorem iB : Tryz.prog.underlying 116 = some (.int .u64) := by kernel_rfl
theorem Hk : Tryz.prog.underlying 137 = some (.struct ((match Tryz.prog.underlying 137 with | some (.struct f) => f | _ => #[]))) := by kernel_rfl
theorem Gj : Tryz.prog.underlying 141 = some (.struct ((match Tryz.prog.underlying 141 with | some (.struct f) => f | _ => #[]))) := by kernel_rfl
theorem rF : Tryz.prog.underlying 160 = some (.int .u32) := by kernel_rfl
theorem zK : Tryz.prog.underlying 162 = some (.int .u64) := by kernel_rfl
theorem qU : Tryz.prog.underlying 164 = some (.array 23 141) := by kernel_rfl
theorem Tu : Tryz.prog.underlying 166 = some (.array 2 3) := by kernel_rfl
theorem qG : Tryz.prog.underlying 167 = some (.array 5 166) := by kernel_rfl
theorem Qk : Tryz.prog.underlying 171 = some (.struct ((match Tryz.prog.underlying 171 with | some (.struct f) => f | _ => #[]))) := by kernel_rfl
theorem aA2 : Tryz.prog.underlying 175 = some (.int .u64) := by kernel_rfl
theorem sV : Fd Tryz.prog 105 0 0 3 := ⟨_, (match Tryz.prog.underlying 105 with | some (.struct f) => f | _ => #[])[0]!, cB, by kernel_rfl, by kernel_rfl, by kernel_rfl⟩
theorem sU : Fd Tryz.prog 105 1 1 3 := ⟨_, (match Tryz.prog.underlying 105 with | some (.struct f) => f | _ => #[])[1]!, cB, by kernel_rfl, by kernel_rfl, by kernel_rfl⟩
theorem tH : Fd Tryz.prog 107 0 0 3 := ⟨_, (match Tryz.prog.underlying 107 with | some (.struct f) => f | _ => #[])[0]!, Kz, by kernel_rfl, by kernel_rfl, by kernel_rfl⟩
theorem tS : Fd Tryz.prog 107 1 1 9 := ⟨_, (match Tryz.prog.underlying 107 with | some (.struct f) => f | _ => #[])[1]!, Kz, by kernel_rfl, by kernel_rfl, by kernel_rfl⟩
theorem rK : Fd Tryz.prog 107 10 12 91 := ⟨_, (match Tryz.prog.underlying 107 with | some (.struct f) => f | _ => #[])[10]!, Kz, by kernel_rfl, by kernel_rfl, by kernel_rfl⟩
theorem nW : Fd Tryz.prog 107 11 13 105 := ⟨_, (match Tryz.prog.underlying 107 with | some (.struct f) => f | _ => #[])[11]!, Kz, by kernel_rfl, by kernel_rfl, by kernel_rfl⟩
theorem sL : Fd Tryz.prog 107 2 2 9 := ⟨_, (match Tryz.prog.underlying 107 with | some (.struct f) => f | _ => #[])[2]!, Kz, by kernel_rfl, by kernel_rfl, by kernel_rfl⟩
theorem kJ : Fd Tryz.prog 107 3 3 28 := ⟨_, (match Tryz.prog.underlying 107 with | some (.struct f) => f | _ => #[])[3]!, Kz, by kernel_rfl, by kernel_rfl, by kernel_rfl⟩
theorem kA : Fd Tryz.prog 107 4 5 3 := ⟨_, (match Tryz.prog.underlying 107 with | some (.struct f) => f | _ => #[])[4]!, Kz, by kernel_rfl, by kernel_rfl, by kernel_rfl⟩
theorem tQ : Fd Tryz.prog 107 5 6 28 := ⟨_, (match Tryz.prog.underlying 107 with | some (.struct f) => f | _ => #[])[5]!, Kz, by kernel_rfl, by kernel_rfl, by kernel_rfl⟩
theorem uH : Fd Tryz.prog 107 6 8 3 := ⟨_, (match Tryz.prog.underlying 107 with | some (.struct f) => f | _ => #[])[6]!, Kz, by kernel_rfl, by kernel_rfl, by kernel_rfl⟩
theorem tZ : Fd Tryz.prog 107 7 9 3 := ⟨_, (match Tryz.prog.underlying 107 with | some (.struct f) => f | _ => #[])[7]!, Kz, by kernel_rfl, by kernel_rfl, by kernel_rfl⟩
theorem tW : Fd Tryz.prog 107 8 10 4 := ⟨_, (match Tryz.prog.underlying 107 with | some (.struct f) => f | _ => #[])[8]!, Kz, by kernel_rfl, by kernel_rfl, by kernel_rfl⟩
theorem sR : Fd Tryz.prog 107 9 11 3 := ⟨_, (match Tryz.prog.underlying 107 with | some (.struct f) => f | _ => #[])[9]!, Kz, by kernel_rfl, by kernel_rfl, by kernel_rfl⟩
theorem jM : Fd Tryz.prog 137 1 1 3 := ⟨_, (match Tryz.prog.underlying 137 with | some (.struct f) => f | _ => #[])[1]!, Hk, by kernel_rfl, by kernel_rfl, by kernel_rfl⟩
theorem uK : Fd Tryz.prog 141 1 1 3 := ⟨_, (match Tryz.prog.underlying 141 with | some (.struct f) => f | _ => #[])[1]!, Gj, by kernel_rfl, by kernel_rfl, by kernel_rfl⟩
theorem sP : Fd Tryz.prog 141 2 2 3 := ⟨_, (match Tryz.prog.underlying 141 with | some (.struct f) => f | _ => #[])[2]!, Gj, by kernel_rfl, by kernel_rfl, by kernel_rfl⟩
theorem sM : Fd Tryz.prog 141 3 3 22 := ⟨_, (match Tryz.prog.underlying 141 with | some (.struct f) => f | _ => #[])[3]!, Gj, by kernel_rfl, by kernel_rfl, by kernel_rfl⟩
theorem tP : Fd Tryz.prog 141 4 4 22 := ⟨_, (match Tryz.prog.underlying 141 with | some (.struct f) => f | _ => #[])[4]!, Gj, by kernel_rfl, by kernel_rfl, by kernel_rfl⟩
theorem uI : Fd Tryz.prog 171 0 0 3 := ⟨_, (match Tryz.prog.underlying 171 with | some (.struct f) => f | _ => #[])[0]!, Qk, by kernel_rfl, by kernel_rfl, by kernel_rfl⟩
theorem uM : Fd Tryz.prog 171 1 1 81 := ⟨_, (match Tryz.prog.underlying 171 with | some (.struct f) => f | _ => #[])[1]!, Qk, by kernel_rfl, by kernel_rfl, by kernel_rfl⟩
theorem tF : Fd Tryz.prog 171 2 2 4 := ⟨_, (match Tryz.prog.underlying 171 with | some (.struct f) => f | _ => #[])[2]!, Qk, by kernel_rfl, by kernel_rfl, by kernel_rfl⟩
theorem uQ : Fd Tryz.prog 171 3 3 169 := ⟨_, (match Tryz.prog.underlying 171 with | some (.struct f) => f | _ => #[])[3]!, Qk, by kernel_rfl, by kernel_rfl, by kernel_rfl⟩
theorem xP : Fd Tryz.prog 28 0 0 3 := ⟨_, (match Tryz.prog.underlying 28 with | some (.struct f) => f | _ => #[])[0]!, Iu, by kernel_rfl, by kernel_rfl, by kernel_rfl⟩
theorem xK : Fd Tryz.prog 28 1 1 3 := ⟨_, (match Tryz.prog.underlying 28 with | some (.struct f) => f | _ => #[])[1]!, Iu, by kernel_rfl, by kernel_rfl, by kernel_rfl⟩
theorem yL : Fd Tryz.prog 30 0 0 3 := ⟨_, (match Tryz.prog.underlying 30 with | some (.struct f) => f | _ => #[])[0]!, Q0, by kernel_rfl, by kernel_rfl, by kernel_rfl⟩
theorem wI : Fd Tryz.prog 30 1 1 9 := ⟨_, (match Tryz.prog.underlying 30 with | some (.struct f) => f | _ => #[])[1]!, Q0, by kernel_rfl, by kernel_rfl, by kernel_rfl⟩
theorem xJ : Fd Tryz.prog 30 2 2 3 := ⟨_, (match Tryz.prog.underlying 30 with | some (.struct f) => f | _ => #[])[2]!, Q0, by kernel_rfl, by kernel_rfl, by kernel_rfl⟩
theorem wY : Fd Tryz.prog 30 3 3 3 := ⟨_, (match Tryz.prog.underlying 30 with | some (.struct f) => f | _ => #[])[3]!, Q0, by kernel_rfl, by kernel_rfl, by kernel_rfl⟩
theorem zQ : Fd Tryz.prog 30 4 4 3 := ⟨_, (match Tryz.prog.underlying 30 with | some (.struct f) => f | _ => #[])[4]!, Q0, by kernel_rfl, by kernel_rfl, by kernel_rfl⟩
theorem gK : Fd Tryz.prog 30 5 5 3 := ⟨_, (match Tryz.prog.underlying 30 with | some (.struct f) => f | _ => #[])[5]!, Q0, by kernel_rfl, by kernel_rfl, by kernel_rfl⟩
theorem zI : Fd Tryz.prog 30 6 6 9 := ⟨_, (match Tryz.prog.underlying 30 with | some (.struct f) => f | _ => #[])[6]!, Q0, by kernel_rfl, by kernel_rfl, by kernel_rfl⟩
theorem yR : Fd Tryz.prog 30 7 7 28 := ⟨_, (match Tryz.prog.underlying 30 with | some (.struct f) => f | _ => #[])[7]!, Q0, by kernel_rfl, by kernel_rfl, by kernel_rfl⟩
theorem pC : Fd Tryz.prog 30 8 9 3 := ⟨_, (match Tryz.prog.underlying 30 with | some (.struct f) => f | _ => #[])[8]!, Q0, by kernel_rfl, by kernel_rfl, by kernel_rfl⟩
theorem zP : Fd Tryz.prog 30 9 10 9 := ⟨_, (match Tryz.prog.underlying 30 with | some (.struct f) => f | _ => #[])[9]!, Q0, by kernel_rfl, by kernel_rfl, by kernel_rfl⟩
theorem yO : Fd Tryz.prog 34 0 0 9 := ⟨_, (match Tryz.prog.underlying 34 with | some (.struct f) => f | _ => #[])[0]!, Td, by kernel_rfl, by kernel_rfl, by kernel_rfl⟩
theorem wB : Fd Tryz.prog 34 1 1 3 := ⟨_, (match Tryz.prog.underlying 34 with | some (.struct f) => f | _ => #[])[1]!, Td, by kernel_rfl, by kernel_rfl, by kernel_rfl⟩
theorem wM : Fd Tryz.prog 34 2 2 3 := ⟨_, (match Tryz.prog.underlying 34 with | some (.struct f) => f | _ => #[])[2]!, Td, by kernel_rfl, by kernel_rfl, by kernel_rfl⟩
theorem aA9 : Fd Tryz.prog 34 3 3 22 := ⟨_, (match Tryz.prog.underlying 34 with | some (.struct f) => f | _ => #[])[3]!, Td, by kernel_rfl, by kernel_rfl, by kernel_rfl⟩
theorem wR : Fd Tryz.prog 34 4 4 4 := ⟨_, (match Tryz.prog.underlying 34 with | some (.struct f) => f | _ => #[])[4]!, Td, by kernel_rfl, by kernel_rfl, by kernel_rfl⟩
theorem wW : Fd Tryz.prog 34 5 5 32 := ⟨_, (match Tryz.prog.underlying 34 with | some (.struct f) => f | _ => #[])[5]!, Td, by kernel_rfl, by kernel_rfl, by kernel_rfl⟩
theorem yV : Fd Tryz.prog 34 6 6 22 := ⟨_, (match Tryz.prog.underlying 34 with | some (.struct f) => f | _ => #[])[6]!, Td, by kernel_rfl, by kernel_rfl, by kernel_rfl⟩
theorem zZ : Fd Tryz.prog 34 7 7 22 := ⟨_, (match Tryz.prog.underlying 34 with | some (.struct f) => f | _ => #[])[7]!, Td, by kernel_rfl, by kernel_rfl, by kernel_rfl⟩
theorem xO : Fd Tryz.prog 34 8 8 4 := ⟨_, (match Tryz.prog.underlying 34 with | some (.struct f) => f | _ => #[])[8]!, Td, by kernel_rfl, by kernel_rfl, by kernel_rfl⟩
theorem xI : Fd Tryz.prog 39 0 0 28 := ⟨_, (match Tryz.prog.underlying 39 with | some (.struct f) => f | _ => #[])[0]!, jA, by kernel_rfl, by kernel_rfl, by kernel_rfl⟩
theorem xS : Fd Tryz.prog 39 1 2 3 := ⟨_, (match Tryz.prog.underlying 39 with | some (.struct f) => f | _ => #[])[1]!, jA, by kernel_rfl, by kernel_rfl, by kernel_rfl⟩
theorem aAp : Fd Tryz.prog 39 2 3 37 := ⟨_, (match Tryz.prog.underlying 39 with | some (.struct f) => f | _ => #[])[2]!, jA, by kernel_rfl, by kernel_rfl, by kernel_rfl⟩
theorem zO : Fd Tryz.prog 46 0 0 3 := ⟨_, (match Tryz.prog.underlying 46 with | some (.struct f) => f | _ => #[])[0]!, kM, by kernel_rfl, by kernel_rfl, by kernel_rfl⟩
theorem xY : Fd Tryz.prog 46 1 1 3 := ⟨_, (match Tryz.prog.underlying 46 with | some (.struct f) => f | _ => #[])[1]!, kM, by kernel_rfl, by kernel_rfl, by kernel_rfl⟩
theorem aBc : Fd Tryz.prog 46 2 2 3 := ⟨_, (match Tryz.prog.underlying 46 with | some (.struct f) => f | _ => #[])[2]!, kM, by kernel_rfl, by kernel_rfl, by kernel_rfl⟩
theorem wN : Fd Tryz.prog 48 0 0 3 := ⟨_, (match Tryz.prog.underlying 48 with | some (.struct f) => f | _ => #[])[0]!, iZ, by kernel_rfl, by kernel_rfl, by kernel_rfl⟩
theorem zV : Fd Tryz.prog 48 1 1 22 := ⟨_, (match Tryz.prog.underlying 48 with | some (.struct f) => f | _ => #[])[1]!, iZ, by kernel_rfl, by kernel_rfl, by kernel_rfl⟩
theorem yF : Fd Tryz.prog 48 2 2 22 := ⟨_, (match Tryz.prog.underlying 48 with | some (.struct f) => f | _ => #[])[2]!, iZ, by kernel_rfl, by kernel_rfl, by kernel_rfl⟩
theorem oL : Fd Tryz.prog 60 0 0 9 := ⟨_, (match Tryz.prog.underlying 60 with | some (.struct f) => f | _ => #[])[0]!, aI, by kernel_rfl, by kernel_rfl, by kernel_rfl⟩
theorem wP : Fd Tryz.prog 60 1 1 28 := ⟨_, (match Tryz.prog.underlying 60 with | some (.struct f) => f | _ => #[])[1]!, aI, by kernel_rfl, by kernel_rfl, by kernel_rfl⟩
theorem zA : Fd Tryz.prog 60 2 3 3 := ⟨_, (match Tryz.prog.underlying 60 with | some (.struct f) => f | _ => #[])[2]!, aI, by kernel_rfl, by kernel_rfl, by kernel_rfl⟩
theorem aAz : Fd Tryz.prog 60 4 5 37 := ⟨_, (match Tryz.prog.underlying 60 with | some (.struct f) => f | _ => #[])[4]!, aI, by kernel_rfl, by kernel_rfl, by kernel_rfl⟩
theorem xZ : Fd Tryz.prog 66 0 0 22 := ⟨_, (match Tryz.prog.underlying 66 with | some (.struct f) => f | _ => #[])[0]!, rD, by kernel_rfl, by kernel_rfl, by kernel_rfl⟩
theorem wO : Fd Tryz.prog 66 1 1 3 := ⟨_, (match Tryz.prog.underlying 66 with | some (.struct f) => f | _ => #[])[1]!, rD, by kernel_rfl, by kernel_rfl, by kernel_rfl⟩
theorem yX : Fd Tryz.prog 80 0 0 30 := ⟨_, (match Tryz.prog.underlying 80 with | some (.struct f) => f | _ => #[])[0]!, nH, by kernel_rfl, by kernel_rfl, by kernel_rfl⟩
theorem aAv : Fd Tryz.prog 80 1 11 40 := ⟨_, (match Tryz.prog.underlying 80 with | some (.struct f) => f | _ => #[])[1]!, nH, by kernel_rfl, by kernel_rfl, by kernel_rfl⟩
theorem zH : Fd Tryz.prog 86 0 0 3 := ⟨_, (match Tryz.prog.underlying 86 with | some (.struct f) => f | _ => #[])[0]!, J3, by kernel_rfl, by kernel_rfl, by kernel_rfl⟩
theorem yZ : Fd Tryz.prog 86 4 6 28 := ⟨_, (match Tryz.prog.underlying 86 with | some (.struct f) => f | _ => #[])[4]!, J3, by kernel_rfl, by kernel_rfl, by kernel_rfl⟩
theorem zJ : Fd Tryz.prog 86 5 8 28 := ⟨_, (match Tryz.prog.underlying 86 with | some (.struct f) => f | _ => #[])[5]!, J3, by kernel_rfl, by kernel_rfl, by kernel_rfl⟩
theorem vT : ((match Tryz.prog.underlying 105 with | some (.struct f) => f | _ => #[]) : Array Field).toList.map (fun f => (Tryz.prog.info? f.type).map fun i => (f.offset, i.size)) = [(0, 1), (1, 1)].map some := by kernel_rfl
theorem vH : ((match Tryz.prog.underlying 107 with | some (.struct f) => f | _ => #[]) : Array Field).toList.map (fun f => (Tryz.prog.info? f.type).map fun i => (f.offset, i.size)) = [(0, 1), (1, 1), (2, 1), (3, 2), (5, 1), (6, 2), (8, 1), (9, 1), (10, 1), (11, 1), (12, 1), (13, 2)].map some := by kernel_rfl
theorem Jm : ((match Tryz.prog.underlying 137 with | some (.struct f) => f | _ => #[]) : Array Field).toList.map (fun f => (Tryz.prog.info? f.type).map fun i => (f.offset, i.size)) = [(0, 1), (1, 1)].map some := by kernel_rfl
theorem Jp : ((match Tryz.prog.underlying 141 with | some (.struct f) => f | _ => #[]) : Array Field).toList.map (fun f => (Tryz.prog.info? f.type).map fun i => (f.offset, i.size)) = [(0, 1), (1, 1), (2, 1), (3, 1), (4, 1)].map some := by kernel_rfl
theorem dV : ((match Tryz.prog.underlying 171 with | some (.struct f) => f | _ => #[]) : Array Field).toList.map (fun f => (Tryz.prog.info? f.type).map fun i => (f.offset, i.size)) = [(0, 1), (1, 1), (2, 1), (3, 1)].map some := by kernel_rfl
theorem Mm : ((match Tryz.prog.underlying 28 with | some (.struct f) => f | _ => #[]) : Array Field).toList.map (fun f => (Tryz.prog.info? f.type).map fun i => (f.offset, i.size)) = [(0, 1), (1, 1)].map some := by kernel_rfl
theorem aBk : ((match Tryz.prog.underlying 30 with | some (.struct f) => f | _ => #[]) : Array Field).toList.map (fun f => (Tryz.prog.info? f.type).map fun i => (f.offset, i.size)) = [(0, 1), (1, 1), (2, 1), (3, 1), (4, 1), (5, 1), (6, 1), (7, 2), (9, 1), (10, 1)].map some := by kernel_rfl
theorem aEc : ((match Tryz.prog.underlying 34 with | some (.struct f) => f | _ => #[]) : Array Field).toList.map (fun f => (Tryz.prog.info? f.type).map fun i => (f.offset, i.size)) = [(0, 1), (1, 1), (2, 1), (3, 1), (4, 1), (5, 1), (6, 1), (7, 1), (8, 1)].map some := by kernel_rfl
theorem aD3 : ((match Tryz.prog.underlying 39 with | some (.struct f) => f | _ => #[]) : Array Field).toList.map (fun f => (Tryz.prog.info? f.type).map fun i => (f.offset, i.size)) = [(0, 2), (2, 1), (3, 1)].map some := by kernel_rfl
theorem aDx : ((match Tryz.prog.underlying 46 with | some (.struct f) => f | _ => #[]) : Array Field).toList.map (fun f => (Tryz.prog.info? f.type).map fun i => (f.offset, i.size)) = [(0, 1), (1, 1), (2, 1)].map some := by kernel_rfl
theorem aD4 : ((match Tryz.prog.underlying 48 with | some (.struct f) => f | _ => #[]) : Array Field).toList.map (fun f => (Tryz.prog.info? f.type).map fun i => (f.offset, i.size)) = [(0, 1), (1, 1), (2, 1)].map some := by kernel_rfl
theorem aB8 : ((match Tryz.prog.underlying 60 with | some (.struct f) => f | _ => #[]) : Array Field).toList.map (fun f => (Tryz.prog.info? f.type).map fun i => (f.offset, i.size)) = [(0, 1), (1, 2), (3, 1), (4, 1), (5, 1)].map some := by kernel_rfl
theorem aEa : ((match Tryz.prog.underlying 66 with | some (.struct f) => f | _ => #[]) : Array Field).toList.map (fun f => (Tryz.prog.info? f.type).map fun i => (f.offset, i.size)) = [(0, 1), (1, 1)].map some := by kernel_rfl
theorem aEh : ((match Tryz.prog.underlying 80 with | some (.struct f) => f | _ => #[]) : Array Field).toList.map (fun f => (Tryz.prog.info? f.type).map fun i => (f.offset, i.size)) = [(0, 11), (11, 1)].map some := by kernel_rfl
theorem P7 : ((match Tryz.prog.underlying 86 with | some (.struct f) => f | _ => #[]) : Array Field).toList.map (fun f => (Tryz.prog.info? f.type).map fun i => (f.offset, i.size)) = [(0, 1), (1, 1), (2, 2), (4, 2), (6, 2), (8, 2), (10, 1), (11, 1)].map some := by kernel_rfl
theorem nI : Ii Tryz.prog 117 86 12 104 := Ii.mk' (z := (.agg #[.int .i64 0, .string ⟨#[]⟩, .int .i64 0, .int .i64 0, .int .i64 0, .int .i64 0, .int .i64 0, .int .i64 0, .int .i64 0, .int .i64 0, .int .i64 0, .int .i64 0])) (by kernel_rfl) (by kernel_rfl) rfl (by decide) (by decide)
theorem On : Ii Tryz.prog 134 129 1 8 := Ii.mk' (z := (.nilFunc)) (by kernel_rfl) (by kernel_rfl) rfl (by decide) (by decide)
theorem vZ : Ii Tryz.prog 138 137 2 24 := Ii.mk' (z := (.agg #[.string ⟨#[]⟩, .int .i64 0])) (by kernel_rfl) (by kernel_rfl) rfl (by decide) (by decide)
theorem Yc : Ii Tryz.prog 169 171 4 64 := Ii.mk' (z := (.agg #[.int .i64 0, .slice none 0 0, .bool false, .slice none 0 0])) (by kernel_rfl) (by kernel_rfl) rfl (by decide) (by decide)
theorem Ek : Ii Tryz.prog 22 3 1 8 := Ii.mk' (z := (.int .i64 0)) (by kernel_rfl) (by kernel_rfl) rfl (by decide) (by decide)
theorem qK : Ii Tryz.prog 32 39 4 48 := Ii.mk' (z := (.agg #[.int .i64 0, .int .i64 0, .int .i64 0, .slice none 0 0])) (by kernel_rfl) (by kernel_rfl) rfl (by decide) (by decide)
theorem gX : Ii Tryz.prog 37 107 15 152 := Ii.mk' (z := (.agg #[.int .i64 0, .string ⟨#[]⟩, .string ⟨#[]⟩, .int .i64 0, .int .i64 0, .int .i64 0, .int .i64 0, .int .i64 0, .int .i64 0, .int .i64 0, .bool false, .int .i64 0, .slice none 0 0, .int .i64 0, .int .i64 0])) (by kernel_rfl) (by kernel_rfl) rfl (by decide) (by decide)
theorem Vs : Ii Tryz.prog 40 30 11 112 := Ii.mk' (z := (.agg #[.int .i64 0, .string ⟨#[]⟩, .int .i64 0, .int .i64 0, .int .i64 0, .int .i64 0, .string ⟨#[]⟩, .int .i64 0, .int .i64 0, .int .i64 0, .string ⟨#[]⟩])) (by kernel_rfl) (by kernel_rfl) rfl (by decide) (by decide)
theorem aDf : Ii Tryz.prog 51 60 6 72 := Ii.mk' (z := (.agg #[.string ⟨#[]⟩, .int .i64 0, .int .i64 0, .int .i64 0, .bool false, .slice none 0 0])) (by kernel_rfl) (by kernel_rfl) rfl (by decide) (by decide)
theorem aC9 : Ii Tryz.prog 53 28 2 16 := Ii.mk' (z := (.agg #[.int .i64 0, .int .i64 0])) (by kernel_rfl) (by kernel_rfl) rfl (by decide) (by decide)
theorem zD : Ii Tryz.prog 71 22 1 24 := Ii.mk' (z := (.slice none 0 0)) (by kernel_rfl) (by kernel_rfl) rfl (by decide) (by decide)
theorem Lg : Ii Tryz.prog 81 5 1 1 := Ii.mk' (z := (.int .u8 0)) (by kernel_rfl) (by kernel_rfl) rfl (by decide) (by decide)
theorem Zr : Ii Tryz.prog 91 9 1 16 := Ii.mk' (z := (.string ⟨#[]⟩)) (by kernel_rfl) (by kernel_rfl) rfl (by decide) (by decide)
theorem aC5 : Ty Tryz.prog 105 true 2 := ⟨by kernel_rfl, by kernel_rfl⟩
theorem aCg : Ty Tryz.prog 107 true 15 := ⟨by kernel_rfl, by kernel_rfl⟩
theorem Lz : Ty Tryz.prog 128 false 1 := ⟨by kernel_rfl, by kernel_rfl⟩
theorem Qq : Ty Tryz.prog 129 false 1 := ⟨by kernel_rfl, by kernel_rfl⟩
theorem X2 : Ty Tryz.prog 131 false 1 := ⟨by kernel_rfl, by kernel_rfl⟩
theorem vP : Ty Tryz.prog 141 true 5 := ⟨by kernel_rfl, by kernel_rfl⟩
theorem aB1 : Ty Tryz.prog 164 true 115 := ⟨by kernel_rfl, by kernel_rfl⟩
theorem vY : Ty Tryz.prog 166 true 2 := ⟨by kernel_rfl, by kernel_rfl⟩
theorem aBj : Ty Tryz.prog 169 false 1 := ⟨by kernel_rfl, by kernel_rfl⟩
theorem eP : Ty Tryz.prog 171 true 4 := ⟨by kernel_rfl, by kernel_rfl⟩
theorem aDa : Ty Tryz.prog 175 false 1 := ⟨by kernel_rfl, by kernel_rfl⟩
theorem wG : Ty Tryz.prog 22 false 1 := ⟨by kernel_rfl, by kernel_rfl⟩
theorem aA4 : Ty Tryz.prog 28 true 2 := ⟨by kernel_rfl, by kernel_rfl⟩
theorem hH : Ty Tryz.prog 3 false 1 := ⟨by kernel_rfl, by kernel_rfl⟩
theorem L4 : Ty Tryz.prog 30 true 11 := ⟨by kernel_rfl, by kernel_rfl⟩
theorem aE5 : Ty Tryz.prog 32 false 1 := ⟨by kernel_rfl, by kernel_rfl⟩
theorem aEk : Ty Tryz.prog 34 true 9 := ⟨by kernel_rfl, by kernel_rfl⟩
theorem aD8 : Ty Tryz.prog 37 false 1 := ⟨by kernel_rfl, by kernel_rfl⟩
theorem aEg : Ty Tryz.prog 39 true 4 := ⟨by kernel_rfl, by kernel_rfl⟩
theorem ty4 : Ty Tryz.prog 4 false 1 := ⟨by kernel_rfl, by kernel_rfl⟩
theorem aD6 : Ty Tryz.prog 40 false 1 := ⟨by kernel_rfl, by kernel_rfl⟩
theorem aD5 : Ty Tryz.prog 46 true 3 := ⟨by kernel_rfl, by kernel_rfl⟩
theorem aE0 : Ty Tryz.prog 48 true 3 := ⟨by kernel_rfl, by kernel_rfl⟩
theorem wD : Ty Tryz.prog 5 false 1 := ⟨by kernel_rfl, by kernel_rfl⟩
theorem aEd : Ty Tryz.prog 60 true 6 := ⟨by kernel_rfl, by kernel_rfl⟩
theorem yK : Ty Tryz.prog 68 false 1 := ⟨by kernel_rfl, by kernel_rfl⟩
theorem aE8 : Ty Tryz.prog 81 false 1 := ⟨by kernel_rfl, by kernel_rfl⟩
theorem aE7 : Ty Tryz.prog 86 true 12 := ⟨by kernel_rfl, by kernel_rfl⟩
theorem ty9 : Ty Tryz.prog 9 false 1 := ⟨by kernel_rfl, by kernel_rfl⟩
theorem aEi : Ty Tryz.prog 91 false 1 := ⟨by kernel_rfl, by kernel_rfl⟩
theorem aAx : Zt Tryz.prog 105 [.int .i64 0, .int .i64 0] := ⟨(.agg #[.int .i64 0, .int .i64 0]), by kernel_rfl, rfl, by decide⟩
theorem lG : Zt Tryz.prog 107 [.int .i64 0, .string ⟨#[]⟩, .string ⟨#[]⟩, .int .i64 0, .int .i64 0, .int .i64 0, .int .i64 0, .int .i64 0, .int .i64 0, .int .i64 0, .bool false, .int .i64 0, .slice none 0 0, .int .i64 0, .int .i64 0] := ⟨(.agg #[.int .i64 0, .string ⟨#[]⟩, .string ⟨#[]⟩, .int .i64 0, .int .i64 0, .int .i64 0, .int .i64 0, .int .i64 0, .int .i64 0, .int .i64 0, .bool false, .int .i64 0, .slice none 0 0, .int .i64 0, .int .i64 0]), by kernel_rfl, rfl, by decide⟩
theorem aBw : Zt Tryz.prog 129 [.nilFunc] := ⟨(.nilFunc), by kernel_rfl, rfl, by decide⟩
theorem Ma : Zt Tryz.prog 137 [.string ⟨#[]⟩, .int .i64 0] := ⟨(.agg #[.string ⟨#[]⟩, .int .i64 0]), by kernel_rfl, rfl, by decide⟩
theorem Mr : Zt Tryz.prog 141 [.string ⟨#[]⟩, .int .i64 0, .int .i64 0, .slice none 0 0, .slice none 0 0] := ⟨(.agg #[.string ⟨#[]⟩, .int .i64 0, .int .i64 0, .slice none 0 0, .slice none 0 0]), by kernel_rfl, rfl, by decide⟩
theorem aBz : Zt Tryz.prog 164 [.string ⟨#[]⟩, .int .i64 0, .int .i64 0, .slice none 0 0, .slice none 0 0, .string ⟨#[]⟩, .int .i64 0, .int .i64 0, .slice none 0 0, .slice none 0 0, .string ⟨#[]⟩, .int .i64 0, .int .i64 0, .slice none 0 0, .slice none 0 0, .string ⟨#[]⟩, .int .i64 0, .int .i64 0, .slice none 0 0, .slice none 0 0, .string ⟨#[]⟩, .int .i64 0, .int .i64 0, .slice none 0 0, .slice none 0 0, .string ⟨#[]⟩, .int .i64 0, .int .i64 0, .slice none 0 0, .slice none 0 0, .string ⟨#[]⟩, .int .i64 0, .int .i64 0, .slice none 0 0, .slice none 0 0, .string ⟨#[]⟩, .int .i64 0, .int .i64 0, .slice none 0 0, .slice none 0 0, .string ⟨#[]⟩, .int .i64 0, .int .i64 0, .slice none 0 0, .slice none 0 0, .string ⟨#[]⟩, .int .i64 0, .int .i64 0, .slice none 0 0, .slice none 0 0, .string ⟨#[]⟩, .int .i64 0, .int .i64 0, .slice none 0 0, .slice none 0 0, .string ⟨#[]⟩, .int .i64 0, .int .i64 0, .slice none 0 0, .slice none 0 0, .string ⟨#[]⟩, .int .i64 0, .int .i64 0, .slice none 0 0, .slice none 0 0, .string ⟨#[]⟩, .int .i64 0, .int .i64 0, .slice none 0 0, .slice none 0 0, .string ⟨#[]⟩, .int .i64 0, .int .i64 0, .slice none 0 0, .slice none 0 0, .string ⟨#[]⟩, .int .i64 0, .int .i64 0, .slice none 0 0, .slice none 0 0, .string ⟨#[]⟩, .int .i64 0, .int .i64 0, .slice none 0 0, .slice none 0 0, .string ⟨#[]⟩, .int .i64 0, .int .i64 0, .slice none 0 0, .slice none 0 0, .string ⟨#[]⟩, .int .i64 0, .int .i64 0, .slice none 0 0, .slice none 0 0, .string ⟨#[]⟩, .int .i64 0, .int .i64 0, .slice none 0 0, .slice none 0 0, .string ⟨#[]⟩, .int .i64 0, .int .i64 0, .slice none 0 0, .slice none 0 0, .string ⟨#[]⟩, .int .i64 0, .int .i64 0, .slice none 0 0, .slice none 0 0, .string ⟨#[]⟩, .int .i64 0, .int .i64 0, .slice none 0 0, .slice none 0 0] := ⟨(.agg #[.string ⟨#[]⟩, .int .i64 0, .int .i64 0, .slice none 0 0, .slice none 0 0, .string ⟨#[]⟩, .int .i64 0, .int .i64 0, .slice none 0 0, .slice none 0 0, .string ⟨#[]⟩, .int .i64 0, .int .i64 0, .slice none 0 0, .slice none 0 0, .string ⟨#[]⟩, .int .i64 0, .int .i64 0, .slice none 0 0, .slice none 0 0, .string ⟨#[]⟩, .int .i64 0, .int .i64 0, .slice none 0 0, .slice none 0 0, .string ⟨#[]⟩, .int .i64 0, .int .i64 0, .slice none 0 0, .slice none 0 0, .string ⟨#[]⟩, .int .i64 0, .int .i64 0, .slice none 0 0, .slice none 0 0, .string ⟨#[]⟩, .int .i64 0, .int .i64 0, .slice none 0 0, .slice none 0 0, .string ⟨#[]⟩, .int .i64 0, .int .i64 0, .slice none 0 0, .slice none 0 0, .string ⟨#[]⟩, .int .i64 0, .int .i64 0, .slice none 0 0, .slice none 0 0, .string ⟨#[]⟩, .int .i64 0, .int .i64 0, .slice none 0 0, .slice none 0 0, .string ⟨#[]⟩, .int .i64 0, .int .i64 0, .slice none 0 0, .slice none 0 0, .string ⟨#[]⟩, .int .i64 0, .int .i64 0, .slice none 0 0, .slice none 0 0, .string ⟨#[]⟩, .int .i64 0, .int .i64 0, .slice none 0 0, .slice none 0 0, .string ⟨#[]⟩, .int .i64 0, .int .i64 0, .slice none 0 0, .slice none 0 0, .string ⟨#[]⟩, .int .i64 0, .int .i64 0, .slice none 0 0, .slice none 0 0, .string ⟨#[]⟩, .int .i64 0, .int .i64 0, .slice none 0 0, .slice none 0 0, .string ⟨#[]⟩, .int .i64 0, .int .i64 0, .slice none 0 0, .slice none 0 0, .string ⟨#[]⟩, .int .i64 0, .int .i64 0, .slice none 0 0, .slice none 0 0, .string ⟨#[]⟩, .int .i64 0, .int .i64 0, .slice none 0 0, .slice none 0 0, .string ⟨#[]⟩, .int .i64 0, .int .i64 0, .slice none 0 0, .slice none 0 0, .string ⟨#[]⟩, .int .i64 0, .int .i64 0, .slice none 0 0, .slice none 0 0, .string ⟨#[]⟩, .int .i64 0, .int .i64 0, .slice none 0 0, .slice none 0 0]), by kernel_rfl, rfl, by decide⟩
theorem lI : Zt Tryz.prog 166 [.int .i64 0, .int .i64 0] := ⟨(.agg #[.int .i64 0, .int .i64 0]), by kernel_rfl, rfl, by decide⟩
theorem aBy : Zt Tryz.prog 167 [.int .i64 0, .int .i64 0, .int .i64 0, .int .i64 0, .int .i64 0, .int .i64 0, .int .i64 0, .int .i64 0, .int .i64 0, .int .i64 0] := ⟨(.agg #[.int .i64 0, .int .i64 0, .int .i64 0, .int .i64 0, .int .i64 0, .int .i64 0, .int .i64 0, .int .i64 0, .int .i64 0, .int .i64 0]), by kernel_rfl, rfl, by decide⟩
theorem Zq : Zt Tryz.prog 171 [.int .i64 0, .slice none 0 0, .bool false, .slice none 0 0] := ⟨(.agg #[.int .i64 0, .slice none 0 0, .bool false, .slice none 0 0]), by kernel_rfl, rfl, by decide⟩
theorem aE6 : Zt Tryz.prog 175 [.int .u64 0] := ⟨(.int .u64 0), by kernel_rfl, rfl, by decide⟩
theorem z22 : Zt Tryz.prog 22 [.slice none 0 0] := ⟨(.slice none 0 0), by kernel_rfl, rfl, by decide⟩
theorem Vf : Zt Tryz.prog 28 [.int .i64 0, .int .i64 0] := ⟨(.agg #[.int .i64 0, .int .i64 0]), by kernel_rfl, rfl, by decide⟩
theorem z3 : Zt Tryz.prog 3 [.int .i64 0] := ⟨(.int .i64 0), by kernel_rfl, rfl, by decide⟩
theorem z30 : Zt Tryz.prog 30 [.int .i64 0, .string ⟨#[]⟩, .int .i64 0, .int .i64 0, .int .i64 0, .int .i64 0, .string ⟨#[]⟩, .int .i64 0, .int .i64 0, .int .i64 0, .string ⟨#[]⟩] := ⟨(.agg #[.int .i64 0, .string ⟨#[]⟩, .int .i64 0, .int .i64 0, .int .i64 0, .int .i64 0, .string ⟨#[]⟩, .int .i64 0, .int .i64 0, .int .i64 0, .string ⟨#[]⟩]), by kernel_rfl, rfl, by decide⟩
theorem z34 : Zt Tryz.prog 34 [.string ⟨#[]⟩, .int .i64 0, .int .i64 0, .slice none 0 0, .bool false, .slice none 0 0, .slice none 0 0, .slice none 0 0, .bool false] := ⟨(.agg #[.string ⟨#[]⟩, .int .i64 0, .int .i64 0, .slice none 0 0, .bool false, .slice none 0 0, .slice none 0 0, .slice none 0 0, .bool false]), by kernel_rfl, rfl, by decide⟩
theorem z39 : Zt Tryz.prog 39 [.int .i64 0, .int .i64 0, .int .i64 0, .slice none 0 0] := ⟨(.agg #[.int .i64 0, .int .i64 0, .int .i64 0, .slice none 0 0]), by kernel_rfl, rfl, by decide⟩
theorem z46 : Zt Tryz.prog 46 [.int .i64 0, .int .i64 0, .int .i64 0] := ⟨(.agg #[.int .i64 0, .int .i64 0, .int .i64 0]), by kernel_rfl, rfl, by decide⟩
theorem z48 : Zt Tryz.prog 48 [.int .i64 0, .slice none 0 0, .slice none 0 0] := ⟨(.agg #[.int .i64 0, .slice none 0 0, .slice none 0 0]), by kernel_rfl, rfl, by decide⟩
theorem z5 : Zt Tryz.prog 5 [.int .u8 0] := ⟨(.int .u8 0), by kernel_rfl, rfl, by decide⟩
theorem z60 : Zt Tryz.prog 60 [.string ⟨#[]⟩, .int .i64 0, .int .i64 0, .int .i64 0, .bool false, .slice none 0 0] := ⟨(.agg #[.string ⟨#[]⟩, .int .i64 0, .int .i64 0, .int .i64 0, .bool false, .slice none 0 0]), by kernel_rfl, rfl, by decide⟩
theorem z66 : Zt Tryz.prog 66 [.slice none 0 0, .int .i64 0] := ⟨(.agg #[.slice none 0 0, .int .i64 0]), by kernel_rfl, rfl, by decide⟩
theorem z80 : Zt Tryz.prog 80 [.int .i64 0, .string ⟨#[]⟩, .int .i64 0, .int .i64 0, .int .i64 0, .int .i64 0, .string ⟨#[]⟩, .int .i64 0, .int .i64 0, .int .i64 0, .string ⟨#[]⟩, .slice none 0 0] := ⟨(.agg #[.int .i64 0, .string ⟨#[]⟩, .int .i64 0, .int .i64 0, .int .i64 0, .int .i64 0, .string ⟨#[]⟩, .int .i64 0, .int .i64 0, .int .i64 0, .string ⟨#[]⟩, .slice none 0 0]), by kernel_rfl, rfl, by decide⟩
theorem Zg : Zt Tryz.prog 86 [.int .i64 0, .string ⟨#[]⟩, .int .i64 0, .int .i64 0, .int .i64 0, .int .i64 0, .int .i64 0, .int .i64 0, .int .i64 0, .int .i64 0, .int .i64 0, .int .i64 0] := ⟨(.agg #[.int .i64 0, .string ⟨#[]⟩, .int .i64 0, .int .i64 0, .int .i64 0, .int .i64 0, .int .i64 0, .int .i64 0, .int .i64 0, .int .i64 0, .int .i64 0, .int .i64 0]), by kernel_rfl, rfl, by decide⟩
theorem z9 : Zt Tryz.prog 9 [.string ⟨#[]⟩] := ⟨(.string ⟨#[]⟩), by kernel_rfl, rfl, by decide⟩
theorem rN : J4 Tryz.prog 20 107 = [none, none, none, none, none, none, none, none, none, none, none, none, some 1, none, none] := by kernel_rfl
theorem aCu : J4 Tryz.prog 20 137 = [none, none] := by kernel_rfl
theorem jV : J4 Tryz.prog 20 171 = [none, some 1, none, some 4] := by kernel_rfl
theorem aCh : J4 Tryz.prog 20 22 = [some 1] := by kernel_rfl
theorem aDy : J4 Tryz.prog 20 28 = [none, none] := by kernel_rfl
theorem Jv : J4 Tryz.prog 20 3 = [none] := by kernel_rfl
theorem J7 : J4 Tryz.prog 20 30 = [none, none, none, none, none, none, none, none, none, none, none] := by kernel_rfl
theorem aAl : J4 Tryz.prog 20 39 = [none, none, none, some 15] := by kernel_rfl
theorem iR : J4 Tryz.prog 20 5 = [none] := by kernel_rfl
theorem aE3 : J4 Tryz.prog 20 60 = [none, none, none, none, none, some 15] := by kernel_rfl
theorem aBp : J4 Tryz.prog 20 86 = [none, none, none, none, none, none, none, none, none, none, none, none] := by kernel_rfl
theorem wU : J4 Tryz.prog 20 9 = [none] := by kernel_rfl
theorem aE1 (s : ByteArray) (c : UInt8) (w : World) : (callFunc 166 [.string s, .int .u8 (c.toNat : Int)].toArray).run Tryz.prog w = .ok (.value (.int .i64 (bD s c))) w := mV Tryz.func166 rfl rfl (by kernel_rfl) (by kernel_rfl) s c w
theorem aE4 (a b : ByteArray) (w : World) : (callFunc 157 [.string a, .string b].toArray).run Tryz.prog w = .ok (.value (.int .i64 (kU a b))) w := oY Tryz.func157 rfl rfl (by kernel_rfl) (by kernel_rfl) a b w
theorem aD1 : Tryz.prog.eqGuardType Tryz.prog.depth 28 = false := by kernel_rfl
theorem aCf : Tryz.prog.underlying 28 = some (.struct (Tryz.prog.fieldsOf 28)) := by kernel_rfl
theorem aCq : Tryz.prog.stoodInHeld 28 = false := by kernel_rfl
theorem aEu (x y : As) (w : World) : (Op.equalIn 10000 28 (.agg #[.int .i64 x.Alg, .int .i64 x.Bits]) (.agg #[.int .i64 y.Alg, .int .i64 y.Bits])).run Tryz.prog w = .ok (decide (x = y)) w := by
 have u3 := Tryz.underlying3
 have a3 := Tryz.isAgg3
 have z3 := Tryz.sizeOf3
 rw [show (10000 : Nat) = 9999 + 1 from rfl, run_equalIn_agg w 9999 28 _ _ aCf aCq]
 simp only [Program.fieldsOf, Tryz.underlying28]
 go_simp
 rcases x with ⟨x0, x1⟩
 rcases y with ⟨y0, y1⟩
 by_cases h0 : x0 = y0 <;> by_cases h1 : x1 = y1 <;> simp [h0, h1]
theorem Tw (x y : As) {X Y : Operand} {tk : Nat} {yt ty : TypeId} {b1 b2 : Option LB} : Fi Tryz.prog tk (.binOp .eql 28 X Y yt) ty [(.agg [.val (.int .i64 x.Alg), .val (.int .i64 x.Bits)], b1), (.agg [.val (.int .i64 y.Alg), .val (.int .i64 y.Bits)], b2)] [] (v0 (.val (.bool (decide (x = y))))) :=
 .binOpA rfl rfl (fun _ _ => rfl) (fun w => by
  rw [Sem.run_bind, run_eqGuard_agg w _ 28 X Y _ _ aD1]
  simp only [Result.andThen_ok, run_eql_struct]
  exact congrArg (fun r => Result.andThen r _) (aEu x y w))
theorem aC7 : Tryz.prog.eqGuardType Tryz.prog.depth 30 = false := by kernel_rfl
theorem aEs : Tryz.prog.underlying 30 = some (.struct (Tryz.prog.fieldsOf 30)) := by kernel_rfl
theorem aEq : Tryz.prog.stoodInHeld 30 = false := by kernel_rfl
theorem aCy (x y : Aa) (w : World) : (Op.equalIn 10000 30 (.agg #[.int .i64 x.Source, .string x.Host, .int .i64 x.Machine, .int .i64 x.Day, .int .i64 x.Confidence, .int .i64 x.Kind, .string x.Subject, .int .i64 x.Use.Alg, .int .i64 x.Use.Bits, .int .i64 x.Number, .string x.Text]) (.agg #[.int .i64 y.Source, .string y.Host, .int .i64 y.Machine, .int .i64 y.Day, .int .i64 y.Confidence, .int .i64 y.Kind, .string y.Subject, .int .i64 y.Use.Alg, .int .i64 y.Use.Bits, .int .i64 y.Number, .string y.Text])).run Tryz.prog w = .ok (decide (x = y)) w := by
 have u3 := Tryz.underlying3
 have a3 := Tryz.isAgg3
 have z3 := Tryz.sizeOf3
 have u9 := Tryz.underlying9
 have a9 := Tryz.isAgg9
 have z9 := Tryz.sizeOf9
 have u28 := Tryz.underlying28
 have a28 := Tryz.isAgg28
 have Vf := Tryz.sizeOf28
 have f28 := aCf
 have h28 := aCq
 rw [show (10000 : Nat) = 9999 + 1 from rfl, run_equalIn_agg w 9999 30 _ _ aEs aEq]
 simp only [Program.fieldsOf, Tryz.underlying30]
 go_simp
 rcases x with ⟨x0, x1, x2, x3, x4, x5, x6, ⟨x7, x8⟩, x9, x10⟩
 rcases y with ⟨y0, y1, y2, y3, y4, y5, y6, ⟨y7, y8⟩, y9, y10⟩
 simp only [hG]
 by_cases q0 : ¬ x0 = y0
 ·simp [q0]
 rw [Decidable.not_not] at q0
 subst q0
 by_cases q1 : ¬ x1 = y1
 ·simp [q1]
 rw [Decidable.not_not] at q1
 subst q1
 by_cases q2 : ¬ x2 = y2
 ·simp [q2]
 rw [Decidable.not_not] at q2
 subst q2
 by_cases q3 : ¬ x3 = y3
 ·simp [q3]
 rw [Decidable.not_not] at q3
 subst q3
 by_cases q4 : ¬ x4 = y4
 ·simp [q4]
 rw [Decidable.not_not] at q4
 subst q4
 by_cases q5 : ¬ x5 = y5
 ·simp [q5]
 rw [Decidable.not_not] at q5
 subst q5
 by_cases q6 : ¬ x6 = y6
 ·simp [q6]
 rw [Decidable.not_not] at q6
 subst q6
 by_cases q7 : ¬ x7 = y7
 ·simp [q7]
 rw [Decidable.not_not] at q7
 subst q7
 by_cases q8 : ¬ x8 = y8
 ·simp [q8]
 rw [Decidable.not_not] at q8
 subst q8
 by_cases q9 : ¬ x9 = y9
 ·simp [q9]
 rw [Decidable.not_not] at q9
 subst q9
 by_cases q10 : ¬ x10 = y10
 ·simp [q10]
 rw [Decidable.not_not] at q10
 subst q10
 simp
theorem Za (x y : Aa) {X Y : Operand} {tk : Nat} {yt ty : TypeId} {b1 b2 : Option LB} : Fi Tryz.prog tk (.binOp .eql 30 X Y yt) ty [(.agg [.val (.int .i64 x.Source), .val (.string x.Host), .val (.int .i64 x.Machine), .val (.int .i64 x.Day), .val (.int .i64 x.Confidence), .val (.int .i64 x.Kind), .val (.string x.Subject), .val (.int .i64 x.Use.Alg), .val (.int .i64 x.Use.Bits), .val (.int .i64 x.Number), .val (.string x.Text)], b1), (.agg [.val (.int .i64 y.Source), .val (.string y.Host), .val (.int .i64 y.Machine), .val (.int .i64 y.Day), .val (.int .i64 y.Confidence), .val (.int .i64 y.Kind), .val (.string y.Subject), .val (.int .i64 y.Use.Alg), .val (.int .i64 y.Use.Bits), .val (.int .i64 y.Number), .val (.string y.Text)], b2)] [] (v0 (.val (.bool (decide (x = y))))) :=
 .binOpA rfl rfl (fun _ _ => rfl) (fun w => by
  rw [Sem.run_bind, run_eqGuard_agg w _ 30 X Y _ _ aC7]
  simp only [Result.andThen_ok, run_eql_struct]
  exact congrArg (fun r => Result.andThen r _) (aCy x y w))
theorem Yu (x y : Aa) {X Y : Operand} {tk : Nat} {yt ty : TypeId} {b1 b2 : Option LB} : Fi Tryz.prog tk (.binOp .neq 30 X Y yt) ty [(.agg [.val (.int .i64 x.Source), .val (.string x.Host), .val (.int .i64 x.Machine), .val (.int .i64 x.Day), .val (.int .i64 x.Confidence), .val (.int .i64 x.Kind), .val (.string x.Subject), .val (.int .i64 x.Use.Alg), .val (.int .i64 x.Use.Bits), .val (.int .i64 x.Number), .val (.string x.Text)], b1), (.agg [.val (.int .i64 y.Source), .val (.string y.Host), .val (.int .i64 y.Machine), .val (.int .i64 y.Day), .val (.int .i64 y.Confidence), .val (.int .i64 y.Kind), .val (.string y.Subject), .val (.int .i64 y.Use.Alg), .val (.int .i64 y.Use.Bits), .val (.int .i64 y.Number), .val (.string y.Text)], b2)] [] (v0 (.val (.bool (!decide (x = y))))) :=
 .binOpA rfl rfl (fun _ _ => rfl) (fun w => by
  rw [Sem.run_bind, run_eqGuard_agg w _ 30 X Y _ _ aC7]
  simp only [Result.andThen_ok, run_neq_struct]
  exact congrArg (fun r => Result.andThen r _) (aCy x y w))
instance : J6 Tryz.prog 105 0 0 3 := ⟨sV⟩
instance : J6 Tryz.prog 105 1 1 3 := ⟨sU⟩
instance : J6 Tryz.prog 107 0 0 3 := ⟨tH⟩
instance : J6 Tryz.prog 107 1 1 9 := ⟨tS⟩
instance : J6 Tryz.prog 107 10 12 91 := ⟨rK⟩
instance : J6 Tryz.prog 107 11 13 105 := ⟨nW⟩
instance : J6 Tryz.prog 107 2 2 9 := ⟨sL⟩
instance : J6 Tryz.prog 107 3 3 28 := ⟨kJ⟩
instance : J6 Tryz.prog 107 4 5 3 := ⟨kA⟩
instance : J6 Tryz.prog 107 5 6 28 := ⟨tQ⟩
instance : J6 Tryz.prog 107 6 8 3 := ⟨uH⟩
instance : J6 Tryz.prog 107 7 9 3 := ⟨tZ⟩
instance : J6 Tryz.prog 107 8 10 4 := ⟨tW⟩
instance : J6 Tryz.prog 107 9 11 3 := ⟨sR⟩
instance : J6 Tryz.prog 137 1 1 3 := ⟨jM⟩
instance : J6 Tryz.prog 141 1 1 3 := ⟨uK⟩
instance : J6 Tryz.prog 141 2 2 3 := ⟨sP⟩
instance : J6 Tryz.prog 141 3 3 22 := ⟨sM⟩
instance : J6 Tryz.prog 141 4 4 22 := ⟨tP⟩
instance : J6 Tryz.prog 171 0 0 3 := ⟨uI⟩
instance : J6 Tryz.prog 171 1 1 81 := ⟨uM⟩
instance : J6 Tryz.prog 171 2 2 4 := ⟨tF⟩
instance : J6 Tryz.prog 171 3 3 169 := ⟨uQ⟩
instance : J6 Tryz.prog 28 0 0 3 := ⟨xP⟩
instance : J6 Tryz.prog 28 1 1 3 := ⟨xK⟩
instance : J6 Tryz.prog 30 0 0 3 := ⟨yL⟩
instance : J6 Tryz.prog 30 1 1 9 := ⟨wI⟩
instance : J6 Tryz.prog 30 2 2 3 := ⟨xJ⟩
instance : J6 Tryz.prog 30 3 3 3 := ⟨wY⟩
instance : J6 Tryz.prog 30 4 4 3 := ⟨zQ⟩
instance : J6 Tryz.prog 30 5 5 3 := ⟨gK⟩
instance : J6 Tryz.prog 30 6 6 9 := ⟨zI⟩
instance : J6 Tryz.prog 30 7 7 28 := ⟨yR⟩
instance : J6 Tryz.prog 30 8 9 3 := ⟨pC⟩
instance : J6 Tryz.prog 30 9 10 9 := ⟨zP⟩
instance : J6 Tryz.prog 34 0 0 9 := ⟨yO⟩
instance : J6 Tryz.prog 34 1 1 3 := ⟨wB⟩
instance : J6 Tryz.prog 34 2 2 3 := ⟨wM⟩
instance : J6 Tryz.prog 34 3 3 22 := ⟨aA9⟩
instance : J6 Tryz.prog 34 4 4 4 := ⟨wR⟩
instance : J6 Tryz.prog 34 5 5 32 := ⟨wW⟩
instance : J6 Tryz.prog 34 6 6 22 := ⟨yV⟩
instance : J6 Tryz.prog 34 7 7 22 := ⟨zZ⟩
instance : J6 Tryz.prog 34 8 8 4 := ⟨xO⟩
instance : J6 Tryz.prog 39 0 0 28 := ⟨xI⟩
instance : J6 Tryz.prog 39 1 2 3 := ⟨xS⟩
instance : J6 Tryz.prog 39 2 3 37 := ⟨aAp⟩
instance : J6 Tryz.prog 46 0 0 3 := ⟨zO⟩
instance : J6 Tryz.prog 46 1 1 3 := ⟨xY⟩
instance : J6 Tryz.prog 46 2 2 3 := ⟨aBc⟩
instance : J6 Tryz.prog 48 0 0 3 := ⟨wN⟩
instance : J6 Tryz.prog 48 1 1 22 := ⟨zV⟩
instance : J6 Tryz.prog 48 2 2 22 := ⟨yF⟩
instance : J6 Tryz.prog 60 0 0 9 := ⟨oL⟩
instance : J6 Tryz.prog 60 1 1 28 := ⟨wP⟩
instance : J6 Tryz.prog 60 2 3 3 := ⟨zA⟩
instance : J6 Tryz.prog 60 4 5 37 := ⟨aAz⟩
instance : J6 Tryz.prog 66 0 0 22 := ⟨xZ⟩
instance : J6 Tryz.prog 66 1 1 3 := ⟨wO⟩
instance : J6 Tryz.prog 80 0 0 30 := ⟨yX⟩
instance : J6 Tryz.prog 80 1 11 40 := ⟨aAv⟩
instance : J6 Tryz.prog 86 0 0 3 := ⟨zH⟩
instance : J6 Tryz.prog 86 4 6 28 := ⟨yZ⟩
instance : J6 Tryz.prog 86 5 8 28 := ⟨zJ⟩
instance : fM Tryz.prog 117 86 12 104 := ⟨nI⟩
instance : fM Tryz.prog 134 129 1 8 := ⟨On⟩
instance : fM Tryz.prog 138 137 2 24 := ⟨vZ⟩
instance : fM Tryz.prog 169 171 4 64 := ⟨Yc⟩
instance : fM Tryz.prog 22 3 1 8 := ⟨Ek⟩
instance : fM Tryz.prog 32 39 4 48 := ⟨qK⟩
instance : fM Tryz.prog 37 107 15 152 := ⟨gX⟩
instance : fM Tryz.prog 40 30 11 112 := ⟨Vs⟩
instance : fM Tryz.prog 51 60 6 72 := ⟨aDf⟩
instance : fM Tryz.prog 53 28 2 16 := ⟨aC9⟩
instance : fM Tryz.prog 71 22 1 24 := ⟨zD⟩
instance : fM Tryz.prog 81 5 1 1 := ⟨Lg⟩
instance : fM Tryz.prog 91 9 1 16 := ⟨Zr⟩
instance : O2 Tryz.prog 105 true 2 := ⟨aC5⟩
instance : O2 Tryz.prog 107 true 15 := ⟨aCg⟩
instance : O2 Tryz.prog 128 false 1 := ⟨Lz⟩
instance : O2 Tryz.prog 129 false 1 := ⟨Qq⟩
instance : O2 Tryz.prog 131 false 1 := ⟨X2⟩
instance : O2 Tryz.prog 141 true 5 := ⟨vP⟩
instance : O2 Tryz.prog 164 true 115 := ⟨aB1⟩
instance : O2 Tryz.prog 166 true 2 := ⟨vY⟩
instance : O2 Tryz.prog 169 false 1 := ⟨aBj⟩
instance : O2 Tryz.prog 171 true 4 := ⟨eP⟩
instance : O2 Tryz.prog 175 false 1 := ⟨aDa⟩
instance : O2 Tryz.prog 22 false 1 := ⟨wG⟩
instance : O2 Tryz.prog 28 true 2 := ⟨aA4⟩
instance : O2 Tryz.prog 3 false 1 := ⟨hH⟩
instance : O2 Tryz.prog 30 true 11 := ⟨L4⟩
instance : O2 Tryz.prog 32 false 1 := ⟨aE5⟩
instance : O2 Tryz.prog 34 true 9 := ⟨aEk⟩
instance : O2 Tryz.prog 37 false 1 := ⟨aD8⟩
instance : O2 Tryz.prog 39 true 4 := ⟨aEg⟩
instance : O2 Tryz.prog 4 false 1 := ⟨ty4⟩
instance : O2 Tryz.prog 40 false 1 := ⟨aD6⟩
instance : O2 Tryz.prog 46 true 3 := ⟨aD5⟩
instance : O2 Tryz.prog 48 true 3 := ⟨aE0⟩
instance : O2 Tryz.prog 5 false 1 := ⟨wD⟩
instance : O2 Tryz.prog 60 true 6 := ⟨aEd⟩
instance : O2 Tryz.prog 68 false 1 := ⟨yK⟩
instance : O2 Tryz.prog 81 false 1 := ⟨aE8⟩
instance : O2 Tryz.prog 86 true 12 := ⟨aE7⟩
instance : O2 Tryz.prog 9 false 1 := ⟨ty9⟩
instance : O2 Tryz.prog 91 false 1 := ⟨aEi⟩
instance : W8 Tryz.prog 105 [.int .i64 0, .int .i64 0] := ⟨aAx⟩
instance : W8 Tryz.prog 107 [.int .i64 0, .string ⟨#[]⟩, .string ⟨#[]⟩, .int .i64 0, .int .i64 0, .int .i64 0, .int .i64 0, .int .i64 0, .int .i64 0, .int .i64 0, .bool false, .int .i64 0, .slice none 0 0, .int .i64 0, .int .i64 0] := ⟨lG⟩
instance : W8 Tryz.prog 129 [.nilFunc] := ⟨aBw⟩
instance : W8 Tryz.prog 137 [.string ⟨#[]⟩, .int .i64 0] := ⟨Ma⟩
instance : W8 Tryz.prog 141 [.string ⟨#[]⟩, .int .i64 0, .int .i64 0, .slice none 0 0, .slice none 0 0] := ⟨Mr⟩
instance : W8 Tryz.prog 164 [.string ⟨#[]⟩, .int .i64 0, .int .i64 0, .slice none 0 0, .slice none 0 0, .string ⟨#[]⟩, .int .i64 0, .int .i64 0, .slice none 0 0, .slice none 0 0, .string ⟨#[]⟩, .int .i64 0, .int .i64 0, .slice none 0 0, .slice none 0 0, .string ⟨#[]⟩, .int .i64 0, .int .i64 0, .slice none 0 0, .slice none 0 0, .string ⟨#[]⟩, .int .i64 0, .int .i64 0, .slice none 0 0, .slice none 0 0, .string ⟨#[]⟩, .int .i64 0, .int .i64 0, .slice none 0 0, .slice none 0 0, .string ⟨#[]⟩, .int .i64 0, .int .i64 0, .slice none 0 0, .slice none 0 0, .string ⟨#[]⟩, .int .i64 0, .int .i64 0, .slice none 0 0, .slice none 0 0, .string ⟨#[]⟩, .int .i64 0, .int .i64 0, .slice none 0 0, .slice none 0 0, .string ⟨#[]⟩, .int .i64 0, .int .i64 0, .slice none 0 0, .slice none 0 0, .string ⟨#[]⟩, .int .i64 0, .int .i64 0, .slice none 0 0, .slice none 0 0, .string ⟨#[]⟩, .int .i64 0, .int .i64 0, .slice none 0 0, .slice none 0 0, .string ⟨#[]⟩, .int .i64 0, .int .i64 0, .slice none 0 0, .slice none 0 0, .string ⟨#[]⟩, .int .i64 0, .int .i64 0, .slice none 0 0, .slice none 0 0, .string ⟨#[]⟩, .int .i64 0, .int .i64 0, .slice none 0 0, .slice none 0 0, .string ⟨#[]⟩, .int .i64 0, .int .i64 0, .slice none 0 0, .slice none 0 0, .string ⟨#[]⟩, .int .i64 0, .int .i64 0, .slice none 0 0, .slice none 0 0, .string ⟨#[]⟩, .int .i64 0, .int .i64 0, .slice none 0 0, .slice none 0 0, .string ⟨#[]⟩, .int .i64 0, .int .i64 0, .slice none 0 0, .slice none 0 0, .string ⟨#[]⟩, .int .i64 0, .int .i64 0, .slice none 0 0, .slice none 0 0, .string ⟨#[]⟩, .int .i64 0, .int .i64 0, .slice none 0 0, .slice none 0 0, .string ⟨#[]⟩, .int .i64 0, .int .i64 0, .slice none 0 0, .slice none 0 0, .string ⟨#[]⟩, .int .i64 0, .int .i64 0, .slice none 0 0, .slice none 0 0] := ⟨aBz⟩
instance : W8 Tryz.prog 166 [.int .i64 0, .int .i64 0] := ⟨lI⟩
instance : W8 Tryz.prog 167 [.int .i64 0, .int .i64 0, .int .i64 0, .int .i64 0, .int .i64 0, .int .i64 0, .int .i64 0, .int .i64 0, .int .i64 0, .int .i64 0] := ⟨aBy⟩
instance : W8 Tryz.prog 171 [.int .i64 0, .slice none 0 0, .bool false, .slice none 0 0] := ⟨Zq⟩
instance : W8 Tryz.prog 175 [.int .u64 0] := ⟨aE6⟩
instance : W8 Tryz.prog 22 [.slice none 0 0] := ⟨z22⟩
instance : W8 Tryz.prog 28 [.int .i64 0, .int .i64 0] := ⟨Vf⟩
instance : W8 Tryz.prog 3 [.int .i64 0] := ⟨z3⟩
instance : W8 Tryz.prog 30 [.int .i64 0, .string ⟨#[]⟩, .int .i64 0, .int .i64 0, .int .i64 0, .int .i64 0, .string ⟨#[]⟩, .int .i64 0, .int .i64 0, .int .i64 0, .string ⟨#[]⟩] := ⟨z30⟩
instance : W8 Tryz.prog 34 [.string ⟨#[]⟩, .int .i64 0, .int .i64 0, .slice none 0 0, .bool false, .slice none 0 0, .slice none 0 0, .slice none 0 0, .bool false] := ⟨z34⟩
instance : W8 Tryz.prog 39 [.int .i64 0, .int .i64 0, .int .i64 0, .slice none 0 0] := ⟨z39⟩
instance : W8 Tryz.prog 46 [.int .i64 0, .int .i64 0, .int .i64 0] := ⟨z46⟩
instance : W8 Tryz.prog 48 [.int .i64 0, .slice none 0 0, .slice none 0 0] := ⟨z48⟩
instance : W8 Tryz.prog 5 [.int .u8 0] := ⟨z5⟩
instance : W8 Tryz.prog 60 [.string ⟨#[]⟩, .int .i64 0, .int .i64 0, .int .i64 0, .bool false, .slice none 0 0] := ⟨z60⟩
instance : W8 Tryz.prog 66 [.slice none 0 0, .int .i64 0] := ⟨z66⟩
instance : W8 Tryz.prog 80 [.int .i64 0, .string ⟨#[]⟩, .int .i64 0, .int .i64 0, .int .i64 0, .int .i64 0, .string ⟨#[]⟩, .int .i64 0, .int .i64 0, .int .i64 0, .string ⟨#[]⟩, .slice none 0 0] := ⟨z80⟩
instance : W8 Tryz.prog 86 [.int .i64 0, .string ⟨#[]⟩, .int .i64 0, .int .i64 0, .int .i64 0, .int .i64 0, .int .i64 0, .int .i64 0, .int .i64 0, .int .i64 0, .int .i64 0, .int .i64 0] := ⟨Zg⟩
instance : W8 Tryz.prog 9 [.string ⟨#[]⟩] := ⟨z9⟩
instance : Uq Ad.enc 2 := ⟨Ad.enc_len⟩
instance : Uq As.enc 2 := ⟨As.enc_len⟩
instance : Uq Aa.enc 11 := ⟨Aa.enc_len⟩
instance : Uq D4.enc 2 := ⟨D4.enc_len⟩
instance : Uq Af.enc 15 := ⟨Af.enc_len⟩
instance : Uq Be.enc 4 := ⟨Be.enc_len⟩
instance : Uq A6.enc 9 := ⟨A6.enc_len⟩
instance : Uq C7.enc 3 := ⟨C7.enc_len⟩
instance : Uq Cz.enc 3 := ⟨Cz.enc_len⟩
instance : Uq C9.enc 6 := ⟨C9.enc_len⟩
instance : Uq Dh.enc 12 := ⟨Dh.enc_len⟩
instance : Uq Bv.enc 5 := ⟨Bv.enc_len⟩
instance : Uq Ay.enc 12 := ⟨Ay.enc_len⟩
instance : Uq Ar.enc 2 := ⟨Ar.enc_len⟩
instance : Uq Ah.enc 4 := ⟨Ah.enc_len⟩
end Go.Proofs.YtidpkjdkfkkgiaaGreat
