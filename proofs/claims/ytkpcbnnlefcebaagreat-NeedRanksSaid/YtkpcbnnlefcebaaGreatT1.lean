import Derived.Test.YtkpcbnnlefcebaaGreatEH
import Derived.Test.YtkpcbnnlefcebaaGreatP1
import Derived.Test.YtkpcbnnlefcebaaGreatProg
set_option linter.unusedVariables false
set_option linter.unusedSimpArgs false
set_option maxRecDepth 100000
set_option maxHeartbeats 1600000
namespace Go.Proofs.YtkpcbnnlefcebaaGreat
open Go.RowKit
abbrev Ac.dv (x : Ac) : List DV := [.sl 1 (Av eI x.L), .val (.int .i64 x.At)]
def Ac.enc (x : Ac) : List C := [.sl 1 (Av eI x.L), .int .i64 x.At]
theorem Ac.enc_len (x : Ac) : (Ac.enc x).length = 2 := rfl
abbrev Az.dv (x : Az) : List DV := [.val (.int .i64 x.Alg), .val (.int .i64 x.Bits)]
def Az.enc (x : Az) : List C := [.int .i64 x.Alg, .int .i64 x.Bits]
theorem Az.enc_len (x : Az) : (Az.enc x).length = 2 := rfl
abbrev Ga.dv (x : Ga) : List DV := [.val (.int .i64 x.Key), .val (.int .i64 x.Sum)]
def Ga.enc (x : Ga) : List C := [.int .i64 x.Key, .int .i64 x.Sum]
theorem Ga.enc_len (x : Ga) : (Ga.enc x).length = 2 := rfl
abbrev Am.dv (x : Am) : List DV := [.val (.int .i64 x.Serial), .val (.string x.Issuer), .val (.string x.Subject), .val (.int .i64 x.Key.Alg), .val (.int .i64 x.Key.Bits), .val (.int .i64 x.KeyId), .val (.int .i64 x.Hash.Alg), .val (.int .i64 x.Hash.Bits), .val (.int .i64 x.From), .val (.int .i64 x.To), .val (.bool x.Authority), .val (.int .i64 x.Path), .sl 1 (Av eS x.Names), .val (.int .i64 x.Seal.Key), .val (.int .i64 x.Seal.Sum)]
def Am.enc (x : Am) : List C := [.int .i64 x.Serial, .str x.Issuer, .str x.Subject, .int .i64 x.Key.Alg, .int .i64 x.Key.Bits, .int .i64 x.KeyId, .int .i64 x.Hash.Alg, .int .i64 x.Hash.Bits, .int .i64 x.From, .int .i64 x.To, .bool x.Authority, .int .i64 x.Path, .sl 1 (Av eS x.Names), .int .i64 x.Seal.Key, .int .i64 x.Seal.Sum]
theorem Am.enc_len (x : Am) : (Am.enc x).length = 15 := rfl
abbrev Bq.dv (x : Bq) : List DV := [.val (.int .i64 x.Key.Alg), .val (.int .i64 x.Key.Bits), .val (.int .i64 x.KeyId), .sl 15 (Av Am.enc x.Chain)]
def Bq.enc (x : Bq) : List C := [.int .i64 x.Key.Alg, .int .i64 x.Key.Bits, .int .i64 x.KeyId, .sl 15 (Av Am.enc x.Chain)]
theorem Bq.enc_len (x : Bq) : (Bq.enc x).length = 4 := rfl
abbrev Aw.dv (x : Aw) : List DV := [.val (.string x.Name), .val (.int .i64 x.Least), .val (.int .i64 x.Most), .sl 1 (Av eI x.Suites), .val (.bool x.OwnOrder), .sl 4 (Av Bq.enc x.Identities), .sl 1 (Av eI x.Anchors), .sl 1 (Av eI x.Hashes), .val (.bool x.Fallback)]
def Aw.enc (x : Aw) : List C := [.str x.Name, .int .i64 x.Least, .int .i64 x.Most, .sl 1 (Av eI x.Suites), .bool x.OwnOrder, .sl 4 (Av Bq.enc x.Identities), .sl 1 (Av eI x.Anchors), .sl 1 (Av eI x.Hashes), .bool x.Fallback]
theorem Aw.enc_len (x : Aw) : (Aw.enc x).length = 9 := rfl
abbrev Ba.dv (x : Ba) : List DV := [.val (.int .i64 x.Client), .val (.int .i64 x.Server)]
def Ba.enc (x : Ba) : List C := [.int .i64 x.Client, .int .i64 x.Server]
theorem Ba.enc_len (x : Ba) : (Ba.enc x).length = 2 := rfl
abbrev Ds.dv (x : Ds) : List DV := [.val (.int .i64 x.Use.Alg), .val (.int .i64 x.Use.Bits), .val (.int .i64 x.Day)]
def Ds.enc (x : Ds) : List C := [.int .i64 x.Use.Alg, .int .i64 x.Use.Bits, .int .i64 x.Day]
theorem Ds.enc_len (x : Ds) : (Ds.enc x).length = 3 := rfl
abbrev By.dv (x : By) : List DV := [.val (.string x.Name), .val (.int .i64 x.Kind), .val (.int .i64 x.Purpose), .sl 3 (Av Ds.enc x.Links), .val (.int .i64 x.Until)]
def By.enc (x : By) : List C := [.str x.Name, .int .i64 x.Kind, .int .i64 x.Purpose, .sl 3 (Av Ds.enc x.Links), .int .i64 x.Until]
theorem By.enc_len (x : By) : (By.enc x).length = 5 := rfl
abbrev Bj.dv (x : Bj) : List DV := [.sl 9 (Av Aw.enc x.Endpoints), .sl 2 (Av Ba.enc x.Edges), .sl 5 (Av By.enc x.Items)]
def Bj.enc (x : Bj) : List C := [.sl 9 (Av Aw.enc x.Endpoints), .sl 2 (Av Ba.enc x.Edges), .sl 5 (Av By.enc x.Items)]
theorem Bj.enc_len (x : Bj) : (Bj.enc x).length = 3 := rfl
abbrev An.dv (x : An) : List DV := [.val (.int .i64 x.Endpoint), .val (.int .i64 x.Kind), .val (.int .i64 x.Number), .val (.int .i64 x.At), .val (.int .i64 x.Identity.Key.Alg), .val (.int .i64 x.Identity.Key.Bits), .val (.int .i64 x.Identity.KeyId), .sl 15 (Av Am.enc x.Identity.Chain)]
def An.enc (x : An) : List C := [.int .i64 x.Endpoint, .int .i64 x.Kind, .int .i64 x.Number, .int .i64 x.At, .int .i64 x.Identity.Key.Alg, .int .i64 x.Identity.Key.Bits, .int .i64 x.Identity.KeyId, .sl 15 (Av Am.enc x.Identity.Chain)]
theorem An.enc_len (x : An) : (An.enc x).length = 8 := rfl
abbrev Ae.dv (x : Ae) : List DV := [.val (.int .i64 x.First), .val (.int .i64 x.Then)]
def Ae.enc (x : Ae) : List C := [.int .i64 x.First, .int .i64 x.Then]
theorem Ae.enc_len (x : Ae) : (Ae.enc x).length = 2 := rfl
abbrev Aa.dv (x : Aa) : List DV := [.val (.int .i64 x.First), .val (.int .i64 x.Then)]
def Aa.enc (x : Aa) : List C := [.int .i64 x.First, .int .i64 x.Then]
theorem Aa.enc_len (x : Aa) : (Aa.enc x).length = 2 := rfl
abbrev Ar.dv (x : Ar) : List DV := [.val (.string x.name), .val (.int .i64 x.kind)]
def Ar.enc (x : Ar) : List C := [.str x.name, .int .i64 x.kind]
theorem Ar.enc_len (x : Ar) : (Ar.enc x).length = 2 := rfl
mutual
def Ah.enc : Ah -> List C
 | ⟨Tag, Bytes, Nested, Elements⟩ => [.int .i64 Tag, .sl 1 (Av e8 Bytes), .bool Nested, .sl 4 (Ah.encs Elements)]
def Ah.encs : List Ah -> List C
 | [] => []
 | x :: l => Ah.enc x ++ Ah.encs l
end
theorem Ah.encs_eq : ∀ (l : List Ah), Ah.encs l = Av Ah.enc l
 | [] => rfl
 | x :: l => by
  show Ah.enc x ++ Ah.encs l = Ah.enc x ++ Av Ah.enc l
  rw [Ah.encs_eq l]
theorem Ah.enc_eq (x : Ah) : Ah.enc x = [.int .i64 x.Tag, .sl 1 (Av e8 x.Bytes), .bool x.Nested, .sl 4 (Av Ah.enc x.Elements)] := by
 cases x
 simp only [Ah.enc, Ah.encs_eq]
theorem Ah.enc_len (x : Ah) : (Ah.enc x).length = 4 := by rw [Ah.enc_eq]; rfl
abbrev Ah.dv (x : Ah) : List DV := [.val (.int .i64 x.Tag), .sl 1 (Av e8 x.Bytes), .val (.bool x.Nested), .sl 4 (Av Ah.enc x.Elements)]
abbrev A4.dv (x : A4) : List DV := [.val (.int .i64 x.Code), .val (.string x.Name), .val (.int .i64 x.Exchange.Alg), .val (.int .i64 x.Exchange.Bits), .val (.int .i64 x.Sign.Alg), .val (.int .i64 x.Sign.Bits), .val (.int .i64 x.Cipher.Alg), .val (.int .i64 x.Cipher.Bits), .val (.int .i64 x.Mac.Alg), .val (.int .i64 x.Mac.Bits), .val (.int .i64 x.Least), .val (.int .i64 x.Most)]
def A4.enc (x : A4) : List C := [.int .i64 x.Code, .str x.Name, .int .i64 x.Exchange.Alg, .int .i64 x.Exchange.Bits, .int .i64 x.Sign.Alg, .int .i64 x.Sign.Bits, .int .i64 x.Cipher.Alg, .int .i64 x.Cipher.Bits, .int .i64 x.Mac.Alg, .int .i64 x.Mac.Bits, .int .i64 x.Least, .int .i64 x.Most]
theorem A4.enc_len (x : A4) : (A4.enc x).length = 12 := rfl
abbrev Bo.dv (x : Bo) : List DV := [.val (.string x.name), .val (.int .i64 x.kind), .val (.int .i64 x.way), .sl 1 (Av eI x.sizes), .sl 1 (Av eI x.strengths)]
def Bo.enc (x : Bo) : List C := [.str x.name, .int .i64 x.kind, .int .i64 x.way, .sl 1 (Av eI x.sizes), .sl 1 (Av eI x.strengths)]
theorem Bo.enc_len (x : Bo) : (Bo.enc x).length = 5 := rfl
theorem V4 : Tryz.prog.underlying 3 = some (.int .i64) := by kernel_rfl
theorem zC : Tryz.prog.underlying 4 = some (.bool) := by kernel_rfl
theorem V7 : Tryz.prog.underlying 5 = some (.int .u8) := by kernel_rfl
theorem U1 : Tryz.prog.underlying 9 = some (.string) := by kernel_rfl
theorem kP : Tryz.prog.underlying 29 = some (.struct ((match Tryz.prog.underlying 29 with | some (.struct f) => f | _ => #[]))) := by kernel_rfl
theorem Vp : Tryz.prog.underlying 34 = some (.struct ((match Tryz.prog.underlying 34 with | some (.struct f) => f | _ => #[]))) := by kernel_rfl
theorem Se : Tryz.prog.underlying 37 = some (.struct ((match Tryz.prog.underlying 37 with | some (.struct f) => f | _ => #[]))) := by kernel_rfl
theorem O7 : Tryz.prog.underlying 39 = some (.struct ((match Tryz.prog.underlying 39 with | some (.struct f) => f | _ => #[]))) := by kernel_rfl
theorem eX : Tryz.prog.underlying 42 = some (.struct ((match Tryz.prog.underlying 42 with | some (.struct f) => f | _ => #[]))) := by kernel_rfl
theorem Q7 : Tryz.prog.underlying 44 = some (.struct ((match Tryz.prog.underlying 44 with | some (.struct f) => f | _ => #[]))) := by kernel_rfl
theorem Sh : Tryz.prog.underlying 53 = some (.struct ((match Tryz.prog.underlying 53 with | some (.struct f) => f | _ => #[]))) := by kernel_rfl
theorem Yn : Tryz.prog.underlying 77 = some (.struct ((match Tryz.prog.underlying 77 with | some (.struct f) => f | _ => #[]))) := by kernel_rfl
theorem jM : Tryz.prog.underlying 81 = some (.struct ((match Tryz.prog.underlying 81 with | some (.struct f) => f | _ => #[]))) := by kernel_rfl
theorem fC : Tryz.prog.underlying 83 = some (.struct ((match Tryz.prog.underlying 83 with | some (.struct f) => f | _ => #[]))) := by kernel_rfl
theorem N2 : Tryz.prog.underlying 85 = some (.struct ((match Tryz.prog.underlying 85 with | some (.struct f) => f | _ => #[]))) := by kernel_rfl
theorem cZ : Tryz.prog.underlying 107 = some (.struct ((match Tryz.prog.underlying 107 with | some (.struct f) => f | _ => #[]))) := by kernel_rfl
theorem dD : Tryz.prog.underlying 110 = some (.slice 5) := by kernel_rfl
theorem kX : Tryz.prog.underlying 122 = some (.struct ((match Tryz.prog.underlying 122 with | some (.struct f) => f | _ => #[]))) := by kernel_rfl
theorem Py : Tryz.prog.underlying 138 = some (.struct ((match Tryz.prog.underlying 138 with | some (.struct f) => f | _ => #[]))) := by kernel_rfl
theorem kB : Tryz.prog.underlying 140 = some (.int .u32) := by kernel_rfl
theorem dE : Tryz.prog.underlying 148 = some (.int .u64) := by kernel_rfl
theorem I5 : Tryz.prog.underlying 152 = some (.struct ((match Tryz.prog.underlying 152 with | some (.struct f) => f | _ => #[]))) := by kernel_rfl
theorem Hb : Tryz.prog.underlying 157 = some (.struct ((match Tryz.prog.underlying 157 with | some (.struct f) => f | _ => #[]))) := by kernel_rfl
theorem rY : Tryz.prog.underlying 180 = some (.int .u64) := by kernel_rfl
theorem Gt : Tryz.prog.underlying 189 = some (.struct ((match Tryz.prog.underlying 189 with | some (.struct f) => f | _ => #[]))) := by kernel_rfl
theorem rP : Tryz.prog.underlying 193 = some (.int .u64) := by kernel_rfl
theorem lF : Tryz.prog.underlying 201 = some (.array 23 189) := by kernel_rfl
theorem S0 : Tryz.prog.underlying 205 = some (.array 2 3) := by kernel_rfl
theorem lP : Tryz.prog.underlying 206 = some (.array 5 205) := by kernel_rfl
theorem oA : Fd Tryz.prog 107 0 0 39 := ⟨_, (match Tryz.prog.underlying 107 with | some (.struct f) => f | _ => #[])[0]!, cZ, by kernel_rfl, by kernel_rfl, by kernel_rfl⟩
theorem Z2 : Fd Tryz.prog 107 1 2 3 := ⟨_, (match Tryz.prog.underlying 107 with | some (.struct f) => f | _ => #[])[1]!, cZ, by kernel_rfl, by kernel_rfl, by kernel_rfl⟩
theorem mD : Fd Tryz.prog 122 0 0 3 := ⟨_, (match Tryz.prog.underlying 122 with | some (.struct f) => f | _ => #[])[0]!, kX, by kernel_rfl, by kernel_rfl, by kernel_rfl⟩
theorem oF : Fd Tryz.prog 122 1 1 3 := ⟨_, (match Tryz.prog.underlying 122 with | some (.struct f) => f | _ => #[])[1]!, kX, by kernel_rfl, by kernel_rfl, by kernel_rfl⟩
theorem mW : Fd Tryz.prog 138 0 0 3 := ⟨_, (match Tryz.prog.underlying 138 with | some (.struct f) => f | _ => #[])[0]!, Py, by kernel_rfl, by kernel_rfl, by kernel_rfl⟩
theorem oE : Fd Tryz.prog 138 1 1 110 := ⟨_, (match Tryz.prog.underlying 138 with | some (.struct f) => f | _ => #[])[1]!, Py, by kernel_rfl, by kernel_rfl, by kernel_rfl⟩
theorem mX : Fd Tryz.prog 138 2 2 4 := ⟨_, (match Tryz.prog.underlying 138 with | some (.struct f) => f | _ => #[])[2]!, Py, by kernel_rfl, by kernel_rfl, by kernel_rfl⟩
theorem oG : Fd Tryz.prog 138 3 3 136 := ⟨_, (match Tryz.prog.underlying 138 with | some (.struct f) => f | _ => #[])[3]!, Py, by kernel_rfl, by kernel_rfl, by kernel_rfl⟩
theorem nC : Fd Tryz.prog 152 0 0 3 := ⟨_, (match Tryz.prog.underlying 152 with | some (.struct f) => f | _ => #[])[0]!, I5, by kernel_rfl, by kernel_rfl, by kernel_rfl⟩
theorem eP : Fd Tryz.prog 157 1 1 3 := ⟨_, (match Tryz.prog.underlying 157 with | some (.struct f) => f | _ => #[])[1]!, Hb, by kernel_rfl, by kernel_rfl, by kernel_rfl⟩
theorem nA : Fd Tryz.prog 189 1 1 3 := ⟨_, (match Tryz.prog.underlying 189 with | some (.struct f) => f | _ => #[])[1]!, Gt, by kernel_rfl, by kernel_rfl, by kernel_rfl⟩
theorem oK : Fd Tryz.prog 189 2 2 3 := ⟨_, (match Tryz.prog.underlying 189 with | some (.struct f) => f | _ => #[])[2]!, Gt, by kernel_rfl, by kernel_rfl, by kernel_rfl⟩
theorem nR : Fd Tryz.prog 189 3 3 22 := ⟨_, (match Tryz.prog.underlying 189 with | some (.struct f) => f | _ => #[])[3]!, Gt, by kernel_rfl, by kernel_rfl, by kernel_rfl⟩
theorem nT : Fd Tryz.prog 189 4 4 22 := ⟨_, (match Tryz.prog.underlying 189 with | some (.struct f) => f | _ => #[])[4]!, Gt, by kernel_rfl, by kernel_rfl, by kernel_rfl⟩
theorem cO : Fd Tryz.prog 29 0 0 25 := ⟨_, (match Tryz.prog.underlying 29 with | some (.struct f) => f | _ => #[])[0]!, kP, by kernel_rfl, by kernel_rfl, by kernel_rfl⟩
theorem qJ : Fd Tryz.prog 29 1 1 26 := ⟨_, (match Tryz.prog.underlying 29 with | some (.struct f) => f | _ => #[])[1]!, kP, by kernel_rfl, by kernel_rfl, by kernel_rfl⟩
theorem tO : Fd Tryz.prog 29 2 2 27 := ⟨_, (match Tryz.prog.underlying 29 with | some (.struct f) => f | _ => #[])[2]!, kP, by kernel_rfl, by kernel_rfl, by kernel_rfl⟩
theorem cW : Fd Tryz.prog 34 0 0 3 := ⟨_, (match Tryz.prog.underlying 34 with | some (.struct f) => f | _ => #[])[0]!, Vp, by kernel_rfl, by kernel_rfl, by kernel_rfl⟩
theorem lJ : Fd Tryz.prog 34 1 1 3 := ⟨_, (match Tryz.prog.underlying 34 with | some (.struct f) => f | _ => #[])[1]!, Vp, by kernel_rfl, by kernel_rfl, by kernel_rfl⟩
theorem iN : Fd Tryz.prog 37 0 0 9 := ⟨_, (match Tryz.prog.underlying 37 with | some (.struct f) => f | _ => #[])[0]!, Se, by kernel_rfl, by kernel_rfl, by kernel_rfl⟩
theorem tS : Fd Tryz.prog 37 1 1 3 := ⟨_, (match Tryz.prog.underlying 37 with | some (.struct f) => f | _ => #[])[1]!, Se, by kernel_rfl, by kernel_rfl, by kernel_rfl⟩
theorem rO : Fd Tryz.prog 37 2 2 3 := ⟨_, (match Tryz.prog.underlying 37 with | some (.struct f) => f | _ => #[])[2]!, Se, by kernel_rfl, by kernel_rfl, by kernel_rfl⟩
theorem qH : Fd Tryz.prog 37 3 3 22 := ⟨_, (match Tryz.prog.underlying 37 with | some (.struct f) => f | _ => #[])[3]!, Se, by kernel_rfl, by kernel_rfl, by kernel_rfl⟩
theorem qU : Fd Tryz.prog 37 5 5 35 := ⟨_, (match Tryz.prog.underlying 37 with | some (.struct f) => f | _ => #[])[5]!, Se, by kernel_rfl, by kernel_rfl, by kernel_rfl⟩
theorem qF : Fd Tryz.prog 37 6 6 22 := ⟨_, (match Tryz.prog.underlying 37 with | some (.struct f) => f | _ => #[])[6]!, Se, by kernel_rfl, by kernel_rfl, by kernel_rfl⟩
theorem tC : Fd Tryz.prog 37 7 7 22 := ⟨_, (match Tryz.prog.underlying 37 with | some (.struct f) => f | _ => #[])[7]!, Se, by kernel_rfl, by kernel_rfl, by kernel_rfl⟩
theorem sA : Fd Tryz.prog 39 0 0 3 := ⟨_, (match Tryz.prog.underlying 39 with | some (.struct f) => f | _ => #[])[0]!, O7, by kernel_rfl, by kernel_rfl, by kernel_rfl⟩
theorem sC : Fd Tryz.prog 39 1 1 3 := ⟨_, (match Tryz.prog.underlying 39 with | some (.struct f) => f | _ => #[])[1]!, O7, by kernel_rfl, by kernel_rfl, by kernel_rfl⟩
theorem rE : Fd Tryz.prog 42 0 0 39 := ⟨_, (match Tryz.prog.underlying 42 with | some (.struct f) => f | _ => #[])[0]!, eX, by kernel_rfl, by kernel_rfl, by kernel_rfl⟩
theorem tW : Fd Tryz.prog 42 1 2 3 := ⟨_, (match Tryz.prog.underlying 42 with | some (.struct f) => f | _ => #[])[1]!, eX, by kernel_rfl, by kernel_rfl, by kernel_rfl⟩
theorem rK : Fd Tryz.prog 42 2 3 40 := ⟨_, (match Tryz.prog.underlying 42 with | some (.struct f) => f | _ => #[])[2]!, eX, by kernel_rfl, by kernel_rfl, by kernel_rfl⟩
theorem dU : Fd Tryz.prog 44 0 0 3 := ⟨_, (match Tryz.prog.underlying 44 with | some (.struct f) => f | _ => #[])[0]!, Q7, by kernel_rfl, by kernel_rfl, by kernel_rfl⟩
theorem tX : Fd Tryz.prog 44 1 1 3 := ⟨_, (match Tryz.prog.underlying 44 with | some (.struct f) => f | _ => #[])[1]!, Q7, by kernel_rfl, by kernel_rfl, by kernel_rfl⟩
theorem sQ : Fd Tryz.prog 44 2 2 3 := ⟨_, (match Tryz.prog.underlying 44 with | some (.struct f) => f | _ => #[])[2]!, Q7, by kernel_rfl, by kernel_rfl, by kernel_rfl⟩
theorem rJ : Fd Tryz.prog 53 0 0 3 := ⟨_, (match Tryz.prog.underlying 53 with | some (.struct f) => f | _ => #[])[0]!, Sh, by kernel_rfl, by kernel_rfl, by kernel_rfl⟩
theorem tV : Fd Tryz.prog 53 1 1 3 := ⟨_, (match Tryz.prog.underlying 53 with | some (.struct f) => f | _ => #[])[1]!, Sh, by kernel_rfl, by kernel_rfl, by kernel_rfl⟩
theorem rS : Fd Tryz.prog 77 0 0 9 := ⟨_, (match Tryz.prog.underlying 77 with | some (.struct f) => f | _ => #[])[0]!, Yn, by kernel_rfl, by kernel_rfl, by kernel_rfl⟩
theorem qY : Fd Tryz.prog 77 1 1 3 := ⟨_, (match Tryz.prog.underlying 77 with | some (.struct f) => f | _ => #[])[1]!, Yn, by kernel_rfl, by kernel_rfl, by kernel_rfl⟩
theorem uG : Fd Tryz.prog 77 2 2 3 := ⟨_, (match Tryz.prog.underlying 77 with | some (.struct f) => f | _ => #[])[2]!, Yn, by kernel_rfl, by kernel_rfl, by kernel_rfl⟩
theorem pQ : Fd Tryz.prog 77 3 3 75 := ⟨_, (match Tryz.prog.underlying 77 with | some (.struct f) => f | _ => #[])[3]!, Yn, by kernel_rfl, by kernel_rfl, by kernel_rfl⟩
theorem tA : Fd Tryz.prog 77 4 4 3 := ⟨_, (match Tryz.prog.underlying 77 with | some (.struct f) => f | _ => #[])[4]!, Yn, by kernel_rfl, by kernel_rfl, by kernel_rfl⟩
theorem rA : Fd Tryz.prog 81 0 0 22 := ⟨_, (match Tryz.prog.underlying 81 with | some (.struct f) => f | _ => #[])[0]!, jM, by kernel_rfl, by kernel_rfl, by kernel_rfl⟩
theorem rH : Fd Tryz.prog 81 1 1 3 := ⟨_, (match Tryz.prog.underlying 81 with | some (.struct f) => f | _ => #[])[1]!, jM, by kernel_rfl, by kernel_rfl, by kernel_rfl⟩
theorem qZ : Fd Tryz.prog 83 0 0 3 := ⟨_, (match Tryz.prog.underlying 83 with | some (.struct f) => f | _ => #[])[0]!, fC, by kernel_rfl, by kernel_rfl, by kernel_rfl⟩
theorem tB : Fd Tryz.prog 83 1 1 3 := ⟨_, (match Tryz.prog.underlying 83 with | some (.struct f) => f | _ => #[])[1]!, fC, by kernel_rfl, by kernel_rfl, by kernel_rfl⟩
theorem pS : Fd Tryz.prog 85 0 0 3 := ⟨_, (match Tryz.prog.underlying 85 with | some (.struct f) => f | _ => #[])[0]!, N2, by kernel_rfl, by kernel_rfl, by kernel_rfl⟩
theorem sU : Fd Tryz.prog 85 1 1 9 := ⟨_, (match Tryz.prog.underlying 85 with | some (.struct f) => f | _ => #[])[1]!, N2, by kernel_rfl, by kernel_rfl, by kernel_rfl⟩
theorem mE : Fd Tryz.prog 85 10 12 71 := ⟨_, (match Tryz.prog.underlying 85 with | some (.struct f) => f | _ => #[])[10]!, N2, by kernel_rfl, by kernel_rfl, by kernel_rfl⟩
theorem oP : Fd Tryz.prog 85 11 13 83 := ⟨_, (match Tryz.prog.underlying 85 with | some (.struct f) => f | _ => #[])[11]!, N2, by kernel_rfl, by kernel_rfl, by kernel_rfl⟩
theorem uD : Fd Tryz.prog 85 2 2 9 := ⟨_, (match Tryz.prog.underlying 85 with | some (.struct f) => f | _ => #[])[2]!, N2, by kernel_rfl, by kernel_rfl, by kernel_rfl⟩
theorem iU : Fd Tryz.prog 85 3 3 39 := ⟨_, (match Tryz.prog.underlying 85 with | some (.struct f) => f | _ => #[])[3]!, N2, by kernel_rfl, by kernel_rfl, by kernel_rfl⟩
theorem iQ : Fd Tryz.prog 85 4 5 3 := ⟨_, (match Tryz.prog.underlying 85 with | some (.struct f) => f | _ => #[])[4]!, N2, by kernel_rfl, by kernel_rfl, by kernel_rfl⟩
theorem tZ : Fd Tryz.prog 85 5 6 39 := ⟨_, (match Tryz.prog.underlying 85 with | some (.struct f) => f | _ => #[])[5]!, N2, by kernel_rfl, by kernel_rfl, by kernel_rfl⟩
theorem uA : Fd Tryz.prog 85 6 8 3 := ⟨_, (match Tryz.prog.underlying 85 with | some (.struct f) => f | _ => #[])[6]!, N2, by kernel_rfl, by kernel_rfl, by kernel_rfl⟩
theorem tR : Fd Tryz.prog 85 7 9 3 := ⟨_, (match Tryz.prog.underlying 85 with | some (.struct f) => f | _ => #[])[7]!, N2, by kernel_rfl, by kernel_rfl, by kernel_rfl⟩
theorem rZ : Fd Tryz.prog 85 8 10 4 := ⟨_, (match Tryz.prog.underlying 85 with | some (.struct f) => f | _ => #[])[8]!, N2, by kernel_rfl, by kernel_rfl, by kernel_rfl⟩
theorem sX : Fd Tryz.prog 85 9 11 3 := ⟨_, (match Tryz.prog.underlying 85 with | some (.struct f) => f | _ => #[])[9]!, N2, by kernel_rfl, by kernel_rfl, by kernel_rfl⟩
theorem uO : ((match Tryz.prog.underlying 107 with | some (.struct f) => f | _ => #[]) : Array Field).toList.map (fun f => (Tryz.prog.info? f.type).map fun i => (f.offset, i.size)) = [(0, 2), (2, 1)].map some := by kernel_rfl
theorem aZ : ((match Tryz.prog.underlying 138 with | some (.struct f) => f | _ => #[]) : Array Field).toList.map (fun f => (Tryz.prog.info? f.type).map fun i => (f.offset, i.size)) = [(0, 1), (1, 1), (2, 1), (3, 1)].map some := by kernel_rfl
theorem Ma : ((match Tryz.prog.underlying 152 with | some (.struct f) => f | _ => #[]) : Array Field).toList.map (fun f => (Tryz.prog.info? f.type).map fun i => (f.offset, i.size)) = [(0, 1), (1, 1), (2, 2), (4, 2), (6, 2), (8, 2), (10, 1), (11, 1)].map some := by kernel_rfl
theorem Jo : ((match Tryz.prog.underlying 157 with | some (.struct f) => f | _ => #[]) : Array Field).toList.map (fun f => (Tryz.prog.info? f.type).map fun i => (f.offset, i.size)) = [(0, 1), (1, 1)].map some := by kernel_rfl
theorem Jp : ((match Tryz.prog.underlying 189 with | some (.struct f) => f | _ => #[]) : Array Field).toList.map (fun f => (Tryz.prog.info? f.type).map fun i => (f.offset, i.size)) = [(0, 1), (1, 1), (2, 1), (3, 1), (4, 1)].map some := by kernel_rfl
theorem gI : ((match Tryz.prog.underlying 34 with | some (.struct f) => f | _ => #[]) : Array Field).toList.map (fun f => (Tryz.prog.info? f.type).map fun i => (f.offset, i.size)) = [(0, 1), (1, 1)].map some := by kernel_rfl
theorem rT : ((match Tryz.prog.underlying 37 with | some (.struct f) => f | _ => #[]) : Array Field).toList.map (fun f => (Tryz.prog.info? f.type).map fun i => (f.offset, i.size)) = [(0, 1), (1, 1), (2, 1), (3, 1), (4, 1), (5, 1), (6, 1), (7, 1), (8, 1)].map some := by kernel_rfl
theorem Xn : ((match Tryz.prog.underlying 39 with | some (.struct f) => f | _ => #[]) : Array Field).toList.map (fun f => (Tryz.prog.info? f.type).map fun i => (f.offset, i.size)) = [(0, 1), (1, 1)].map some := by kernel_rfl
theorem yU : ((match Tryz.prog.underlying 42 with | some (.struct f) => f | _ => #[]) : Array Field).toList.map (fun f => (Tryz.prog.info? f.type).map fun i => (f.offset, i.size)) = [(0, 2), (2, 1), (3, 1)].map some := by kernel_rfl
theorem aU : ((match Tryz.prog.underlying 44 with | some (.struct f) => f | _ => #[]) : Array Field).toList.map (fun f => (Tryz.prog.info? f.type).map fun i => (f.offset, i.size)) = [(0, 1), (1, 1), (2, 1), (3, 1), (4, 4)].map some := by kernel_rfl
theorem bX : ((match Tryz.prog.underlying 53 with | some (.struct f) => f | _ => #[]) : Array Field).toList.map (fun f => (Tryz.prog.info? f.type).map fun i => (f.offset, i.size)) = [(0, 1), (1, 1)].map some := by kernel_rfl
theorem xX : ((match Tryz.prog.underlying 77 with | some (.struct f) => f | _ => #[]) : Array Field).toList.map (fun f => (Tryz.prog.info? f.type).map fun i => (f.offset, i.size)) = [(0, 1), (1, 1), (2, 1), (3, 1), (4, 1)].map some := by kernel_rfl
theorem yO : ((match Tryz.prog.underlying 81 with | some (.struct f) => f | _ => #[]) : Array Field).toList.map (fun f => (Tryz.prog.info? f.type).map fun i => (f.offset, i.size)) = [(0, 1), (1, 1)].map some := by kernel_rfl
theorem wF : ((match Tryz.prog.underlying 83 with | some (.struct f) => f | _ => #[]) : Array Field).toList.map (fun f => (Tryz.prog.info? f.type).map fun i => (f.offset, i.size)) = [(0, 1), (1, 1)].map some := by kernel_rfl
theorem wU : ((match Tryz.prog.underlying 85 with | some (.struct f) => f | _ => #[]) : Array Field).toList.map (fun f => (Tryz.prog.info? f.type).map fun i => (f.offset, i.size)) = [(0, 1), (1, 1), (2, 1), (3, 2), (5, 1), (6, 2), (8, 1), (9, 1), (10, 1), (11, 1), (12, 1), (13, 2)].map some := by kernel_rfl
theorem K6 : Hr Tryz.prog 110 5 1 1 := Hr.mk' (z := (.int .u8 0)) (by kernel_rfl) (by kernel_rfl) rfl (by decide) (by decide)
theorem Rf : Hr Tryz.prog 121 122 2 16 := Hr.mk' (z := (.agg #[.int .i64 0, .int .i64 0])) (by kernel_rfl) (by kernel_rfl) rfl (by decide) (by decide)
theorem W0 : Hr Tryz.prog 136 138 4 64 := Hr.mk' (z := (.agg #[.int .i64 0, .slice none 0 0, .bool false, .slice none 0 0])) (by kernel_rfl) (by kernel_rfl) rfl (by decide) (by decide)
theorem pL : Hr Tryz.prog 158 157 2 24 := Hr.mk' (z := (.agg #[.string ⟨#[]⟩, .int .i64 0])) (by kernel_rfl) (by kernel_rfl) rfl (by decide) (by decide)
theorem oR : Hr Tryz.prog 181 152 12 104 := Hr.mk' (z := (.agg #[.int .i64 0, .string ⟨#[]⟩, .int .i64 0, .int .i64 0, .int .i64 0, .int .i64 0, .int .i64 0, .int .i64 0, .int .i64 0, .int .i64 0, .int .i64 0, .int .i64 0])) (by kernel_rfl) (by kernel_rfl) rfl (by decide) (by decide)
theorem G1 : Hr Tryz.prog 22 3 1 8 := Hr.mk' (z := (.int .i64 0)) (by kernel_rfl) (by kernel_rfl) rfl (by decide) (by decide)
theorem sJ : Hr Tryz.prog 25 37 9 144 := Hr.mk' (z := (.agg #[.string ⟨#[]⟩, .int .i64 0, .int .i64 0, .slice none 0 0, .bool false, .slice none 0 0, .slice none 0 0, .slice none 0 0, .bool false])) (by kernel_rfl) (by kernel_rfl) rfl (by decide) (by decide)
theorem mS : Hr Tryz.prog 26 34 2 16 := Hr.mk' (z := (.agg #[.int .i64 0, .int .i64 0])) (by kernel_rfl) (by kernel_rfl) rfl (by decide) (by decide)
theorem qL : Hr Tryz.prog 27 77 5 64 := Hr.mk' (z := (.agg #[.string ⟨#[]⟩, .int .i64 0, .int .i64 0, .slice none 0 0, .int .i64 0])) (by kernel_rfl) (by kernel_rfl) rfl (by decide) (by decide)
theorem wL : Hr Tryz.prog 35 42 4 48 := Hr.mk' (z := (.agg #[.int .i64 0, .int .i64 0, .int .i64 0, .slice none 0 0])) (by kernel_rfl) (by kernel_rfl) rfl (by decide) (by decide)
theorem wI : Hr Tryz.prog 40 85 15 152 := Hr.mk' (z := (.agg #[.int .i64 0, .string ⟨#[]⟩, .string ⟨#[]⟩, .int .i64 0, .int .i64 0, .int .i64 0, .int .i64 0, .int .i64 0, .int .i64 0, .int .i64 0, .bool false, .int .i64 0, .slice none 0 0, .int .i64 0, .int .i64 0])) (by kernel_rfl) (by kernel_rfl) rfl (by decide) (by decide)
theorem Vy : Hr Tryz.prog 47 44 8 80 := Hr.mk' (z := (.agg #[.int .i64 0, .int .i64 0, .int .i64 0, .int .i64 0, .int .i64 0, .int .i64 0, .int .i64 0, .slice none 0 0])) (by kernel_rfl) (by kernel_rfl) rfl (by decide) (by decide)
theorem Zc : Hr Tryz.prog 48 53 2 16 := Hr.mk' (z := (.agg #[.int .i64 0, .int .i64 0])) (by kernel_rfl) (by kernel_rfl) rfl (by decide) (by decide)
theorem Xd : Hr Tryz.prog 71 9 1 16 := Hr.mk' (z := (.string ⟨#[]⟩)) (by kernel_rfl) (by kernel_rfl) rfl (by decide) (by decide)
theorem wK : Hr Tryz.prog 74 22 1 24 := Hr.mk' (z := (.slice none 0 0)) (by kernel_rfl) (by kernel_rfl) rfl (by decide) (by decide)
theorem qI : Hr Tryz.prog 75 107 3 24 := Hr.mk' (z := (.agg #[.int .i64 0, .int .i64 0, .int .i64 0])) (by kernel_rfl) (by kernel_rfl) rfl (by decide) (by decide)
theorem uR : Hr Tryz.prog 99 39 2 16 := Hr.mk' (z := (.agg #[.int .i64 0, .int .i64 0])) (by kernel_rfl) (by kernel_rfl) rfl (by decide) (by decide)
theorem pM : Ty Tryz.prog 107 true 3 := ⟨by kernel_rfl, by kernel_rfl⟩
theorem uN : Ty Tryz.prog 110 false 1 := ⟨by kernel_rfl, by kernel_rfl⟩
theorem Dd : Ty Tryz.prog 122 true 2 := ⟨by kernel_rfl, by kernel_rfl⟩
theorem vL : Ty Tryz.prog 136 false 1 := ⟨by kernel_rfl, by kernel_rfl⟩
theorem aG : Ty Tryz.prog 138 true 4 := ⟨by kernel_rfl, by kernel_rfl⟩
theorem pF : Ty Tryz.prog 152 true 12 := ⟨by kernel_rfl, by kernel_rfl⟩
theorem oY : Ty Tryz.prog 189 true 5 := ⟨by kernel_rfl, by kernel_rfl⟩
theorem wB : Ty Tryz.prog 193 false 1 := ⟨by kernel_rfl, by kernel_rfl⟩
theorem vN : Ty Tryz.prog 201 true 115 := ⟨by kernel_rfl, by kernel_rfl⟩
theorem pG : Ty Tryz.prog 205 true 2 := ⟨by kernel_rfl, by kernel_rfl⟩
theorem wD : Ty Tryz.prog 22 false 1 := ⟨by kernel_rfl, by kernel_rfl⟩
theorem jH : Ty Tryz.prog 25 false 1 := ⟨by kernel_rfl, by kernel_rfl⟩
theorem yM : Ty Tryz.prog 26 false 1 := ⟨by kernel_rfl, by kernel_rfl⟩
theorem yG : Ty Tryz.prog 27 false 1 := ⟨by kernel_rfl, by kernel_rfl⟩
theorem rC : Ty Tryz.prog 29 true 3 := ⟨by kernel_rfl, by kernel_rfl⟩
theorem Nw : Ty Tryz.prog 3 false 1 := ⟨by kernel_rfl, by kernel_rfl⟩
theorem oI : Ty Tryz.prog 34 true 2 := ⟨by kernel_rfl, by kernel_rfl⟩
theorem yJ : Ty Tryz.prog 35 false 1 := ⟨by kernel_rfl, by kernel_rfl⟩
theorem dG : Ty Tryz.prog 37 true 9 := ⟨by kernel_rfl, by kernel_rfl⟩
theorem nB : Ty Tryz.prog 39 true 2 := ⟨by kernel_rfl, by kernel_rfl⟩
theorem zR : Ty Tryz.prog 4 false 1 := ⟨by kernel_rfl, by kernel_rfl⟩
theorem xQ : Ty Tryz.prog 40 false 1 := ⟨by kernel_rfl, by kernel_rfl⟩
theorem vG : Ty Tryz.prog 42 true 4 := ⟨by kernel_rfl, by kernel_rfl⟩
theorem V9 : Ty Tryz.prog 44 true 8 := ⟨by kernel_rfl, by kernel_rfl⟩
theorem dN : Ty Tryz.prog 47 false 1 := ⟨by kernel_rfl, by kernel_rfl⟩
theorem lX : Ty Tryz.prog 5 false 1 := ⟨by kernel_rfl, by kernel_rfl⟩
theorem bH : Ty Tryz.prog 53 true 2 := ⟨by kernel_rfl, by kernel_rfl⟩
theorem qM : Ty Tryz.prog 59 false 1 := ⟨by kernel_rfl, by kernel_rfl⟩
theorem yW : Ty Tryz.prog 71 false 1 := ⟨by kernel_rfl, by kernel_rfl⟩
theorem yX : Ty Tryz.prog 75 false 1 := ⟨by kernel_rfl, by kernel_rfl⟩
theorem vT : Ty Tryz.prog 77 true 5 := ⟨by kernel_rfl, by kernel_rfl⟩
theorem zD : Ty Tryz.prog 83 true 2 := ⟨by kernel_rfl, by kernel_rfl⟩
theorem xC : Ty Tryz.prog 85 true 15 := ⟨by kernel_rfl, by kernel_rfl⟩
theorem kI : Ty Tryz.prog 9 false 1 := ⟨by kernel_rfl, by kernel_rfl⟩
theorem pU : Zt Tryz.prog 107 [.int .i64 0, .int .i64 0, .int .i64 0] := ⟨(.agg #[.int .i64 0, .int .i64 0, .int .i64 0]), by kernel_rfl, rfl, by decide⟩
theorem qA : Zt Tryz.prog 122 [.int .i64 0, .int .i64 0] := ⟨(.agg #[.int .i64 0, .int .i64 0]), by kernel_rfl, rfl, by decide⟩
theorem Ye : Zt Tryz.prog 138 [.int .i64 0, .slice none 0 0, .bool false, .slice none 0 0] := ⟨(.agg #[.int .i64 0, .slice none 0 0, .bool false, .slice none 0 0]), by kernel_rfl, rfl, by decide⟩
theorem Pt : Zt Tryz.prog 152 [.int .i64 0, .string ⟨#[]⟩, .int .i64 0, .int .i64 0, .int .i64 0, .int .i64 0, .int .i64 0, .int .i64 0, .int .i64 0, .int .i64 0, .int .i64 0, .int .i64 0] := ⟨(.agg #[.int .i64 0, .string ⟨#[]⟩, .int .i64 0, .int .i64 0, .int .i64 0, .int .i64 0, .int .i64 0, .int .i64 0, .int .i64 0, .int .i64 0, .int .i64 0, .int .i64 0]), by kernel_rfl, rfl, by decide⟩
theorem Mk : Zt Tryz.prog 157 [.string ⟨#[]⟩, .int .i64 0] := ⟨(.agg #[.string ⟨#[]⟩, .int .i64 0]), by kernel_rfl, rfl, by decide⟩
theorem Mo : Zt Tryz.prog 189 [.string ⟨#[]⟩, .int .i64 0, .int .i64 0, .slice none 0 0, .slice none 0 0] := ⟨(.agg #[.string ⟨#[]⟩, .int .i64 0, .int .i64 0, .slice none 0 0, .slice none 0 0]), by kernel_rfl, rfl, by decide⟩
theorem xL : Zt Tryz.prog 193 [.int .u64 0] := ⟨(.int .u64 0), by kernel_rfl, rfl, by decide⟩
theorem wY : Zt Tryz.prog 201 [.string ⟨#[]⟩, .int .i64 0, .int .i64 0, .slice none 0 0, .slice none 0 0, .string ⟨#[]⟩, .int .i64 0, .int .i64 0, .slice none 0 0, .slice none 0 0, .string ⟨#[]⟩, .int .i64 0, .int .i64 0, .slice none 0 0, .slice none 0 0, .string ⟨#[]⟩, .int .i64 0, .int .i64 0, .slice none 0 0, .slice none 0 0, .string ⟨#[]⟩, .int .i64 0, .int .i64 0, .slice none 0 0, .slice none 0 0, .string ⟨#[]⟩, .int .i64 0, .int .i64 0, .slice none 0 0, .slice none 0 0, .string ⟨#[]⟩, .int .i64 0, .int .i64 0, .slice none 0 0, .slice none 0 0, .string ⟨#[]⟩, .int .i64 0, .int .i64 0, .slice none 0 0, .slice none 0 0, .string ⟨#[]⟩, .int .i64 0, .int .i64 0, .slice none 0 0, .slice none 0 0, .string ⟨#[]⟩, .int .i64 0, .int .i64 0, .slice none 0 0, .slice none 0 0, .string ⟨#[]⟩, .int .i64 0, .int .i64 0, .slice none 0 0, .slice none 0 0, .string ⟨#[]⟩, .int .i64 0, .int .i64 0, .slice none 0 0, .slice none 0 0, .string ⟨#[]⟩, .int .i64 0, .int .i64 0, .slice none 0 0, .slice none 0 0, .string ⟨#[]⟩, .int .i64 0, .int .i64 0, .slice none 0 0, .slice none 0 0, .string ⟨#[]⟩, .int .i64 0, .int .i64 0, .slice none 0 0, .slice none 0 0, .string ⟨#[]⟩, .int .i64 0, .int .i64 0, .slice none 0 0, .slice none 0 0, .string ⟨#[]⟩, .int .i64 0, .int .i64 0, .slice none 0 0, .slice none 0 0, .string ⟨#[]⟩, .int .i64 0, .int .i64 0, .slice none 0 0, .slice none 0 0, .string ⟨#[]⟩, .int .i64 0, .int .i64 0, .slice none 0 0, .slice none 0 0, .string ⟨#[]⟩, .int .i64 0, .int .i64 0, .slice none 0 0, .slice none 0 0, .string ⟨#[]⟩, .int .i64 0, .int .i64 0, .slice none 0 0, .slice none 0 0, .string ⟨#[]⟩, .int .i64 0, .int .i64 0, .slice none 0 0, .slice none 0 0, .string ⟨#[]⟩, .int .i64 0, .int .i64 0, .slice none 0 0, .slice none 0 0] := ⟨(.agg #[.string ⟨#[]⟩, .int .i64 0, .int .i64 0, .slice none 0 0, .slice none 0 0, .string ⟨#[]⟩, .int .i64 0, .int .i64 0, .slice none 0 0, .slice none 0 0, .string ⟨#[]⟩, .int .i64 0, .int .i64 0, .slice none 0 0, .slice none 0 0, .string ⟨#[]⟩, .int .i64 0, .int .i64 0, .slice none 0 0, .slice none 0 0, .string ⟨#[]⟩, .int .i64 0, .int .i64 0, .slice none 0 0, .slice none 0 0, .string ⟨#[]⟩, .int .i64 0, .int .i64 0, .slice none 0 0, .slice none 0 0, .string ⟨#[]⟩, .int .i64 0, .int .i64 0, .slice none 0 0, .slice none 0 0, .string ⟨#[]⟩, .int .i64 0, .int .i64 0, .slice none 0 0, .slice none 0 0, .string ⟨#[]⟩, .int .i64 0, .int .i64 0, .slice none 0 0, .slice none 0 0, .string ⟨#[]⟩, .int .i64 0, .int .i64 0, .slice none 0 0, .slice none 0 0, .string ⟨#[]⟩, .int .i64 0, .int .i64 0, .slice none 0 0, .slice none 0 0, .string ⟨#[]⟩, .int .i64 0, .int .i64 0, .slice none 0 0, .slice none 0 0, .string ⟨#[]⟩, .int .i64 0, .int .i64 0, .slice none 0 0, .slice none 0 0, .string ⟨#[]⟩, .int .i64 0, .int .i64 0, .slice none 0 0, .slice none 0 0, .string ⟨#[]⟩, .int .i64 0, .int .i64 0, .slice none 0 0, .slice none 0 0, .string ⟨#[]⟩, .int .i64 0, .int .i64 0, .slice none 0 0, .slice none 0 0, .string ⟨#[]⟩, .int .i64 0, .int .i64 0, .slice none 0 0, .slice none 0 0, .string ⟨#[]⟩, .int .i64 0, .int .i64 0, .slice none 0 0, .slice none 0 0, .string ⟨#[]⟩, .int .i64 0, .int .i64 0, .slice none 0 0, .slice none 0 0, .string ⟨#[]⟩, .int .i64 0, .int .i64 0, .slice none 0 0, .slice none 0 0, .string ⟨#[]⟩, .int .i64 0, .int .i64 0, .slice none 0 0, .slice none 0 0, .string ⟨#[]⟩, .int .i64 0, .int .i64 0, .slice none 0 0, .slice none 0 0, .string ⟨#[]⟩, .int .i64 0, .int .i64 0, .slice none 0 0, .slice none 0 0]), by kernel_rfl, rfl, by decide⟩
theorem gD : Zt Tryz.prog 205 [.int .i64 0, .int .i64 0] := ⟨(.agg #[.int .i64 0, .int .i64 0]), by kernel_rfl, rfl, by decide⟩
theorem wV : Zt Tryz.prog 206 [.int .i64 0, .int .i64 0, .int .i64 0, .int .i64 0, .int .i64 0, .int .i64 0, .int .i64 0, .int .i64 0, .int .i64 0, .int .i64 0] := ⟨(.agg #[.int .i64 0, .int .i64 0, .int .i64 0, .int .i64 0, .int .i64 0, .int .i64 0, .int .i64 0, .int .i64 0, .int .i64 0, .int .i64 0]), by kernel_rfl, rfl, by decide⟩
theorem zP : Zt Tryz.prog 22 [.slice none 0 0] := ⟨(.slice none 0 0), by kernel_rfl, rfl, by decide⟩
theorem zQ : Zt Tryz.prog 29 [.slice none 0 0, .slice none 0 0, .slice none 0 0] := ⟨(.agg #[.slice none 0 0, .slice none 0 0, .slice none 0 0]), by kernel_rfl, rfl, by decide⟩
theorem z3 : Zt Tryz.prog 3 [.int .i64 0] := ⟨(.int .i64 0), by kernel_rfl, rfl, by decide⟩
theorem mH : Zt Tryz.prog 34 [.int .i64 0, .int .i64 0] := ⟨(.agg #[.int .i64 0, .int .i64 0]), by kernel_rfl, rfl, by decide⟩
theorem uM : Zt Tryz.prog 37 [.string ⟨#[]⟩, .int .i64 0, .int .i64 0, .slice none 0 0, .bool false, .slice none 0 0, .slice none 0 0, .slice none 0 0, .bool false] := ⟨(.agg #[.string ⟨#[]⟩, .int .i64 0, .int .i64 0, .slice none 0 0, .bool false, .slice none 0 0, .slice none 0 0, .slice none 0 0, .bool false]), by kernel_rfl, rfl, by decide⟩
theorem gY : Zt Tryz.prog 39 [.int .i64 0, .int .i64 0] := ⟨(.agg #[.int .i64 0, .int .i64 0]), by kernel_rfl, rfl, by decide⟩
theorem xP : Zt Tryz.prog 42 [.int .i64 0, .int .i64 0, .int .i64 0, .slice none 0 0] := ⟨(.agg #[.int .i64 0, .int .i64 0, .int .i64 0, .slice none 0 0]), by kernel_rfl, rfl, by decide⟩
theorem eZ : Zt Tryz.prog 44 [.int .i64 0, .int .i64 0, .int .i64 0, .int .i64 0, .int .i64 0, .int .i64 0, .int .i64 0, .slice none 0 0] := ⟨(.agg #[.int .i64 0, .int .i64 0, .int .i64 0, .int .i64 0, .int .i64 0, .int .i64 0, .int .i64 0, .slice none 0 0]), by kernel_rfl, rfl, by decide⟩
theorem z5 : Zt Tryz.prog 5 [.int .u8 0] := ⟨(.int .u8 0), by kernel_rfl, rfl, by decide⟩
theorem fZ : Zt Tryz.prog 53 [.int .i64 0, .int .i64 0] := ⟨(.agg #[.int .i64 0, .int .i64 0]), by kernel_rfl, rfl, by decide⟩
theorem zA : Zt Tryz.prog 77 [.string ⟨#[]⟩, .int .i64 0, .int .i64 0, .slice none 0 0, .int .i64 0] := ⟨(.agg #[.string ⟨#[]⟩, .int .i64 0, .int .i64 0, .slice none 0 0, .int .i64 0]), by kernel_rfl, rfl, by decide⟩
theorem zO : Zt Tryz.prog 81 [.slice none 0 0, .int .i64 0] := ⟨(.agg #[.slice none 0 0, .int .i64 0]), by kernel_rfl, rfl, by decide⟩
theorem yP : Zt Tryz.prog 83 [.int .i64 0, .int .i64 0] := ⟨(.agg #[.int .i64 0, .int .i64 0]), by kernel_rfl, rfl, by decide⟩
theorem xE : Zt Tryz.prog 85 [.int .i64 0, .string ⟨#[]⟩, .string ⟨#[]⟩, .int .i64 0, .int .i64 0, .int .i64 0, .int .i64 0, .int .i64 0, .int .i64 0, .int .i64 0, .bool false, .int .i64 0, .slice none 0 0, .int .i64 0, .int .i64 0] := ⟨(.agg #[.int .i64 0, .string ⟨#[]⟩, .string ⟨#[]⟩, .int .i64 0, .int .i64 0, .int .i64 0, .int .i64 0, .int .i64 0, .int .i64 0, .int .i64 0, .bool false, .int .i64 0, .slice none 0 0, .int .i64 0, .int .i64 0]), by kernel_rfl, rfl, by decide⟩
theorem z9 : Zt Tryz.prog 9 [.string ⟨#[]⟩] := ⟨(.string ⟨#[]⟩), by kernel_rfl, rfl, by decide⟩
theorem wQ : Jc Tryz.prog 20 107 = [none, none, none] := by kernel_rfl
theorem He : Jc Tryz.prog 20 122 = [none, none] := by kernel_rfl
theorem eQ : Jc Tryz.prog 20 138 = [none, some 1, none, some 4] := by kernel_rfl
theorem vQ : Jc Tryz.prog 20 152 = [none, none, none, none, none, none, none, none, none, none, none, none] := by kernel_rfl
theorem uZ : Jc Tryz.prog 20 157 = [none, none] := by kernel_rfl
theorem yE : Jc Tryz.prog 20 22 = [some 1] := by kernel_rfl
theorem Mn : Jc Tryz.prog 20 3 = [none] := by kernel_rfl
theorem vO : Jc Tryz.prog 20 34 = [none, none] := by kernel_rfl
theorem xO : Jc Tryz.prog 20 37 = [none, none, none, some 1, none, some 4, some 1, some 1, none] := by kernel_rfl
theorem xR : Jc Tryz.prog 20 39 = [none, none] := by kernel_rfl
theorem xW : Jc Tryz.prog 20 42 = [none, none, none, some 15] := by kernel_rfl
theorem dK : Jc Tryz.prog 20 44 = [none, none, none, none, none, none, none, some 15] := by kernel_rfl
theorem lW : Jc Tryz.prog 20 5 = [none] := by kernel_rfl
theorem nZ : Jc Tryz.prog 20 53 = [none, none] := by kernel_rfl
theorem yZ : Jc Tryz.prog 20 77 = [none, none, none, some 3, none] := by kernel_rfl
theorem yI : Jc Tryz.prog 20 85 = [none, none, none, none, none, none, none, none, none, none, none, none, some 1, none, none] := by kernel_rfl
theorem xK : Jc Tryz.prog 20 9 = [none] := by kernel_rfl
theorem yR (s : ByteArray) (c : UInt8) (w : World) : (callFunc 164 [.string s, .int .u8 (c.toNat : Int)].toArray).run Tryz.prog w = .ok (.value (.int .i64 (aO s c))) w := lI Tryz.func164 rfl rfl (by kernel_rfl) (by kernel_rfl) s c w
theorem pJ : Tryz.prog.eqGuardType Tryz.prog.depth 122 = false := by kernel_rfl
theorem wP : Tryz.prog.underlying 122 = some (.struct (Tryz.prog.fieldsOf 122)) := by kernel_rfl
theorem wC : Tryz.prog.stoodInHeld 122 = false := by kernel_rfl
theorem pH (x y : Aa) (w : World) : (Op.equalIn 10000 122 (.agg #[.int .i64 x.First, .int .i64 x.Then]) (.agg #[.int .i64 y.First, .int .i64 y.Then])).run Tryz.prog w = .ok (decide (x = y)) w := by
 have u3 := Tryz.underlying3
 have a3 := Tryz.isAgg3
 have z3 := Tryz.sizeOf3
 rw [show (10000 : Nat) = 9999 + 1 from rfl, run_equalIn_agg w 9999 122 _ _ wP wC]
 simp only [Program.fieldsOf, Tryz.underlying122]
 go_simp
 rcases x with ⟨x0, x1⟩
 rcases y with ⟨y0, y1⟩
 by_cases h0 : x0 = y0 <;> by_cases h1 : x1 = y1 <;> simp [h0, h1]
theorem bL (x y : Aa) {X Y : Operand} {tk : Nat} {yt ty : TypeId} {b1 b2 : Option LB} : F3 Tryz.prog tk (.binOp .eql 122 X Y yt) ty [(.agg [.val (.int .i64 x.First), .val (.int .i64 x.Then)], b1), (.agg [.val (.int .i64 y.First), .val (.int .i64 y.Then)], b2)] [] (v0 (.val (.bool (decide (x = y))))) :=
 .binOpA rfl rfl (fun _ _ => rfl) (fun w => by
  rw [Sem.run_bind, run_eqGuard_agg w _ 122 X Y _ _ pJ]
  simp only [Result.andThen_ok, run_eql_struct]
  exact congrArg (fun r => Result.andThen r _) (pH x y w))
theorem aX (x y : Aa) {X Y : Operand} {tk : Nat} {yt ty : TypeId} {b1 b2 : Option LB} : F3 Tryz.prog tk (.binOp .neq 122 X Y yt) ty [(.agg [.val (.int .i64 x.First), .val (.int .i64 x.Then)], b1), (.agg [.val (.int .i64 y.First), .val (.int .i64 y.Then)], b2)] [] (v0 (.val (.bool (!decide (x = y))))) :=
 .binOpA rfl rfl (fun _ _ => rfl) (fun w => by
  rw [Sem.run_bind, run_eqGuard_agg w _ 122 X Y _ _ pJ]
  simp only [Result.andThen_ok, run_neq_struct]
  exact congrArg (fun r => Result.andThen r _) (pH x y w))
theorem yL : Tryz.prog.eqGuardType Tryz.prog.depth 34 = false := by kernel_rfl
theorem zI : Tryz.prog.underlying 34 = some (.struct (Tryz.prog.fieldsOf 34)) := by kernel_rfl
theorem xZ : Tryz.prog.stoodInHeld 34 = false := by kernel_rfl
theorem zF (x y : Ba) (w : World) : (Op.equalIn 10000 34 (.agg #[.int .i64 x.Client, .int .i64 x.Server]) (.agg #[.int .i64 y.Client, .int .i64 y.Server])).run Tryz.prog w = .ok (decide (x = y)) w := by
 have u3 := Tryz.underlying3
 have a3 := Tryz.isAgg3
 have z3 := Tryz.sizeOf3
 rw [show (10000 : Nat) = 9999 + 1 from rfl, run_equalIn_agg w 9999 34 _ _ zI xZ]
 simp only [Program.fieldsOf, Tryz.underlying34]
 go_simp
 rcases x with ⟨x0, x1⟩
 rcases y with ⟨y0, y1⟩
 by_cases h0 : x0 = y0 <;> by_cases h1 : x1 = y1 <;> simp [h0, h1]
theorem Sp (x y : Ba) {X Y : Operand} {tk : Nat} {yt ty : TypeId} {b1 b2 : Option LB} : F3 Tryz.prog tk (.binOp .eql 34 X Y yt) ty [(.agg [.val (.int .i64 x.Client), .val (.int .i64 x.Server)], b1), (.agg [.val (.int .i64 y.Client), .val (.int .i64 y.Server)], b2)] [] (v0 (.val (.bool (decide (x = y))))) :=
 .binOpA rfl rfl (fun _ _ => rfl) (fun w => by
  rw [Sem.run_bind, run_eqGuard_agg w _ 34 X Y _ _ yL]
  simp only [Result.andThen_ok, run_eql_struct]
  exact congrArg (fun r => Result.andThen r _) (zF x y w))
theorem yN : Tryz.prog.eqGuardType Tryz.prog.depth 39 = false := by kernel_rfl
theorem yQ : Tryz.prog.underlying 39 = some (.struct (Tryz.prog.fieldsOf 39)) := by kernel_rfl
theorem yT : Tryz.prog.stoodInHeld 39 = false := by kernel_rfl
theorem xU (x y : Az) (w : World) : (Op.equalIn 10000 39 (.agg #[.int .i64 x.Alg, .int .i64 x.Bits]) (.agg #[.int .i64 y.Alg, .int .i64 y.Bits])).run Tryz.prog w = .ok (decide (x = y)) w := by
 have u3 := Tryz.underlying3
 have a3 := Tryz.isAgg3
 have z3 := Tryz.sizeOf3
 rw [show (10000 : Nat) = 9999 + 1 from rfl, run_equalIn_agg w 9999 39 _ _ yQ yT]
 simp only [Program.fieldsOf, Tryz.underlying39]
 go_simp
 rcases x with ⟨x0, x1⟩
 rcases y with ⟨y0, y1⟩
 by_cases h0 : x0 = y0 <;> by_cases h1 : x1 = y1 <;> simp [h0, h1]
theorem dX (x y : Az) {X Y : Operand} {tk : Nat} {yt ty : TypeId} {b1 b2 : Option LB} : F3 Tryz.prog tk (.binOp .eql 39 X Y yt) ty [(.agg [.val (.int .i64 x.Alg), .val (.int .i64 x.Bits)], b1), (.agg [.val (.int .i64 y.Alg), .val (.int .i64 y.Bits)], b2)] [] (v0 (.val (.bool (decide (x = y))))) :=
 .binOpA rfl rfl (fun _ _ => rfl) (fun w => by
  rw [Sem.run_bind, run_eqGuard_agg w _ 39 X Y _ _ yN]
  simp only [Result.andThen_ok, run_eql_struct]
  exact congrArg (fun r => Result.andThen r _) (xU x y w))
theorem yF : Tryz.prog.eqGuardType Tryz.prog.depth 53 = false := by kernel_rfl
theorem uT : Tryz.prog.underlying 53 = some (.struct (Tryz.prog.fieldsOf 53)) := by kernel_rfl
theorem yK : Tryz.prog.stoodInHeld 53 = false := by kernel_rfl
theorem vI (x y : Ae) (w : World) : (Op.equalIn 10000 53 (.agg #[.int .i64 x.First, .int .i64 x.Then]) (.agg #[.int .i64 y.First, .int .i64 y.Then])).run Tryz.prog w = .ok (decide (x = y)) w := by
 have u3 := Tryz.underlying3
 have a3 := Tryz.isAgg3
 have z3 := Tryz.sizeOf3
 rw [show (10000 : Nat) = 9999 + 1 from rfl, run_equalIn_agg w 9999 53 _ _ uT yK]
 simp only [Program.fieldsOf, Tryz.underlying53]
 go_simp
 rcases x with ⟨x0, x1⟩
 rcases y with ⟨y0, y1⟩
 by_cases h0 : x0 = y0 <;> by_cases h1 : x1 = y1 <;> simp [h0, h1]
theorem dV (x y : Ae) {X Y : Operand} {tk : Nat} {yt ty : TypeId} {b1 b2 : Option LB} : F3 Tryz.prog tk (.binOp .neq 53 X Y yt) ty [(.agg [.val (.int .i64 x.First), .val (.int .i64 x.Then)], b1), (.agg [.val (.int .i64 y.First), .val (.int .i64 y.Then)], b2)] [] (v0 (.val (.bool (!decide (x = y))))) :=
 .binOpA rfl rfl (fun _ _ => rfl) (fun w => by
  rw [Sem.run_bind, run_eqGuard_agg w _ 53 X Y _ _ yF]
  simp only [Result.andThen_ok, run_neq_struct]
  exact congrArg (fun r => Result.andThen r _) (vI x y w))
theorem Sy : Tryz.prog.underlying 96 = some (.map 53 4) := by kernel_rfl
abbrev Ou (x : Ae) : Value := .agg #[.int .i64 x.First, .int .i64 x.Then]
theorem wH (w : World) : (zeroValue 4).run Tryz.prog w = .ok (.bool false) w := wE (by kernel_rfl) w
theorem Sz : Ya Tryz.prog 53 Ou := xT (by kernel_rfl) (fun x => ⟨_, rfl⟩) (fun e x w => cY uT (by simp only [Program.fieldsOf, Tryz.underlying53]; intro f hf; simp at hf; rcases hf with rfl | rfl <;> exact ⟨by kernel_rfl, _, rfl⟩)) (fun x y w => vI x y w) (fun x => by simp [Instr.sameBits])
instance : Kw Tryz.prog 107 0 0 39 := ⟨oA⟩
instance : Kw Tryz.prog 107 1 2 3 := ⟨Z2⟩
instance : Kw Tryz.prog 122 0 0 3 := ⟨mD⟩
instance : Kw Tryz.prog 122 1 1 3 := ⟨oF⟩
instance : Kw Tryz.prog 138 0 0 3 := ⟨mW⟩
instance : Kw Tryz.prog 138 1 1 110 := ⟨oE⟩
instance : Kw Tryz.prog 138 2 2 4 := ⟨mX⟩
instance : Kw Tryz.prog 138 3 3 136 := ⟨oG⟩
instance : Kw Tryz.prog 152 0 0 3 := ⟨nC⟩
instance : Kw Tryz.prog 157 1 1 3 := ⟨eP⟩
instance : Kw Tryz.prog 189 1 1 3 := ⟨nA⟩
instance : Kw Tryz.prog 189 2 2 3 := ⟨oK⟩
instance : Kw Tryz.prog 189 3 3 22 := ⟨nR⟩
instance : Kw Tryz.prog 189 4 4 22 := ⟨nT⟩
instance : Kw Tryz.prog 29 0 0 25 := ⟨cO⟩
instance : Kw Tryz.prog 29 1 1 26 := ⟨qJ⟩
instance : Kw Tryz.prog 29 2 2 27 := ⟨tO⟩
instance : Kw Tryz.prog 34 0 0 3 := ⟨cW⟩
instance : Kw Tryz.prog 34 1 1 3 := ⟨lJ⟩
instance : Kw Tryz.prog 37 0 0 9 := ⟨iN⟩
instance : Kw Tryz.prog 37 1 1 3 := ⟨tS⟩
instance : Kw Tryz.prog 37 2 2 3 := ⟨rO⟩
instance : Kw Tryz.prog 37 3 3 22 := ⟨qH⟩
instance : Kw Tryz.prog 37 5 5 35 := ⟨qU⟩
instance : Kw Tryz.prog 37 6 6 22 := ⟨qF⟩
instance : Kw Tryz.prog 37 7 7 22 := ⟨tC⟩
instance : Kw Tryz.prog 39 0 0 3 := ⟨sA⟩
instance : Kw Tryz.prog 39 1 1 3 := ⟨sC⟩
instance : Kw Tryz.prog 42 0 0 39 := ⟨rE⟩
instance : Kw Tryz.prog 42 1 2 3 := ⟨tW⟩
instance : Kw Tryz.prog 42 2 3 40 := ⟨rK⟩
instance : Kw Tryz.prog 44 0 0 3 := ⟨dU⟩
instance : Kw Tryz.prog 44 1 1 3 := ⟨tX⟩
instance : Kw Tryz.prog 44 2 2 3 := ⟨sQ⟩
instance : Kw Tryz.prog 53 0 0 3 := ⟨rJ⟩
instance : Kw Tryz.prog 53 1 1 3 := ⟨tV⟩
instance : Kw Tryz.prog 77 0 0 9 := ⟨rS⟩
instance : Kw Tryz.prog 77 1 1 3 := ⟨qY⟩
instance : Kw Tryz.prog 77 2 2 3 := ⟨uG⟩
instance : Kw Tryz.prog 77 3 3 75 := ⟨pQ⟩
instance : Kw Tryz.prog 77 4 4 3 := ⟨tA⟩
instance : Kw Tryz.prog 81 0 0 22 := ⟨rA⟩
instance : Kw Tryz.prog 81 1 1 3 := ⟨rH⟩
instance : Kw Tryz.prog 83 0 0 3 := ⟨qZ⟩
instance : Kw Tryz.prog 83 1 1 3 := ⟨tB⟩
instance : Kw Tryz.prog 85 0 0 3 := ⟨pS⟩
instance : Kw Tryz.prog 85 1 1 9 := ⟨sU⟩
instance : Kw Tryz.prog 85 10 12 71 := ⟨mE⟩
instance : Kw Tryz.prog 85 11 13 83 := ⟨oP⟩
instance : Kw Tryz.prog 85 2 2 9 := ⟨uD⟩
instance : Kw Tryz.prog 85 3 3 39 := ⟨iU⟩
instance : Kw Tryz.prog 85 4 5 3 := ⟨iQ⟩
instance : Kw Tryz.prog 85 5 6 39 := ⟨tZ⟩
instance : Kw Tryz.prog 85 6 8 3 := ⟨uA⟩
instance : Kw Tryz.prog 85 7 9 3 := ⟨tR⟩
instance : Kw Tryz.prog 85 8 10 4 := ⟨rZ⟩
instance : Kw Tryz.prog 85 9 11 3 := ⟨sX⟩
instance : Yb Tryz.prog 110 5 1 1 := ⟨K6⟩
instance : Yb Tryz.prog 121 122 2 16 := ⟨Rf⟩
instance : Yb Tryz.prog 136 138 4 64 := ⟨W0⟩
instance : Yb Tryz.prog 158 157 2 24 := ⟨pL⟩
instance : Yb Tryz.prog 181 152 12 104 := ⟨oR⟩
instance : Yb Tryz.prog 22 3 1 8 := ⟨G1⟩
instance : Yb Tryz.prog 25 37 9 144 := ⟨sJ⟩
instance : Yb Tryz.prog 26 34 2 16 := ⟨mS⟩
instance : Yb Tryz.prog 27 77 5 64 := ⟨qL⟩
instance : Yb Tryz.prog 35 42 4 48 := ⟨wL⟩
instance : Yb Tryz.prog 40 85 15 152 := ⟨wI⟩
instance : Yb Tryz.prog 47 44 8 80 := ⟨Vy⟩
instance : Yb Tryz.prog 48 53 2 16 := ⟨Zc⟩
instance : Yb Tryz.prog 71 9 1 16 := ⟨Xd⟩
instance : Yb Tryz.prog 74 22 1 24 := ⟨wK⟩
instance : Yb Tryz.prog 75 107 3 24 := ⟨qI⟩
instance : Yb Tryz.prog 99 39 2 16 := ⟨uR⟩
instance : Oi Tryz.prog 107 true 3 := ⟨pM⟩
instance : Oi Tryz.prog 110 false 1 := ⟨uN⟩
instance : Oi Tryz.prog 122 true 2 := ⟨Dd⟩
instance : Oi Tryz.prog 136 false 1 := ⟨vL⟩
instance : Oi Tryz.prog 138 true 4 := ⟨aG⟩
instance : Oi Tryz.prog 152 true 12 := ⟨pF⟩
instance : Oi Tryz.prog 189 true 5 := ⟨oY⟩
instance : Oi Tryz.prog 193 false 1 := ⟨wB⟩
instance : Oi Tryz.prog 201 true 115 := ⟨vN⟩
instance : Oi Tryz.prog 205 true 2 := ⟨pG⟩
instance : Oi Tryz.prog 22 false 1 := ⟨wD⟩
instance : Oi Tryz.prog 25 false 1 := ⟨jH⟩
instance : Oi Tryz.prog 26 false 1 := ⟨yM⟩
instance : Oi Tryz.prog 27 false 1 := ⟨yG⟩
instance : Oi Tryz.prog 29 true 3 := ⟨rC⟩
instance : Oi Tryz.prog 3 false 1 := ⟨Nw⟩
instance : Oi Tryz.prog 34 true 2 := ⟨oI⟩
instance : Oi Tryz.prog 35 false 1 := ⟨yJ⟩
instance : Oi Tryz.prog 37 true 9 := ⟨dG⟩
instance : Oi Tryz.prog 39 true 2 := ⟨nB⟩
instance : Oi Tryz.prog 4 false 1 := ⟨zR⟩
instance : Oi Tryz.prog 40 false 1 := ⟨xQ⟩
instance : Oi Tryz.prog 42 true 4 := ⟨vG⟩
instance : Oi Tryz.prog 44 true 8 := ⟨V9⟩
instance : Oi Tryz.prog 47 false 1 := ⟨dN⟩
instance : Oi Tryz.prog 5 false 1 := ⟨lX⟩
instance : Oi Tryz.prog 53 true 2 := ⟨bH⟩
instance : Oi Tryz.prog 59 false 1 := ⟨qM⟩
instance : Oi Tryz.prog 71 false 1 := ⟨yW⟩
instance : Oi Tryz.prog 75 false 1 := ⟨yX⟩
instance : Oi Tryz.prog 77 true 5 := ⟨vT⟩
instance : Oi Tryz.prog 83 true 2 := ⟨zD⟩
instance : Oi Tryz.prog 85 true 15 := ⟨xC⟩
instance : Oi Tryz.prog 9 false 1 := ⟨kI⟩
instance : Vo Tryz.prog 107 [.int .i64 0, .int .i64 0, .int .i64 0] := ⟨pU⟩
instance : Vo Tryz.prog 122 [.int .i64 0, .int .i64 0] := ⟨qA⟩
instance : Vo Tryz.prog 138 [.int .i64 0, .slice none 0 0, .bool false, .slice none 0 0] := ⟨Ye⟩
instance : Vo Tryz.prog 152 [.int .i64 0, .string ⟨#[]⟩, .int .i64 0, .int .i64 0, .int .i64 0, .int .i64 0, .int .i64 0, .int .i64 0, .int .i64 0, .int .i64 0, .int .i64 0, .int .i64 0] := ⟨Pt⟩
instance : Vo Tryz.prog 157 [.string ⟨#[]⟩, .int .i64 0] := ⟨Mk⟩
instance : Vo Tryz.prog 189 [.string ⟨#[]⟩, .int .i64 0, .int .i64 0, .slice none 0 0, .slice none 0 0] := ⟨Mo⟩
instance : Vo Tryz.prog 193 [.int .u64 0] := ⟨xL⟩
instance : Vo Tryz.prog 201 [.string ⟨#[]⟩, .int .i64 0, .int .i64 0, .slice none 0 0, .slice none 0 0, .string ⟨#[]⟩, .int .i64 0, .int .i64 0, .slice none 0 0, .slice none 0 0, .string ⟨#[]⟩, .int .i64 0, .int .i64 0, .slice none 0 0, .slice none 0 0, .string ⟨#[]⟩, .int .i64 0, .int .i64 0, .slice none 0 0, .slice none 0 0, .string ⟨#[]⟩, .int .i64 0, .int .i64 0, .slice none 0 0, .slice none 0 0, .string ⟨#[]⟩, .int .i64 0, .int .i64 0, .slice none 0 0, .slice none 0 0, .string ⟨#[]⟩, .int .i64 0, .int .i64 0, .slice none 0 0, .slice none 0 0, .string ⟨#[]⟩, .int .i64 0, .int .i64 0, .slice none 0 0, .slice none 0 0, .string ⟨#[]⟩, .int .i64 0, .int .i64 0, .slice none 0 0, .slice none 0 0, .string ⟨#[]⟩, .int .i64 0, .int .i64 0, .slice none 0 0, .slice none 0 0, .string ⟨#[]⟩, .int .i64 0, .int .i64 0, .slice none 0 0, .slice none 0 0, .string ⟨#[]⟩, .int .i64 0, .int .i64 0, .slice none 0 0, .slice none 0 0, .string ⟨#[]⟩, .int .i64 0, .int .i64 0, .slice none 0 0, .slice none 0 0, .string ⟨#[]⟩, .int .i64 0, .int .i64 0, .slice none 0 0, .slice none 0 0, .string ⟨#[]⟩, .int .i64 0, .int .i64 0, .slice none 0 0, .slice none 0 0, .string ⟨#[]⟩, .int .i64 0, .int .i64 0, .slice none 0 0, .slice none 0 0, .string ⟨#[]⟩, .int .i64 0, .int .i64 0, .slice none 0 0, .slice none 0 0, .string ⟨#[]⟩, .int .i64 0, .int .i64 0, .slice none 0 0, .slice none 0 0, .string ⟨#[]⟩, .int .i64 0, .int .i64 0, .slice none 0 0, .slice none 0 0, .string ⟨#[]⟩, .int .i64 0, .int .i64 0, .slice none 0 0, .slice none 0 0, .string ⟨#[]⟩, .int .i64 0, .int .i64 0, .slice none 0 0, .slice none 0 0, .string ⟨#[]⟩, .int .i64 0, .int .i64 0, .slice none 0 0, .slice none 0 0, .string ⟨#[]⟩, .int .i64 0, .int .i64 0, .slice none 0 0, .slice none 0 0] := ⟨wY⟩
instance : Vo Tryz.prog 205 [.int .i64 0, .int .i64 0] := ⟨gD⟩
instance : Vo Tryz.prog 206 [.int .i64 0, .int .i64 0, .int .i64 0, .int .i64 0, .int .i64 0, .int .i64 0, .int .i64 0, .int .i64 0, .int .i64 0, .int .i64 0] := ⟨wV⟩
instance : Vo Tryz.prog 22 [.slice none 0 0] := ⟨zP⟩
instance : Vo Tryz.prog 29 [.slice none 0 0, .slice none 0 0, .slice none 0 0] := ⟨zQ⟩
instance : Vo Tryz.prog 3 [.int .i64 0] := ⟨z3⟩
instance : Vo Tryz.prog 34 [.int .i64 0, .int .i64 0] := ⟨mH⟩
instance : Vo Tryz.prog 37 [.string ⟨#[]⟩, .int .i64 0, .int .i64 0, .slice none 0 0, .bool false, .slice none 0 0, .slice none 0 0, .slice none 0 0, .bool false] := ⟨uM⟩
instance : Vo Tryz.prog 39 [.int .i64 0, .int .i64 0] := ⟨gY⟩
instance : Vo Tryz.prog 42 [.int .i64 0, .int .i64 0, .int .i64 0, .slice none 0 0] := ⟨xP⟩
instance : Vo Tryz.prog 44 [.int .i64 0, .int .i64 0, .int .i64 0, .int .i64 0, .int .i64 0, .int .i64 0, .int .i64 0, .slice none 0 0] := ⟨eZ⟩
instance : Vo Tryz.prog 5 [.int .u8 0] := ⟨z5⟩
instance : Vo Tryz.prog 53 [.int .i64 0, .int .i64 0] := ⟨fZ⟩
instance : Vo Tryz.prog 77 [.string ⟨#[]⟩, .int .i64 0, .int .i64 0, .slice none 0 0, .int .i64 0] := ⟨zA⟩
instance : Vo Tryz.prog 81 [.slice none 0 0, .int .i64 0] := ⟨zO⟩
instance : Vo Tryz.prog 83 [.int .i64 0, .int .i64 0] := ⟨yP⟩
instance : Vo Tryz.prog 85 [.int .i64 0, .string ⟨#[]⟩, .string ⟨#[]⟩, .int .i64 0, .int .i64 0, .int .i64 0, .int .i64 0, .int .i64 0, .int .i64 0, .int .i64 0, .bool false, .int .i64 0, .slice none 0 0, .int .i64 0, .int .i64 0] := ⟨xE⟩
instance : Vo Tryz.prog 9 [.string ⟨#[]⟩] := ⟨z9⟩
instance : Un Ac.enc 2 := ⟨Ac.enc_len⟩
instance : Un Az.enc 2 := ⟨Az.enc_len⟩
instance : Un Ga.enc 2 := ⟨Ga.enc_len⟩
instance : Un Am.enc 15 := ⟨Am.enc_len⟩
instance : Un Bq.enc 4 := ⟨Bq.enc_len⟩
instance : Un Aw.enc 9 := ⟨Aw.enc_len⟩
instance : Un Ba.enc 2 := ⟨Ba.enc_len⟩
instance : Un Ds.enc 3 := ⟨Ds.enc_len⟩
instance : Un By.enc 5 := ⟨By.enc_len⟩
instance : Un Bj.enc 3 := ⟨Bj.enc_len⟩
instance : Un An.enc 8 := ⟨An.enc_len⟩
instance : Un Ae.enc 2 := ⟨Ae.enc_len⟩
instance : Un Aa.enc 2 := ⟨Aa.enc_len⟩
instance : Un Ar.enc 2 := ⟨Ar.enc_len⟩
instance : Un Ah.enc 4 := ⟨Ah.enc_len⟩
instance : Un A4.enc 12 := ⟨A4.enc_len⟩
instance : Un Bo.enc 5 := ⟨Bo.enc_len⟩
end Go.Proofs.YtkpcbnnlefcebaaGreat
