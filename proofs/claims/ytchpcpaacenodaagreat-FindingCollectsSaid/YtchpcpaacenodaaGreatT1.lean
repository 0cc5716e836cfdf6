import Derived.Test.YtchpcpaacenodaaGreatEH
import Derived.Test.YtchpcpaacenodaaGreatP1
import Derived.Test.YtchpcpaacenodaaGreatProg
set_option linter.unusedVariables false
set_option linter.unusedSimpArgs false
set_option maxRecDepth 100000
set_option maxHeartbeats 1600000
namespace Go.Proofs.YtchpcpaacenodaaGreat
open Go.RowKit
abbrev Ac.dv (x:Ac):List DV:=[.sl 1 (Aq eI x.L),.val (.int .i64 x.At)]
def Ac.enc (x:Ac):List C:=[.sl 1 (Aq eI x.L),.int .i64 x.At]
theorem Ac.enc_len (x:Ac):(Ac.enc x).length=2:=rfl
abbrev Am.dv (x:Am):List DV:=[.val (.int .i64 x.Alg),.val (.int .i64 x.Bits)]
def Am.enc (x:Am):List C:=[.int .i64 x.Alg,.int .i64 x.Bits]
theorem Am.enc_len (x:Am):(Am.enc x).length=2:=rfl
abbrev Aa.dv (x:Aa):List DV:=[.val (.int .i64 x.Source),.val (.string x.Host),.val (.int .i64 x.Machine),.val (.int .i64 x.Day),.val (.int .i64 x.Confidence),.val (.int .i64 x.Kind),.val (.string x.Subject),.val (.int .i64 x.Use.Alg),.val (.int .i64 x.Use.Bits),.val (.int .i64 x.Number),.val (.string x.Text)]
def Aa.enc (x:Aa):List C:=[.int .i64 x.Source,.str x.Host,.int .i64 x.Machine,.int .i64 x.Day,.int .i64 x.Confidence,.int .i64 x.Kind,.str x.Subject,.int .i64 x.Use.Alg,.int .i64 x.Use.Bits,.int .i64 x.Number,.str x.Text]
abbrev Aa.ec (x:Aa):List C:=[.int .i64 x.Source,.str x.Host,.int .i64 x.Machine,.int .i64 x.Day,.int .i64 x.Confidence,.int .i64 x.Kind,.str x.Subject,.int .i64 x.Use.Alg,.int .i64 x.Use.Bits,.int .i64 x.Number,.str x.Text]
theorem Aa.enc_len (x:Aa):(Aa.enc x).length=11:=rfl
abbrev Eu.dv (x:Eu):List DV:=[.val (.int .i64 x.Key),.val (.int .i64 x.Sum)]
def Eu.enc (x:Eu):List C:=[.int .i64 x.Key,.int .i64 x.Sum]
theorem Eu.enc_len (x:Eu):(Eu.enc x).length=2:=rfl
abbrev Af.dv (x:Af):List DV:=[.val (.int .i64 x.Serial),.val (.string x.Issuer),.val (.string x.Subject),.val (.int .i64 x.Key.Alg),.val (.int .i64 x.Key.Bits),.val (.int .i64 x.KeyId),.val (.int .i64 x.Hash.Alg),.val (.int .i64 x.Hash.Bits),.val (.int .i64 x.From),.val (.int .i64 x.To),.val (.bool x.Authority),.val (.int .i64 x.Path),.sl 1 (Aq eS x.Names),.val (.int .i64 x.Seal.Key),.val (.int .i64 x.Seal.Sum)]
def Af.enc (x:Af):List C:=[.int .i64 x.Serial,.str x.Issuer,.str x.Subject,.int .i64 x.Key.Alg,.int .i64 x.Key.Bits,.int .i64 x.KeyId,.int .i64 x.Hash.Alg,.int .i64 x.Hash.Bits,.int .i64 x.From,.int .i64 x.To,.bool x.Authority,.int .i64 x.Path,.sl 1 (Aq eS x.Names),.int .i64 x.Seal.Key,.int .i64 x.Seal.Sum]
theorem Af.enc_len (x:Af):(Af.enc x).length=15:=rfl
abbrev A9.dv (x:A9):List DV:=[.val (.int .i64 x.Key.Alg),.val (.int .i64 x.Key.Bits),.val (.int .i64 x.KeyId),.sl 15 (Aq Af.enc x.Chain)]
def A9.enc (x:A9):List C:=[.int .i64 x.Key.Alg,.int .i64 x.Key.Bits,.int .i64 x.KeyId,.sl 15 (Aq Af.enc x.Chain)]
theorem A9.enc_len (x:A9):(A9.enc x).length=4:=rfl
abbrev Av.dv (x:Av):List DV:=[.val (.string x.Name),.val (.int .i64 x.Least),.val (.int .i64 x.Most),.sl 1 (Aq eI x.Suites),.val (.bool x.OwnOrder),.sl 4 (Aq A9.enc x.Identities),.sl 1 (Aq eI x.Anchors),.sl 1 (Aq eI x.Hashes),.val (.bool x.Fallback)]
def Av.enc (x:Av):List C:=[.str x.Name,.int .i64 x.Least,.int .i64 x.Most,.sl 1 (Aq eI x.Suites),.bool x.OwnOrder,.sl 4 (Aq A9.enc x.Identities),.sl 1 (Aq eI x.Anchors),.sl 1 (Aq eI x.Hashes),.bool x.Fallback]
theorem Av.enc_len (x:Av):(Av.enc x).length=9:=rfl
abbrev Ax.dv (x:Ax):List DV:=[.val (.string x.Alias),.val (.int .i64 x.Key.Alg),.val (.int .i64 x.Key.Bits),.val (.int .i64 x.KeyId),.val (.bool x.Secret),.sl 15 (Aq Af.enc x.Chain)]
def Ax.enc (x:Ax):List C:=[.str x.Alias,.int .i64 x.Key.Alg,.int .i64 x.Key.Bits,.int .i64 x.KeyId,.bool x.Secret,.sl 15 (Aq Af.enc x.Chain)]
theorem Ax.enc_len (x:Ax):(Ax.enc x).length=6:=rfl
abbrev Dj.dv (x:Dj):List DV:=[.val (.int .i64 x.Most),.sl 1 (Aq eI x.Suites),.sl 1 (Aq eI x.Hashes)]
def Dj.enc (x:Dj):List C:=[.int .i64 x.Most,.sl 1 (Aq eI x.Suites),.sl 1 (Aq eI x.Hashes)]
theorem Dj.enc_len (x:Dj):(Dj.enc x).length=3:=rfl
abbrev C6.dv (x:C6):List DV:=[.val (.int .i64 x.Version),.val (.int .i64 x.Suite),.val (.int .i64 x.KeyId)]
def C6.enc (x:C6):List C:=[.int .i64 x.Version,.int .i64 x.Suite,.int .i64 x.KeyId]
theorem C6.enc_len (x:C6):(C6.enc x).length=3:=rfl
abbrev Dv.dv (x:Dv):List DV:=[.val (.int .i64 x.at_.Source),.val (.string x.at_.Host),.val (.int .i64 x.at_.Machine),.val (.int .i64 x.at_.Day),.val (.int .i64 x.at_.Confidence),.val (.int .i64 x.at_.Kind),.val (.string x.at_.Subject),.val (.int .i64 x.at_.Use.Alg),.val (.int .i64 x.at_.Use.Bits),.val (.int .i64 x.at_.Number),.val (.string x.at_.Text),.sl 11 (Aq Aa.enc x.l)]
def Dv.enc (x:Dv):List C:=[.int .i64 x.at_.Source,.str x.at_.Host,.int .i64 x.at_.Machine,.int .i64 x.at_.Day,.int .i64 x.at_.Confidence,.int .i64 x.at_.Kind,.str x.at_.Subject,.int .i64 x.at_.Use.Alg,.int .i64 x.at_.Use.Bits,.int .i64 x.at_.Number,.str x.at_.Text,.sl 11 (Aq Aa.enc x.l)]
theorem Dv.enc_len (x:Dv):(Dv.enc x).length=12:=rfl
abbrev Cb.dv (x:Cb):List DV:=[.val (.string x.name),.val (.int .i64 x.kind),.val (.int .i64 x.way),.sl 1 (Aq eI x.sizes),.sl 1 (Aq eI x.strengths)]
def Cb.enc (x:Cb):List C:=[.str x.name,.int .i64 x.kind,.int .i64 x.way,.sl 1 (Aq eI x.sizes),.sl 1 (Aq eI x.strengths)]
theorem Cb.enc_len (x:Cb):(Cb.enc x).length=5:=rfl
abbrev A4.dv (x:A4):List DV:=[.val (.int .i64 x.Code),.val (.string x.Name),.val (.int .i64 x.Exchange.Alg),.val (.int .i64 x.Exchange.Bits),.val (.int .i64 x.Sign.Alg),.val (.int .i64 x.Sign.Bits),.val (.int .i64 x.Cipher.Alg),.val (.int .i64 x.Cipher.Bits),.val (.int .i64 x.Mac.Alg),.val (.int .i64 x.Mac.Bits),.val (.int .i64 x.Least),.val (.int .i64 x.Most)]
def A4.enc (x:A4):List C:=[.int .i64 x.Code,.str x.Name,.int .i64 x.Exchange.Alg,.int .i64 x.Exchange.Bits,.int .i64 x.Sign.Alg,.int .i64 x.Sign.Bits,.int .i64 x.Cipher.Alg,.int .i64 x.Cipher.Bits,.int .i64 x.Mac.Alg,.int .i64 x.Mac.Bits,.int .i64 x.Least,.int .i64 x.Most]
theorem A4.enc_len (x:A4):(A4.enc x).length=12:=rfl
abbrev Au.dv (x:Au):List DV:=[.val (.string x.name),.val (.int .i64 x.kind)]
def Au.enc (x:Au):List C:=[.str x.name,.int .i64 x.kind]
theorem Au.enc_len (x:Au):(Au.enc x).length=2:=rfl
mutual
def Ah.enc:Ah->List C
 | ⟨Tag,Bytes,Nested,Elements⟩=>[.int .i64 Tag,.sl 1 (Aq e8 Bytes),.bool Nested,.sl 4 (Ah.encs Elements)]
def Ah.encs:List Ah->List C
 | []=>[]
 | x :: l=>Ah.enc x ++ Ah.encs l
end
theorem Ah.encs_eq:∀ (l:List Ah),Ah.encs l=Aq Ah.enc l
 | []=>rfl
 | x :: l=>by
  show Ah.enc x ++ Ah.encs l=Ah.enc x ++ Aq Ah.enc l
  rw [Ah.encs_eq l]
theorem Ah.enc_eq (x:Ah):Ah.enc x=[.int .i64 x.Tag,.sl 1 (Aq e8 x.Bytes),.bool x.Nested,.sl 4 (Aq Ah.enc x.Elements)]:=by
 cases x
 simp only [Ah.enc,Ah.encs_eq]
theorem Ah.enc_len (x:Ah):(Ah.enc x).length=4:=by rw [Ah.enc_eq]; rfl
abbrev Ah.dv (x:Ah):List DV:=[.val (.int .i64 x.Tag),.sl 1 (Aq e8 x.Bytes),.val (.bool x.Nested),.sl 4 (Aq Ah.enc x.Elements)]
theorem Ni:Tryz.prog.underlying 3=some (.int .i64):=by kernel_rfl
theorem aGw:Tryz.prog.underlying 4=some (.bool):=by kernel_rfl
theorem Ng:Tryz.prog.underlying 5=some (.int .u8):=by kernel_rfl
theorem Ti:Tryz.prog.underlying 9=some (.string):=by kernel_rfl
theorem Hj:Tryz.prog.underlying 28=some (.struct ((match Tryz.prog.underlying 28 with | some (.struct f)=>f | _=>#[]))):=by kernel_rfl
theorem P4:Tryz.prog.underlying 30=some (.struct ((match Tryz.prog.underlying 30 with | some (.struct f)=>f | _=>#[]))):=by kernel_rfl
theorem Yf:Tryz.prog.underlying 34=some (.struct ((match Tryz.prog.underlying 34 with | some (.struct f)=>f | _=>#[]))):=by kernel_rfl
theorem oF:Tryz.prog.underlying 43=some (.struct ((match Tryz.prog.underlying 43 with | some (.struct f)=>f | _=>#[]))):=by kernel_rfl
theorem nR:Tryz.prog.underlying 46=some (.struct ((match Tryz.prog.underlying 46 with | some (.struct f)=>f | _=>#[]))):=by kernel_rfl
theorem aQ:Tryz.prog.underlying 50=some (.struct ((match Tryz.prog.underlying 50 with | some (.struct f)=>f | _=>#[]))):=by kernel_rfl
theorem aF9:Tryz.prog.underlying 51=some (.slice 30):=by kernel_rfl
theorem rT:Tryz.prog.underlying 62=some (.struct ((match Tryz.prog.underlying 62 with | some (.struct f)=>f | _=>#[]))):=by kernel_rfl
theorem dH:Tryz.prog.underlying 67=some (.struct ((match Tryz.prog.underlying 67 with | some (.struct f)=>f | _=>#[]))):=by kernel_rfl
theorem sH:Tryz.prog.underlying 82=some (.struct ((match Tryz.prog.underlying 82 with | some (.struct f)=>f | _=>#[]))):=by kernel_rfl
theorem rL:Tryz.prog.underlying 89=some (.slice 5):=by kernel_rfl
theorem K2:Tryz.prog.underlying 94=some (.struct ((match Tryz.prog.underlying 94 with | some (.struct f)=>f | _=>#[]))):=by kernel_rfl
theorem eV:Tryz.prog.underlying 102=some (.struct ((match Tryz.prog.underlying 102 with | some (.struct f)=>f | _=>#[]))):=by kernel_rfl
theorem L9:Tryz.prog.underlying 104=some (.struct ((match Tryz.prog.underlying 104 with | some (.struct f)=>f | _=>#[]))):=by kernel_rfl
theorem kU:Tryz.prog.underlying 114=some (.int .u64):=by kernel_rfl
theorem H8:Tryz.prog.underlying 133=some (.struct ((match Tryz.prog.underlying 133 with | some (.struct f)=>f | _=>#[]))):=by kernel_rfl
theorem G9:Tryz.prog.underlying 137=some (.struct ((match Tryz.prog.underlying 137 with | some (.struct f)=>f | _=>#[]))):=by kernel_rfl
theorem qV:Tryz.prog.underlying 158=some (.int .u32):=by kernel_rfl
theorem aC1:Tryz.prog.underlying 160=some (.int .u64):=by kernel_rfl
theorem sA:Tryz.prog.underlying 162=some (.array 23 137):=by kernel_rfl
theorem Vl:Tryz.prog.underlying 164=some (.array 2 3):=by kernel_rfl
theorem rD:Tryz.prog.underlying 165=some (.array 5 164):=by kernel_rfl
theorem R3:Tryz.prog.underlying 169=some (.struct ((match Tryz.prog.underlying 169 with | some (.struct f)=>f | _=>#[]))):=by kernel_rfl
theorem aA0:Tryz.prog.underlying 173=some (.int .u64):=by kernel_rfl
theorem xO:Fd Tryz.prog 102 0 0 3:=⟨_,(match Tryz.prog.underlying 102 with | some (.struct f)=>f | _=>#[])[0]!,eV,by kernel_rfl,by kernel_rfl,by kernel_rfl⟩
theorem xJ:Fd Tryz.prog 102 1 1 3:=⟨_,(match Tryz.prog.underlying 102 with | some (.struct f)=>f | _=>#[])[1]!,eV,by kernel_rfl,by kernel_rfl,by kernel_rfl⟩
theorem wZ:Fd Tryz.prog 104 0 0 3:=⟨_,(match Tryz.prog.underlying 104 with | some (.struct f)=>f | _=>#[])[0]!,L9,by kernel_rfl,by kernel_rfl,by kernel_rfl⟩
theorem wN:Fd Tryz.prog 104 1 1 9:=⟨_,(match Tryz.prog.underlying 104 with | some (.struct f)=>f | _=>#[])[1]!,L9,by kernel_rfl,by kernel_rfl,by kernel_rfl⟩
theorem rC:Fd Tryz.prog 104 10 12 71:=⟨_,(match Tryz.prog.underlying 104 with | some (.struct f)=>f | _=>#[])[10]!,L9,by kernel_rfl,by kernel_rfl,by kernel_rfl⟩
theorem tE:Fd Tryz.prog 104 11 13 102:=⟨_,(match Tryz.prog.underlying 104 with | some (.struct f)=>f | _=>#[])[11]!,L9,by kernel_rfl,by kernel_rfl,by kernel_rfl⟩
theorem wH:Fd Tryz.prog 104 2 2 9:=⟨_,(match Tryz.prog.underlying 104 with | some (.struct f)=>f | _=>#[])[2]!,L9,by kernel_rfl,by kernel_rfl,by kernel_rfl⟩
theorem gU:Fd Tryz.prog 104 3 3 28:=⟨_,(match Tryz.prog.underlying 104 with | some (.struct f)=>f | _=>#[])[3]!,L9,by kernel_rfl,by kernel_rfl,by kernel_rfl⟩
theorem fP:Fd Tryz.prog 104 4 5 3:=⟨_,(match Tryz.prog.underlying 104 with | some (.struct f)=>f | _=>#[])[4]!,L9,by kernel_rfl,by kernel_rfl,by kernel_rfl⟩
theorem wV:Fd Tryz.prog 104 5 6 28:=⟨_,(match Tryz.prog.underlying 104 with | some (.struct f)=>f | _=>#[])[5]!,L9,by kernel_rfl,by kernel_rfl,by kernel_rfl⟩
theorem yD:Fd Tryz.prog 104 6 8 3:=⟨_,(match Tryz.prog.underlying 104 with | some (.struct f)=>f | _=>#[])[6]!,L9,by kernel_rfl,by kernel_rfl,by kernel_rfl⟩
theorem xD:Fd Tryz.prog 104 7 9 3:=⟨_,(match Tryz.prog.underlying 104 with | some (.struct f)=>f | _=>#[])[7]!,L9,by kernel_rfl,by kernel_rfl,by kernel_rfl⟩
theorem xK:Fd Tryz.prog 104 8 10 4:=⟨_,(match Tryz.prog.underlying 104 with | some (.struct f)=>f | _=>#[])[8]!,L9,by kernel_rfl,by kernel_rfl,by kernel_rfl⟩
theorem yZ:Fd Tryz.prog 104 9 11 3:=⟨_,(match Tryz.prog.underlying 104 with | some (.struct f)=>f | _=>#[])[9]!,L9,by kernel_rfl,by kernel_rfl,by kernel_rfl⟩
theorem nN:Fd Tryz.prog 133 1 1 3:=⟨_,(match Tryz.prog.underlying 133 with | some (.struct f)=>f | _=>#[])[1]!,H8,by kernel_rfl,by kernel_rfl,by kernel_rfl⟩
theorem wB:Fd Tryz.prog 137 1 1 3:=⟨_,(match Tryz.prog.underlying 137 with | some (.struct f)=>f | _=>#[])[1]!,G9,by kernel_rfl,by kernel_rfl,by kernel_rfl⟩
theorem vW:Fd Tryz.prog 137 2 2 3:=⟨_,(match Tryz.prog.underlying 137 with | some (.struct f)=>f | _=>#[])[2]!,G9,by kernel_rfl,by kernel_rfl,by kernel_rfl⟩
theorem xM:Fd Tryz.prog 137 3 3 22:=⟨_,(match Tryz.prog.underlying 137 with | some (.struct f)=>f | _=>#[])[3]!,G9,by kernel_rfl,by kernel_rfl,by kernel_rfl⟩
theorem xQ:Fd Tryz.prog 137 4 4 22:=⟨_,(match Tryz.prog.underlying 137 with | some (.struct f)=>f | _=>#[])[4]!,G9,by kernel_rfl,by kernel_rfl,by kernel_rfl⟩
theorem xE:Fd Tryz.prog 169 0 0 3:=⟨_,(match Tryz.prog.underlying 169 with | some (.struct f)=>f | _=>#[])[0]!,R3,by kernel_rfl,by kernel_rfl,by kernel_rfl⟩
theorem wA:Fd Tryz.prog 169 1 1 89:=⟨_,(match Tryz.prog.underlying 169 with | some (.struct f)=>f | _=>#[])[1]!,R3,by kernel_rfl,by kernel_rfl,by kernel_rfl⟩
theorem xG:Fd Tryz.prog 169 2 2 4:=⟨_,(match Tryz.prog.underlying 169 with | some (.struct f)=>f | _=>#[])[2]!,R3,by kernel_rfl,by kernel_rfl,by kernel_rfl⟩
theorem xA:Fd Tryz.prog 169 3 3 167:=⟨_,(match Tryz.prog.underlying 169 with | some (.struct f)=>f | _=>#[])[3]!,R3,by kernel_rfl,by kernel_rfl,by kernel_rfl⟩
theorem aCp:Fd Tryz.prog 28 0 0 3:=⟨_,(match Tryz.prog.underlying 28 with | some (.struct f)=>f | _=>#[])[0]!,Hj,by kernel_rfl,by kernel_rfl,by kernel_rfl⟩
theorem aBm:Fd Tryz.prog 28 1 1 3:=⟨_,(match Tryz.prog.underlying 28 with | some (.struct f)=>f | _=>#[])[1]!,Hj,by kernel_rfl,by kernel_rfl,by kernel_rfl⟩
theorem aDs:Fd Tryz.prog 30 0 0 3:=⟨_,(match Tryz.prog.underlying 30 with | some (.struct f)=>f | _=>#[])[0]!,P4,by kernel_rfl,by kernel_rfl,by kernel_rfl⟩
theorem aC7:Fd Tryz.prog 30 1 1 9:=⟨_,(match Tryz.prog.underlying 30 with | some (.struct f)=>f | _=>#[])[1]!,P4,by kernel_rfl,by kernel_rfl,by kernel_rfl⟩
theorem aDq:Fd Tryz.prog 30 2 2 3:=⟨_,(match Tryz.prog.underlying 30 with | some (.struct f)=>f | _=>#[])[2]!,P4,by kernel_rfl,by kernel_rfl,by kernel_rfl⟩
theorem aC0:Fd Tryz.prog 30 3 3 3:=⟨_,(match Tryz.prog.underlying 30 with | some (.struct f)=>f | _=>#[])[3]!,P4,by kernel_rfl,by kernel_rfl,by kernel_rfl⟩
theorem aBr:Fd Tryz.prog 30 4 4 3:=⟨_,(match Tryz.prog.underlying 30 with | some (.struct f)=>f | _=>#[])[4]!,P4,by kernel_rfl,by kernel_rfl,by kernel_rfl⟩
theorem tF:Fd Tryz.prog 30 5 5 3:=⟨_,(match Tryz.prog.underlying 30 with | some (.struct f)=>f | _=>#[])[5]!,P4,by kernel_rfl,by kernel_rfl,by kernel_rfl⟩
theorem aAw:Fd Tryz.prog 30 6 6 9:=⟨_,(match Tryz.prog.underlying 30 with | some (.struct f)=>f | _=>#[])[6]!,P4,by kernel_rfl,by kernel_rfl,by kernel_rfl⟩
theorem aDr:Fd Tryz.prog 30 7 7 28:=⟨_,(match Tryz.prog.underlying 30 with | some (.struct f)=>f | _=>#[])[7]!,P4,by kernel_rfl,by kernel_rfl,by kernel_rfl⟩
theorem rW:Fd Tryz.prog 30 8 9 3:=⟨_,(match Tryz.prog.underlying 30 with | some (.struct f)=>f | _=>#[])[8]!,P4,by kernel_rfl,by kernel_rfl,by kernel_rfl⟩
theorem aBk:Fd Tryz.prog 30 9 10 9:=⟨_,(match Tryz.prog.underlying 30 with | some (.struct f)=>f | _=>#[])[9]!,P4,by kernel_rfl,by kernel_rfl,by kernel_rfl⟩
theorem aB0:Fd Tryz.prog 34 0 0 9:=⟨_,(match Tryz.prog.underlying 34 with | some (.struct f)=>f | _=>#[])[0]!,Yf,by kernel_rfl,by kernel_rfl,by kernel_rfl⟩
theorem aC8:Fd Tryz.prog 34 1 1 3:=⟨_,(match Tryz.prog.underlying 34 with | some (.struct f)=>f | _=>#[])[1]!,Yf,by kernel_rfl,by kernel_rfl,by kernel_rfl⟩
theorem aCk:Fd Tryz.prog 34 2 2 3:=⟨_,(match Tryz.prog.underlying 34 with | some (.struct f)=>f | _=>#[])[2]!,Yf,by kernel_rfl,by kernel_rfl,by kernel_rfl⟩
theorem aBw:Fd Tryz.prog 34 3 3 22:=⟨_,(match Tryz.prog.underlying 34 with | some (.struct f)=>f | _=>#[])[3]!,Yf,by kernel_rfl,by kernel_rfl,by kernel_rfl⟩
theorem aD0:Fd Tryz.prog 34 5 5 32:=⟨_,(match Tryz.prog.underlying 34 with | some (.struct f)=>f | _=>#[])[5]!,Yf,by kernel_rfl,by kernel_rfl,by kernel_rfl⟩
theorem aAo:Fd Tryz.prog 34 6 6 22:=⟨_,(match Tryz.prog.underlying 34 with | some (.struct f)=>f | _=>#[])[6]!,Yf,by kernel_rfl,by kernel_rfl,by kernel_rfl⟩
theorem aDv:Fd Tryz.prog 34 7 7 22:=⟨_,(match Tryz.prog.underlying 34 with | some (.struct f)=>f | _=>#[])[7]!,Yf,by kernel_rfl,by kernel_rfl,by kernel_rfl⟩
theorem aBe:Fd Tryz.prog 43 0 0 3:=⟨_,(match Tryz.prog.underlying 43 with | some (.struct f)=>f | _=>#[])[0]!,oF,by kernel_rfl,by kernel_rfl,by kernel_rfl⟩
theorem aDk:Fd Tryz.prog 43 1 1 22:=⟨_,(match Tryz.prog.underlying 43 with | some (.struct f)=>f | _=>#[])[1]!,oF,by kernel_rfl,by kernel_rfl,by kernel_rfl⟩
theorem aDf:Fd Tryz.prog 43 2 2 22:=⟨_,(match Tryz.prog.underlying 43 with | some (.struct f)=>f | _=>#[])[2]!,oF,by kernel_rfl,by kernel_rfl,by kernel_rfl⟩
theorem aA4:Fd Tryz.prog 46 0 0 3:=⟨_,(match Tryz.prog.underlying 46 with | some (.struct f)=>f | _=>#[])[0]!,nR,by kernel_rfl,by kernel_rfl,by kernel_rfl⟩
theorem aB7:Fd Tryz.prog 46 1 1 3:=⟨_,(match Tryz.prog.underlying 46 with | some (.struct f)=>f | _=>#[])[1]!,nR,by kernel_rfl,by kernel_rfl,by kernel_rfl⟩
theorem aB3:Fd Tryz.prog 46 2 2 3:=⟨_,(match Tryz.prog.underlying 46 with | some (.struct f)=>f | _=>#[])[2]!,nR,by kernel_rfl,by kernel_rfl,by kernel_rfl⟩
theorem aP:Fd Tryz.prog 50 0 0 9:=⟨_,(match Tryz.prog.underlying 50 with | some (.struct f)=>f | _=>#[])[0]!,aQ,by kernel_rfl,by kernel_rfl,by kernel_rfl⟩
theorem fL:Fd Tryz.prog 50 1 1 28:=⟨_,(match Tryz.prog.underlying 50 with | some (.struct f)=>f | _=>#[])[1]!,aQ,by kernel_rfl,by kernel_rfl,by kernel_rfl⟩
theorem fF:Fd Tryz.prog 50 2 3 3:=⟨_,(match Tryz.prog.underlying 50 with | some (.struct f)=>f | _=>#[])[2]!,aQ,by kernel_rfl,by kernel_rfl,by kernel_rfl⟩
theorem kY:Fd Tryz.prog 50 4 5 48:=⟨_,(match Tryz.prog.underlying 50 with | some (.struct f)=>f | _=>#[])[4]!,aQ,by kernel_rfl,by kernel_rfl,by kernel_rfl⟩
theorem aDn:Fd Tryz.prog 62 0 0 22:=⟨_,(match Tryz.prog.underlying 62 with | some (.struct f)=>f | _=>#[])[0]!,rT,by kernel_rfl,by kernel_rfl,by kernel_rfl⟩
theorem aDw:Fd Tryz.prog 62 1 1 3:=⟨_,(match Tryz.prog.underlying 62 with | some (.struct f)=>f | _=>#[])[1]!,rT,by kernel_rfl,by kernel_rfl,by kernel_rfl⟩
theorem mI:Fd Tryz.prog 67 0 0 28:=⟨_,(match Tryz.prog.underlying 67 with | some (.struct f)=>f | _=>#[])[0]!,dH,by kernel_rfl,by kernel_rfl,by kernel_rfl⟩
theorem lL:Fd Tryz.prog 67 1 2 3:=⟨_,(match Tryz.prog.underlying 67 with | some (.struct f)=>f | _=>#[])[1]!,dH,by kernel_rfl,by kernel_rfl,by kernel_rfl⟩
theorem qS:Fd Tryz.prog 67 2 3 48:=⟨_,(match Tryz.prog.underlying 67 with | some (.struct f)=>f | _=>#[])[2]!,dH,by kernel_rfl,by kernel_rfl,by kernel_rfl⟩
theorem aCv:Fd Tryz.prog 82 0 0 30:=⟨_,(match Tryz.prog.underlying 82 with | some (.struct f)=>f | _=>#[])[0]!,sH,by kernel_rfl,by kernel_rfl,by kernel_rfl⟩
theorem aDd:Fd Tryz.prog 82 1 11 51:=⟨_,(match Tryz.prog.underlying 82 with | some (.struct f)=>f | _=>#[])[1]!,sH,by kernel_rfl,by kernel_rfl,by kernel_rfl⟩
theorem aDy:Fd Tryz.prog 94 0 0 3:=⟨_,(match Tryz.prog.underlying 94 with | some (.struct f)=>f | _=>#[])[0]!,K2,by kernel_rfl,by kernel_rfl,by kernel_rfl⟩
theorem aAu:Fd Tryz.prog 94 4 6 28:=⟨_,(match Tryz.prog.underlying 94 with | some (.struct f)=>f | _=>#[])[4]!,K2,by kernel_rfl,by kernel_rfl,by kernel_rfl⟩
theorem aB9:Fd Tryz.prog 94 5 8 28:=⟨_,(match Tryz.prog.underlying 94 with | some (.struct f)=>f | _=>#[])[5]!,K2,by kernel_rfl,by kernel_rfl,by kernel_rfl⟩
theorem zW:((match Tryz.prog.underlying 102 with | some (.struct f)=>f | _=>#[]):Array Field).toList.map (fun f=>(Tryz.prog.info? f.type).map fun i=>(f.offset,i.size))=[(0,1),(1,1)].map some:=by kernel_rfl
theorem zZ:((match Tryz.prog.underlying 104 with | some (.struct f)=>f | _=>#[]):Array Field).toList.map (fun f=>(Tryz.prog.info? f.type).map fun i=>(f.offset,i.size))=[(0,1),(1,1),(2,1),(3,2),(5,1),(6,2),(8,1),(9,1),(10,1),(11,1),(12,1),(13,2)].map some:=by kernel_rfl
theorem Kp:((match Tryz.prog.underlying 133 with | some (.struct f)=>f | _=>#[]):Array Field).toList.map (fun f=>(Tryz.prog.info? f.type).map fun i=>(f.offset,i.size))=[(0,1),(1,1)].map some:=by kernel_rfl
theorem Kt:((match Tryz.prog.underlying 137 with | some (.struct f)=>f | _=>#[]):Array Field).toList.map (fun f=>(Tryz.prog.info? f.type).map fun i=>(f.offset,i.size))=[(0,1),(1,1),(2,1),(3,1),(4,1)].map some:=by kernel_rfl
theorem hO:((match Tryz.prog.underlying 169 with | some (.struct f)=>f | _=>#[]):Array Field).toList.map (fun f=>(Tryz.prog.info? f.type).map fun i=>(f.offset,i.size))=[(0,1),(1,1),(2,1),(3,1)].map some:=by kernel_rfl
theorem Lc:((match Tryz.prog.underlying 28 with | some (.struct f)=>f | _=>#[]):Array Field).toList.map (fun f=>(Tryz.prog.info? f.type).map fun i=>(f.offset,i.size))=[(0,1),(1,1)].map some:=by kernel_rfl
theorem xB:((match Tryz.prog.underlying 30 with | some (.struct f)=>f | _=>#[]):Array Field).toList.map (fun f=>(Tryz.prog.info? f.type).map fun i=>(f.offset,i.size))=[(0,1),(1,1),(2,1),(3,1),(4,1),(5,1),(6,1),(7,2),(9,1),(10,1)].map some:=by kernel_rfl
theorem aHk:((match Tryz.prog.underlying 34 with | some (.struct f)=>f | _=>#[]):Array Field).toList.map (fun f=>(Tryz.prog.info? f.type).map fun i=>(f.offset,i.size))=[(0,1),(1,1),(2,1),(3,1),(4,1),(5,1),(6,1),(7,1),(8,1)].map some:=by kernel_rfl
theorem aGy:((match Tryz.prog.underlying 43 with | some (.struct f)=>f | _=>#[]):Array Field).toList.map (fun f=>(Tryz.prog.info? f.type).map fun i=>(f.offset,i.size))=[(0,1),(1,1),(2,1)].map some:=by kernel_rfl
theorem aGq:((match Tryz.prog.underlying 46 with | some (.struct f)=>f | _=>#[]):Array Field).toList.map (fun f=>(Tryz.prog.info? f.type).map fun i=>(f.offset,i.size))=[(0,1),(1,1),(2,1)].map some:=by kernel_rfl
theorem aA9:((match Tryz.prog.underlying 50 with | some (.struct f)=>f | _=>#[]):Array Field).toList.map (fun f=>(Tryz.prog.info? f.type).map fun i=>(f.offset,i.size))=[(0,1),(1,2),(3,1),(4,1),(5,1)].map some:=by kernel_rfl
theorem aG5:((match Tryz.prog.underlying 62 with | some (.struct f)=>f | _=>#[]):Array Field).toList.map (fun f=>(Tryz.prog.info? f.type).map fun i=>(f.offset,i.size))=[(0,1),(1,1)].map some:=by kernel_rfl
theorem aAm:((match Tryz.prog.underlying 67 with | some (.struct f)=>f | _=>#[]):Array Field).toList.map (fun f=>(Tryz.prog.info? f.type).map fun i=>(f.offset,i.size))=[(0,2),(2,1),(3,1)].map some:=by kernel_rfl
theorem aGo:((match Tryz.prog.underlying 82 with | some (.struct f)=>f | _=>#[]):Array Field).toList.map (fun f=>(Tryz.prog.info? f.type).map fun i=>(f.offset,i.size))=[(0,11),(11,1)].map some:=by kernel_rfl
theorem Rx:((match Tryz.prog.underlying 94 with | some (.struct f)=>f | _=>#[]):Array Field).toList.map (fun f=>(Tryz.prog.info? f.type).map fun i=>(f.offset,i.size))=[(0,1),(1,1),(2,2),(4,2),(6,2),(8,2),(10,1),(11,1)].map some:=by kernel_rfl
theorem vS:Jd Tryz.prog 115 94 12 104:=Jd.mk' (z:=(.agg #[.int .i64 0,.string ⟨#[]⟩,.int .i64 0,.int .i64 0,.int .i64 0,.int .i64 0,.int .i64 0,.int .i64 0,.int .i64 0,.int .i64 0,.int .i64 0,.int .i64 0])) (by kernel_rfl) (by kernel_rfl) rfl (by decide) (by decide)
theorem Py:Jd Tryz.prog 131 126 1 8:=Jd.mk' (z:=(.nilFunc)) (by kernel_rfl) (by kernel_rfl) rfl (by decide) (by decide)
theorem aAd:Jd Tryz.prog 134 133 2 24:=Jd.mk' (z:=(.agg #[.string ⟨#[]⟩,.int .i64 0])) (by kernel_rfl) (by kernel_rfl) rfl (by decide) (by decide)
theorem bP:Jd Tryz.prog 167 169 4 64:=Jd.mk' (z:=(.agg #[.int .i64 0,.slice none 0 0,.bool false,.slice none 0 0])) (by kernel_rfl) (by kernel_rfl) rfl (by decide) (by decide)
theorem Ee:Jd Tryz.prog 22 3 1 8:=Jd.mk' (z:=(.int .i64 0)) (by kernel_rfl) (by kernel_rfl) rfl (by decide) (by decide)
theorem Zs:Jd Tryz.prog 32 67 4 48:=Jd.mk' (z:=(.agg #[.int .i64 0,.int .i64 0,.int .i64 0,.slice none 0 0])) (by kernel_rfl) (by kernel_rfl) rfl (by decide) (by decide)
theorem yO:Jd Tryz.prog 36 50 6 72:=Jd.mk' (z:=(.agg #[.string ⟨#[]⟩,.int .i64 0,.int .i64 0,.int .i64 0,.bool false,.slice none 0 0])) (by kernel_rfl) (by kernel_rfl) rfl (by decide) (by decide)
theorem pG:Jd Tryz.prog 38 28 2 16:=Jd.mk' (z:=(.agg #[.int .i64 0,.int .i64 0])) (by kernel_rfl) (by kernel_rfl) rfl (by decide) (by decide)
theorem tQ:Jd Tryz.prog 48 104 15 152:=Jd.mk' (z:=(.agg #[.int .i64 0,.string ⟨#[]⟩,.string ⟨#[]⟩,.int .i64 0,.int .i64 0,.int .i64 0,.int .i64 0,.int .i64 0,.int .i64 0,.int .i64 0,.bool false,.int .i64 0,.slice none 0 0,.int .i64 0,.int .i64 0])) (by kernel_rfl) (by kernel_rfl) rfl (by decide) (by decide)
theorem Kl:Jd Tryz.prog 51 30 11 112:=Jd.mk' (z:=(.agg #[.int .i64 0,.string ⟨#[]⟩,.int .i64 0,.int .i64 0,.int .i64 0,.int .i64 0,.string ⟨#[]⟩,.int .i64 0,.int .i64 0,.int .i64 0,.string ⟨#[]⟩])) (by kernel_rfl) (by kernel_rfl) rfl (by decide) (by decide)
theorem aAj:Jd Tryz.prog 69 22 1 24:=Jd.mk' (z:=(.slice none 0 0)) (by kernel_rfl) (by kernel_rfl) rfl (by decide) (by decide)
theorem Xc:Jd Tryz.prog 71 9 1 16:=Jd.mk' (z:=(.string ⟨#[]⟩)) (by kernel_rfl) (by kernel_rfl) rfl (by decide) (by decide)
theorem Mt:Jd Tryz.prog 89 5 1 1:=Jd.mk' (z:=(.int .u8 0)) (by kernel_rfl) (by kernel_rfl) rfl (by decide) (by decide)
theorem aFz:Ty Tryz.prog 102 true 2:=⟨by kernel_rfl,by kernel_rfl⟩
theorem aF7:Ty Tryz.prog 104 true 15:=⟨by kernel_rfl,by kernel_rfl⟩
theorem M4:Ty Tryz.prog 125 false 1:=⟨by kernel_rfl,by kernel_rfl⟩
theorem Sy:Ty Tryz.prog 126 false 1:=⟨by kernel_rfl,by kernel_rfl⟩
theorem aV:Ty Tryz.prog 128 false 1:=⟨by kernel_rfl,by kernel_rfl⟩
theorem zG:Ty Tryz.prog 137 true 5:=⟨by kernel_rfl,by kernel_rfl⟩
theorem aEp:Ty Tryz.prog 162 true 115:=⟨by kernel_rfl,by kernel_rfl⟩
theorem zF:Ty Tryz.prog 164 true 2:=⟨by kernel_rfl,by kernel_rfl⟩
theorem aEx:Ty Tryz.prog 167 false 1:=⟨by kernel_rfl,by kernel_rfl⟩
theorem iU:Ty Tryz.prog 169 true 4:=⟨by kernel_rfl,by kernel_rfl⟩
theorem aEl:Ty Tryz.prog 173 false 1:=⟨by kernel_rfl,by kernel_rfl⟩
theorem aDu:Ty Tryz.prog 22 false 1:=⟨by kernel_rfl,by kernel_rfl⟩
theorem Vv:Ty Tryz.prog 28 true 2:=⟨by kernel_rfl,by kernel_rfl⟩
theorem Yl:Ty Tryz.prog 3 false 1:=⟨by kernel_rfl,by kernel_rfl⟩
theorem Nc:Ty Tryz.prog 30 true 11:=⟨by kernel_rfl,by kernel_rfl⟩
theorem aG6:Ty Tryz.prog 32 false 1:=⟨by kernel_rfl,by kernel_rfl⟩
theorem aHe:Ty Tryz.prog 34 true 9:=⟨by kernel_rfl,by kernel_rfl⟩
theorem ty4:Ty Tryz.prog 4 false 1:=⟨by kernel_rfl,by kernel_rfl⟩
theorem aG0:Ty Tryz.prog 43 true 3:=⟨by kernel_rfl,by kernel_rfl⟩
theorem aG9:Ty Tryz.prog 46 true 3:=⟨by kernel_rfl,by kernel_rfl⟩
theorem mD:Ty Tryz.prog 48 false 1:=⟨by kernel_rfl,by kernel_rfl⟩
theorem ty5:Ty Tryz.prog 5 false 1:=⟨by kernel_rfl,by kernel_rfl⟩
theorem aGp:Ty Tryz.prog 50 true 6:=⟨by kernel_rfl,by kernel_rfl⟩
theorem aGj:Ty Tryz.prog 51 false 1:=⟨by kernel_rfl,by kernel_rfl⟩
theorem aC9:Ty Tryz.prog 64 false 1:=⟨by kernel_rfl,by kernel_rfl⟩
theorem aGr:Ty Tryz.prog 67 true 4:=⟨by kernel_rfl,by kernel_rfl⟩
theorem aG1:Ty Tryz.prog 71 false 1:=⟨by kernel_rfl,by kernel_rfl⟩
theorem aGm:Ty Tryz.prog 89 false 1:=⟨by kernel_rfl,by kernel_rfl⟩
theorem sE:Ty Tryz.prog 9 false 1:=⟨by kernel_rfl,by kernel_rfl⟩
theorem aGn:Ty Tryz.prog 94 true 12:=⟨by kernel_rfl,by kernel_rfl⟩
theorem aDz:Zt Tryz.prog 102 [.int .i64 0,.int .i64 0]:=⟨(.agg #[.int .i64 0,.int .i64 0]),by kernel_rfl,rfl,by decide⟩
theorem vC:Zt Tryz.prog 104 [.int .i64 0,.string ⟨#[]⟩,.string ⟨#[]⟩,.int .i64 0,.int .i64 0,.int .i64 0,.int .i64 0,.int .i64 0,.int .i64 0,.int .i64 0,.bool false,.int .i64 0,.slice none 0 0,.int .i64 0,.int .i64 0]:=⟨(.agg #[.int .i64 0,.string ⟨#[]⟩,.string ⟨#[]⟩,.int .i64 0,.int .i64 0,.int .i64 0,.int .i64 0,.int .i64 0,.int .i64 0,.int .i64 0,.bool false,.int .i64 0,.slice none 0 0,.int .i64 0,.int .i64 0]),by kernel_rfl,rfl,by decide⟩
theorem aEm:Zt Tryz.prog 126 [.nilFunc]:=⟨(.nilFunc),by kernel_rfl,rfl,by decide⟩
theorem Nj:Zt Tryz.prog 133 [.string ⟨#[]⟩,.int .i64 0]:=⟨(.agg #[.string ⟨#[]⟩,.int .i64 0]),by kernel_rfl,rfl,by decide⟩
theorem N2:Zt Tryz.prog 137 [.string ⟨#[]⟩,.int .i64 0,.int .i64 0,.slice none 0 0,.slice none 0 0]:=⟨(.agg #[.string ⟨#[]⟩,.int .i64 0,.int .i64 0,.slice none 0 0,.slice none 0 0]),by kernel_rfl,rfl,by decide⟩
theorem aFy:Zt Tryz.prog 162 [.string ⟨#[]⟩,.int .i64 0,.int .i64 0,.slice none 0 0,.slice none 0 0,.string ⟨#[]⟩,.int .i64 0,.int .i64 0,.slice none 0 0,.slice none 0 0,.string ⟨#[]⟩,.int .i64 0,.int .i64 0,.slice none 0 0,.slice none 0 0,.string ⟨#[]⟩,.int .i64 0,.int .i64 0,.slice none 0 0,.slice none 0 0,.string ⟨#[]⟩,.int .i64 0,.int .i64 0,.slice none 0 0,.slice none 0 0,.string ⟨#[]⟩,.int .i64 0,.int .i64 0,.slice none 0 0,.slice none 0 0,.string ⟨#[]⟩,.int .i64 0,.int .i64 0,.slice none 0 0,.slice none 0 0,.string ⟨#[]⟩,.int .i64 0,.int .i64 0,.slice none 0 0,.slice none 0 0,.string ⟨#[]⟩,.int .i64 0,.int .i64 0,.slice none 0 0,.slice none 0 0,.string ⟨#[]⟩,.int .i64 0,.int .i64 0,.slice none 0 0,.slice none 0 0,.string ⟨#[]⟩,.int .i64 0,.int .i64 0,.slice none 0 0,.slice none 0 0,.string ⟨#[]⟩,.int .i64 0,.int .i64 0,.slice none 0 0,.slice none 0 0,.string ⟨#[]⟩,.int .i64 0,.int .i64 0,.slice none 0 0,.slice none 0 0,.string ⟨#[]⟩,.int .i64 0,.int .i64 0,.slice none 0 0,.slice none 0 0,.string ⟨#[]⟩,.int .i64 0,.int .i64 0,.slice none 0 0,.slice none 0 0,.string ⟨#[]⟩,.int .i64 0,.int .i64 0,.slice none 0 0,.slice none 0 0,.string ⟨#[]⟩,.int .i64 0,.int .i64 0,.slice none 0 0,.slice none 0 0,.string ⟨#[]⟩,.int .i64 0,.int .i64 0,.slice none 0 0,.slice none 0 0,.string ⟨#[]⟩,.int .i64 0,.int .i64 0,.slice none 0 0,.slice none 0 0,.string ⟨#[]⟩,.int .i64 0,.int .i64 0,.slice none 0 0,.slice none 0 0,.string ⟨#[]⟩,.int .i64 0,.int .i64 0,.slice none 0 0,.slice none 0 0,.string ⟨#[]⟩,.int .i64 0,.int .i64 0,.slice none 0 0,.slice none 0 0,.string ⟨#[]⟩,.int .i64 0,.int .i64 0,.slice none 0 0,.slice none 0 0]:=⟨(.agg #[.string ⟨#[]⟩,.int .i64 0,.int .i64 0,.slice none 0 0,.slice none 0 0,.string ⟨#[]⟩,.int .i64 0,.int .i64 0,.slice none 0 0,.slice none 0 0,.string ⟨#[]⟩,.int .i64 0,.int .i64 0,.slice none 0 0,.slice none 0 0,.string ⟨#[]⟩,.int .i64 0,.int .i64 0,.slice none 0 0,.slice none 0 0,.string ⟨#[]⟩,.int .i64 0,.int .i64 0,.slice none 0 0,.slice none 0 0,.string ⟨#[]⟩,.int .i64 0,.int .i64 0,.slice none 0 0,.slice none 0 0,.string ⟨#[]⟩,.int .i64 0,.int .i64 0,.slice none 0 0,.slice none 0 0,.string ⟨#[]⟩,.int .i64 0,.int .i64 0,.slice none 0 0,.slice none 0 0,.string ⟨#[]⟩,.int .i64 0,.int .i64 0,.slice none 0 0,.slice none 0 0,.string ⟨#[]⟩,.int .i64 0,.int .i64 0,.slice none 0 0,.slice none 0 0,.string ⟨#[]⟩,.int .i64 0,.int .i64 0,.slice none 0 0,.slice none 0 0,.string ⟨#[]⟩,.int .i64 0,.int .i64 0,.slice none 0 0,.slice none 0 0,.string ⟨#[]⟩,.int .i64 0,.int .i64 0,.slice none 0 0,.slice none 0 0,.string ⟨#[]⟩,.int .i64 0,.int .i64 0,.slice none 0 0,.slice none 0 0,.string ⟨#[]⟩,.int .i64 0,.int .i64 0,.slice none 0 0,.slice none 0 0,.string ⟨#[]⟩,.int .i64 0,.int .i64 0,.slice none 0 0,.slice none 0 0,.string ⟨#[]⟩,.int .i64 0,.int .i64 0,.slice none 0 0,.slice none 0 0,.string ⟨#[]⟩,.int .i64 0,.int .i64 0,.slice none 0 0,.slice none 0 0,.string ⟨#[]⟩,.int .i64 0,.int .i64 0,.slice none 0 0,.slice none 0 0,.string ⟨#[]⟩,.int .i64 0,.int .i64 0,.slice none 0 0,.slice none 0 0,.string ⟨#[]⟩,.int .i64 0,.int .i64 0,.slice none 0 0,.slice none 0 0,.string ⟨#[]⟩,.int .i64 0,.int .i64 0,.slice none 0 0,.slice none 0 0,.string ⟨#[]⟩,.int .i64 0,.int .i64 0,.slice none 0 0,.slice none 0 0]),by kernel_rfl,rfl,by decide⟩
theorem qH:Zt Tryz.prog 164 [.int .i64 0,.int .i64 0]:=⟨(.agg #[.int .i64 0,.int .i64 0]),by kernel_rfl,rfl,by decide⟩
theorem aEs:Zt Tryz.prog 165 [.int .i64 0,.int .i64 0,.int .i64 0,.int .i64 0,.int .i64 0,.int .i64 0,.int .i64 0,.int .i64 0,.int .i64 0,.int .i64 0]:=⟨(.agg #[.int .i64 0,.int .i64 0,.int .i64 0,.int .i64 0,.int .i64 0,.int .i64 0,.int .i64 0,.int .i64 0,.int .i64 0,.int .i64 0]),by kernel_rfl,rfl,by decide⟩
theorem cG:Zt Tryz.prog 169 [.int .i64 0,.slice none 0 0,.bool false,.slice none 0 0]:=⟨(.agg #[.int .i64 0,.slice none 0 0,.bool false,.slice none 0 0]),by kernel_rfl,rfl,by decide⟩
theorem aHf:Zt Tryz.prog 173 [.int .u64 0]:=⟨(.int .u64 0),by kernel_rfl,rfl,by decide⟩
theorem z22:Zt Tryz.prog 22 [.slice none 0 0]:=⟨(.slice none 0 0),by kernel_rfl,rfl,by decide⟩
theorem S6:Zt Tryz.prog 28 [.int .i64 0,.int .i64 0]:=⟨(.agg #[.int .i64 0,.int .i64 0]),by kernel_rfl,rfl,by decide⟩
theorem z3:Zt Tryz.prog 3 [.int .i64 0]:=⟨(.int .i64 0),by kernel_rfl,rfl,by decide⟩
theorem fD:Zt Tryz.prog 30 [.int .i64 0,.string ⟨#[]⟩,.int .i64 0,.int .i64 0,.int .i64 0,.int .i64 0,.string ⟨#[]⟩,.int .i64 0,.int .i64 0,.int .i64 0,.string ⟨#[]⟩]:=⟨(.agg #[.int .i64 0,.string ⟨#[]⟩,.int .i64 0,.int .i64 0,.int .i64 0,.int .i64 0,.string ⟨#[]⟩,.int .i64 0,.int .i64 0,.int .i64 0,.string ⟨#[]⟩]),by kernel_rfl,rfl,by decide⟩
theorem z34:Zt Tryz.prog 34 [.string ⟨#[]⟩,.int .i64 0,.int .i64 0,.slice none 0 0,.bool false,.slice none 0 0,.slice none 0 0,.slice none 0 0,.bool false]:=⟨(.agg #[.string ⟨#[]⟩,.int .i64 0,.int .i64 0,.slice none 0 0,.bool false,.slice none 0 0,.slice none 0 0,.slice none 0 0,.bool false]),by kernel_rfl,rfl,by decide⟩
theorem z43:Zt Tryz.prog 43 [.int .i64 0,.slice none 0 0,.slice none 0 0]:=⟨(.agg #[.int .i64 0,.slice none 0 0,.slice none 0 0]),by kernel_rfl,rfl,by decide⟩
theorem z46:Zt Tryz.prog 46 [.int .i64 0,.int .i64 0,.int .i64 0]:=⟨(.agg #[.int .i64 0,.int .i64 0,.int .i64 0]),by kernel_rfl,rfl,by decide⟩
theorem z5:Zt Tryz.prog 5 [.int .u8 0]:=⟨(.int .u8 0),by kernel_rfl,rfl,by decide⟩
theorem z50:Zt Tryz.prog 50 [.string ⟨#[]⟩,.int .i64 0,.int .i64 0,.int .i64 0,.bool false,.slice none 0 0]:=⟨(.agg #[.string ⟨#[]⟩,.int .i64 0,.int .i64 0,.int .i64 0,.bool false,.slice none 0 0]),by kernel_rfl,rfl,by decide⟩
theorem z62:Zt Tryz.prog 62 [.slice none 0 0,.int .i64 0]:=⟨(.agg #[.slice none 0 0,.int .i64 0]),by kernel_rfl,rfl,by decide⟩
theorem wE:Zt Tryz.prog 67 [.int .i64 0,.int .i64 0,.int .i64 0,.slice none 0 0]:=⟨(.agg #[.int .i64 0,.int .i64 0,.int .i64 0,.slice none 0 0]),by kernel_rfl,rfl,by decide⟩
theorem z82:Zt Tryz.prog 82 [.int .i64 0,.string ⟨#[]⟩,.int .i64 0,.int .i64 0,.int .i64 0,.int .i64 0,.string ⟨#[]⟩,.int .i64 0,.int .i64 0,.int .i64 0,.string ⟨#[]⟩,.slice none 0 0]:=⟨(.agg #[.int .i64 0,.string ⟨#[]⟩,.int .i64 0,.int .i64 0,.int .i64 0,.int .i64 0,.string ⟨#[]⟩,.int .i64 0,.int .i64 0,.int .i64 0,.string ⟨#[]⟩,.slice none 0 0]),by kernel_rfl,rfl,by decide⟩
theorem z9:Zt Tryz.prog 9 [.string ⟨#[]⟩]:=⟨(.string ⟨#[]⟩),by kernel_rfl,rfl,by decide⟩
theorem cB:Zt Tryz.prog 94 [.int .i64 0,.string ⟨#[]⟩,.int .i64 0,.int .i64 0,.int .i64 0,.int .i64 0,.int .i64 0,.int .i64 0,.int .i64 0,.int .i64 0,.int .i64 0,.int .i64 0]:=⟨(.agg #[.int .i64 0,.string ⟨#[]⟩,.int .i64 0,.int .i64 0,.int .i64 0,.int .i64 0,.int .i64 0,.int .i64 0,.int .i64 0,.int .i64 0,.int .i64 0,.int .i64 0]),by kernel_rfl,rfl,by decide⟩
theorem zO:K1 Tryz.prog 20 104=[none,none,none,none,none,none,none,none,none,none,none,none,some 1,none,none]:=by kernel_rfl
theorem aE7:K1 Tryz.prog 20 133=[none,none]:=by kernel_rfl
theorem oD:K1 Tryz.prog 20 169=[none,some 1,none,some 4]:=by kernel_rfl
theorem aEu:K1 Tryz.prog 20 22=[some 1]:=by kernel_rfl
theorem aAt:K1 Tryz.prog 20 28=[none,none]:=by kernel_rfl
theorem I1:K1 Tryz.prog 20 3=[none]:=by kernel_rfl
theorem I6:K1 Tryz.prog 20 30=[none,none,none,none,none,none,none,none,none,none,none]:=by kernel_rfl
theorem lG:K1 Tryz.prog 20 5=[none]:=by kernel_rfl
theorem aFe:K1 Tryz.prog 20 50=[none,none,none,none,none,some 15]:=by kernel_rfl
theorem tB:K1 Tryz.prog 20 67=[none,none,none,some 15]:=by kernel_rfl
theorem qY:K1 Tryz.prog 20 9=[none]:=by kernel_rfl
theorem aEd:K1 Tryz.prog 20 94=[none,none,none,none,none,none,none,none,none,none,none,none]:=by kernel_rfl
theorem aGk (s:ByteArray) (c:UInt8) (w:World):(callFunc 163 [.string s,.int .u8 (c.toNat:Int)].toArray).run Tryz.prog w=.ok (.value (.int .i64 (gI s c))) w:=tM Tryz.func163 rfl rfl (by kernel_rfl) (by kernel_rfl) s c w
theorem aHm (a b:ByteArray) (w:World):(callFunc 154 [.string a,.string b].toArray).run Tryz.prog w=.ok (.value (.int .i64 (pQ a b))) w:=uG Tryz.func154 rfl rfl (by kernel_rfl) (by kernel_rfl) a b w
theorem aG8:Tryz.prog.eqGuardType Tryz.prog.depth 28=false:=by kernel_rfl
theorem aF0:Tryz.prog.underlying 28=some (.struct (Tryz.prog.fieldsOf 28)):=by kernel_rfl
theorem aFc:Tryz.prog.stoodInHeld 28=false:=by kernel_rfl
theorem aHh (x y:Am) (w:World):(Op.equalIn 10000 28 (.agg #[.int .i64 x.Alg,.int .i64 x.Bits]) (.agg #[.int .i64 y.Alg,.int .i64 y.Bits])).run Tryz.prog w=.ok (decide (x=y)) w:=by
 have u3:=Tryz.underlying3
 have a3:=Tryz.isAgg3
 have z3:=Tryz.sizeOf3
 rw [show (10000:Nat)=9999 + 1 from rfl,run_equalIn_agg w 9999 28 _ _ aF0 aFc]
 simp only [Program.fieldsOf,Tryz.underlying28]
 go_simp
 rcases x with ⟨x0,x1⟩
 rcases y with ⟨y0,y1⟩
 by_cases h0:x0=y0 <;> by_cases h1:x1=y1 <;> simp [h0,h1]
theorem O6 (x y:Am) {X Y:Operand} {tk:Nat} {yt ty:TypeId} {b1 b2:Option LB}:F5 Tryz.prog tk (.binOp .eql 28 X Y yt) ty [(.agg [.val (.int .i64 x.Alg),.val (.int .i64 x.Bits)],b1),(.agg [.val (.int .i64 y.Alg),.val (.int .i64 y.Bits)],b2)] [] (v0 (.val (.bool (decide (x=y))))):=
 .binOpA rfl rfl (fun _ _=>rfl) (fun w=>by
  rw [Sem.run_bind,run_eqGuard_agg w _ 28 X Y _ _ aG8]
  simp only [Result.andThen_ok,run_eql_struct]
  exact congrArg (fun r=>Result.andThen r _) (aHh x y w))
theorem aEz:Tryz.prog.eqGuardType Tryz.prog.depth 30=false:=by kernel_rfl
theorem aHg:Tryz.prog.underlying 30=some (.struct (Tryz.prog.fieldsOf 30)):=by kernel_rfl
theorem aGl:Tryz.prog.stoodInHeld 30=false:=by kernel_rfl
theorem aFa (x y:Aa) (w:World):(Op.equalIn 10000 30 (.agg #[.int .i64 x.Source,.string x.Host,.int .i64 x.Machine,.int .i64 x.Day,.int .i64 x.Confidence,.int .i64 x.Kind,.string x.Subject,.int .i64 x.Use.Alg,.int .i64 x.Use.Bits,.int .i64 x.Number,.string x.Text]) (.agg #[.int .i64 y.Source,.string y.Host,.int .i64 y.Machine,.int .i64 y.Day,.int .i64 y.Confidence,.int .i64 y.Kind,.string y.Subject,.int .i64 y.Use.Alg,.int .i64 y.Use.Bits,.int .i64 y.Number,.string y.Text])).run Tryz.prog w=.ok (decide (x=y)) w:=by
 have u3:=Tryz.underlying3
 have a3:=Tryz.isAgg3
 have z3:=Tryz.sizeOf3
 have u9:=Tryz.underlying9
 have a9:=Tryz.isAgg9
 have z9:=Tryz.sizeOf9
 have u28:=Tryz.underlying28
 have a28:=Tryz.isAgg28
 have S6:=Tryz.sizeOf28
 have f28:=aF0
 have h28:=aFc
 rw [show (10000:Nat)=9999 + 1 from rfl,run_equalIn_agg w 9999 30 _ _ aHg aGl]
 simp only [Program.fieldsOf,Tryz.underlying30]
 go_simp
 rcases x with ⟨x0,x1,x2,x3,x4,x5,x6,⟨x7,x8⟩,x9,x10⟩
 rcases y with ⟨y0,y1,y2,y3,y4,y5,y6,⟨y7,y8⟩,y9,y10⟩
 simp only [kO]
 by_cases q0:¬ x0=y0
 ·simp [q0]
 rw [aG7] at q0
 subst q0
 by_cases q1:¬ x1=y1
 ·simp [q1]
 rw [aG7] at q1
 subst q1
 by_cases q2:¬ x2=y2
 ·simp [q2]
 rw [aG7] at q2
 subst q2
 by_cases q3:¬ x3=y3
 ·simp [q3]
 rw [aG7] at q3
 subst q3
 by_cases q4:¬ x4=y4
 ·simp [q4]
 rw [aG7] at q4
 subst q4
 by_cases q5:¬ x5=y5
 ·simp [q5]
 rw [aG7] at q5
 subst q5
 by_cases q6:¬ x6=y6
 ·simp [q6]
 rw [aG7] at q6
 subst q6
 by_cases q7:¬ x7=y7
 ·simp [q7]
 rw [aG7] at q7
 subst q7
 by_cases q8:¬ x8=y8
 ·simp [q8]
 rw [aG7] at q8
 subst q8
 by_cases q9:¬ x9=y9
 ·simp [q9]
 rw [aG7] at q9
 subst q9
 by_cases q10:¬ x10=y10
 ·simp [q10]
 rw [aG7] at q10
 subst q10
 simp
theorem kZ (x y:Aa) {X Y:Operand} {tk:Nat} {yt ty:TypeId} {b1 b2:Option LB}:F5 Tryz.prog tk (.binOp .eql 30 X Y yt) ty [(.agg [.val (.int .i64 x.Source),.val (.string x.Host),.val (.int .i64 x.Machine),.val (.int .i64 x.Day),.val (.int .i64 x.Confidence),.val (.int .i64 x.Kind),.val (.string x.Subject),.val (.int .i64 x.Use.Alg),.val (.int .i64 x.Use.Bits),.val (.int .i64 x.Number),.val (.string x.Text)],b1),(.agg [.val (.int .i64 y.Source),.val (.string y.Host),.val (.int .i64 y.Machine),.val (.int .i64 y.Day),.val (.int .i64 y.Confidence),.val (.int .i64 y.Kind),.val (.string y.Subject),.val (.int .i64 y.Use.Alg),.val (.int .i64 y.Use.Bits),.val (.int .i64 y.Number),.val (.string y.Text)],b2)] [] (v0 (.val (.bool (decide (x=y))))):=
 .binOpA rfl rfl (fun _ _=>rfl) (fun w=>by
  rw [Sem.run_bind,run_eqGuard_agg w _ 30 X Y _ _ aEz]
  simp only [Result.andThen_ok,run_eql_struct]
  exact congrArg (fun r=>Result.andThen r _) (aFa x y w))
theorem Z1 (x y:Aa) {X Y:Operand} {tk:Nat} {yt ty:TypeId} {b1 b2:Option LB}:F5 Tryz.prog tk (.binOp .neq 30 X Y yt) ty [(.agg [.val (.int .i64 x.Source),.val (.string x.Host),.val (.int .i64 x.Machine),.val (.int .i64 x.Day),.val (.int .i64 x.Confidence),.val (.int .i64 x.Kind),.val (.string x.Subject),.val (.int .i64 x.Use.Alg),.val (.int .i64 x.Use.Bits),.val (.int .i64 x.Number),.val (.string x.Text)],b1),(.agg [.val (.int .i64 y.Source),.val (.string y.Host),.val (.int .i64 y.Machine),.val (.int .i64 y.Day),.val (.int .i64 y.Confidence),.val (.int .i64 y.Kind),.val (.string y.Subject),.val (.int .i64 y.Use.Alg),.val (.int .i64 y.Use.Bits),.val (.int .i64 y.Number),.val (.string y.Text)],b2)] [] (v0 (.val (.bool (!decide (x=y))))):=
 .binOpA rfl rfl (fun _ _=>rfl) (fun w=>by
  rw [Sem.run_bind,run_eqGuard_agg w _ 30 X Y _ _ aEz]
  simp only [Result.andThen_ok,run_neq_struct]
  exact congrArg (fun r=>Result.andThen r _) (aFa x y w))
instance:La Tryz.prog 102 0 0 3:=⟨xO⟩
instance:La Tryz.prog 102 1 1 3:=⟨xJ⟩
instance:La Tryz.prog 104 0 0 3:=⟨wZ⟩
instance:La Tryz.prog 104 1 1 9:=⟨wN⟩
instance:La Tryz.prog 104 10 12 71:=⟨rC⟩
instance:La Tryz.prog 104 11 13 102:=⟨tE⟩
instance:La Tryz.prog 104 2 2 9:=⟨wH⟩
instance:La Tryz.prog 104 3 3 28:=⟨gU⟩
instance:La Tryz.prog 104 4 5 3:=⟨fP⟩
instance:La Tryz.prog 104 5 6 28:=⟨wV⟩
instance:La Tryz.prog 104 6 8 3:=⟨yD⟩
instance:La Tryz.prog 104 7 9 3:=⟨xD⟩
instance:La Tryz.prog 104 8 10 4:=⟨xK⟩
instance:La Tryz.prog 104 9 11 3:=⟨yZ⟩
instance:La Tryz.prog 133 1 1 3:=⟨nN⟩
instance:La Tryz.prog 137 1 1 3:=⟨wB⟩
instance:La Tryz.prog 137 2 2 3:=⟨vW⟩
instance:La Tryz.prog 137 3 3 22:=⟨xM⟩
instance:La Tryz.prog 137 4 4 22:=⟨xQ⟩
instance:La Tryz.prog 169 0 0 3:=⟨xE⟩
instance:La Tryz.prog 169 1 1 89:=⟨wA⟩
instance:La Tryz.prog 169 2 2 4:=⟨xG⟩
instance:La Tryz.prog 169 3 3 167:=⟨xA⟩
instance:La Tryz.prog 28 0 0 3:=⟨aCp⟩
instance:La Tryz.prog 28 1 1 3:=⟨aBm⟩
instance:La Tryz.prog 30 0 0 3:=⟨aDs⟩
instance:La Tryz.prog 30 1 1 9:=⟨aC7⟩
instance:La Tryz.prog 30 2 2 3:=⟨aDq⟩
instance:La Tryz.prog 30 3 3 3:=⟨aC0⟩
instance:La Tryz.prog 30 4 4 3:=⟨aBr⟩
instance:La Tryz.prog 30 5 5 3:=⟨tF⟩
instance:La Tryz.prog 30 6 6 9:=⟨aAw⟩
instance:La Tryz.prog 30 7 7 28:=⟨aDr⟩
instance:La Tryz.prog 30 8 9 3:=⟨rW⟩
instance:La Tryz.prog 30 9 10 9:=⟨aBk⟩
instance:La Tryz.prog 34 0 0 9:=⟨aB0⟩
instance:La Tryz.prog 34 1 1 3:=⟨aC8⟩
instance:La Tryz.prog 34 2 2 3:=⟨aCk⟩
instance:La Tryz.prog 34 3 3 22:=⟨aBw⟩
instance:La Tryz.prog 34 5 5 32:=⟨aD0⟩
instance:La Tryz.prog 34 6 6 22:=⟨aAo⟩
instance:La Tryz.prog 34 7 7 22:=⟨aDv⟩
instance:La Tryz.prog 43 0 0 3:=⟨aBe⟩
instance:La Tryz.prog 43 1 1 22:=⟨aDk⟩
instance:La Tryz.prog 43 2 2 22:=⟨aDf⟩
instance:La Tryz.prog 46 0 0 3:=⟨aA4⟩
instance:La Tryz.prog 46 1 1 3:=⟨aB7⟩
instance:La Tryz.prog 46 2 2 3:=⟨aB3⟩
instance:La Tryz.prog 50 0 0 9:=⟨aP⟩
instance:La Tryz.prog 50 1 1 28:=⟨fL⟩
instance:La Tryz.prog 50 2 3 3:=⟨fF⟩
instance:La Tryz.prog 50 4 5 48:=⟨kY⟩
instance:La Tryz.prog 62 0 0 22:=⟨aDn⟩
instance:La Tryz.prog 62 1 1 3:=⟨aDw⟩
instance:La Tryz.prog 67 0 0 28:=⟨mI⟩
instance:La Tryz.prog 67 1 2 3:=⟨lL⟩
instance:La Tryz.prog 67 2 3 48:=⟨qS⟩
instance:La Tryz.prog 82 0 0 30:=⟨aCv⟩
instance:La Tryz.prog 82 1 11 51:=⟨aDd⟩
instance:La Tryz.prog 94 0 0 3:=⟨aDy⟩
instance:La Tryz.prog 94 4 6 28:=⟨aAu⟩
instance:La Tryz.prog 94 5 8 28:=⟨aB9⟩
instance:iJ Tryz.prog 115 94 12 104:=⟨vS⟩
instance:iJ Tryz.prog 131 126 1 8:=⟨Py⟩
instance:iJ Tryz.prog 134 133 2 24:=⟨aAd⟩
instance:iJ Tryz.prog 167 169 4 64:=⟨bP⟩
instance:iJ Tryz.prog 22 3 1 8:=⟨Ee⟩
instance:iJ Tryz.prog 32 67 4 48:=⟨Zs⟩
instance:iJ Tryz.prog 36 50 6 72:=⟨yO⟩
instance:iJ Tryz.prog 38 28 2 16:=⟨pG⟩
instance:iJ Tryz.prog 48 104 15 152:=⟨tQ⟩
instance:iJ Tryz.prog 51 30 11 112:=⟨Kl⟩
instance:iJ Tryz.prog 69 22 1 24:=⟨aAj⟩
instance:iJ Tryz.prog 71 9 1 16:=⟨Xc⟩
instance:iJ Tryz.prog 89 5 1 1:=⟨Mt⟩
instance:Qj Tryz.prog 102 true 2:=⟨aFz⟩
instance:Qj Tryz.prog 104 true 15:=⟨aF7⟩
instance:Qj Tryz.prog 125 false 1:=⟨M4⟩
instance:Qj Tryz.prog 126 false 1:=⟨Sy⟩
instance:Qj Tryz.prog 128 false 1:=⟨aV⟩
instance:Qj Tryz.prog 137 true 5:=⟨zG⟩
instance:Qj Tryz.prog 162 true 115:=⟨aEp⟩
instance:Qj Tryz.prog 164 true 2:=⟨zF⟩
instance:Qj Tryz.prog 167 false 1:=⟨aEx⟩
instance:Qj Tryz.prog 169 true 4:=⟨iU⟩
instance:Qj Tryz.prog 173 false 1:=⟨aEl⟩
instance:Qj Tryz.prog 22 false 1:=⟨aDu⟩
instance:Qj Tryz.prog 28 true 2:=⟨Vv⟩
instance:Qj Tryz.prog 3 false 1:=⟨Yl⟩
instance:Qj Tryz.prog 30 true 11:=⟨Nc⟩
instance:Qj Tryz.prog 32 false 1:=⟨aG6⟩
instance:Qj Tryz.prog 34 true 9:=⟨aHe⟩
instance:Qj Tryz.prog 4 false 1:=⟨ty4⟩
instance:Qj Tryz.prog 43 true 3:=⟨aG0⟩
instance:Qj Tryz.prog 46 true 3:=⟨aG9⟩
instance:Qj Tryz.prog 48 false 1:=⟨mD⟩
instance:Qj Tryz.prog 5 false 1:=⟨ty5⟩
instance:Qj Tryz.prog 50 true 6:=⟨aGp⟩
instance:Qj Tryz.prog 51 false 1:=⟨aGj⟩
instance:Qj Tryz.prog 64 false 1:=⟨aC9⟩
instance:Qj Tryz.prog 67 true 4:=⟨aGr⟩
instance:Qj Tryz.prog 71 false 1:=⟨aG1⟩
instance:Qj Tryz.prog 89 false 1:=⟨aGm⟩
instance:Qj Tryz.prog 9 false 1:=⟨sE⟩
instance:Qj Tryz.prog 94 true 12:=⟨aGn⟩
instance:Za Tryz.prog 102 [.int .i64 0,.int .i64 0]:=⟨aDz⟩
instance:Za Tryz.prog 104 [.int .i64 0,.string ⟨#[]⟩,.string ⟨#[]⟩,.int .i64 0,.int .i64 0,.int .i64 0,.int .i64 0,.int .i64 0,.int .i64 0,.int .i64 0,.bool false,.int .i64 0,.slice none 0 0,.int .i64 0,.int .i64 0]:=⟨vC⟩
instance:Za Tryz.prog 126 [.nilFunc]:=⟨aEm⟩
instance:Za Tryz.prog 133 [.string ⟨#[]⟩,.int .i64 0]:=⟨Nj⟩
instance:Za Tryz.prog 137 [.string ⟨#[]⟩,.int .i64 0,.int .i64 0,.slice none 0 0,.slice none 0 0]:=⟨N2⟩
instance:Za Tryz.prog 162 [.string ⟨#[]⟩,.int .i64 0,.int .i64 0,.slice none 0 0,.slice none 0 0,.string ⟨#[]⟩,.int .i64 0,.int .i64 0,.slice none 0 0,.slice none 0 0,.string ⟨#[]⟩,.int .i64 0,.int .i64 0,.slice none 0 0,.slice none 0 0,.string ⟨#[]⟩,.int .i64 0,.int .i64 0,.slice none 0 0,.slice none 0 0,.string ⟨#[]⟩,.int .i64 0,.int .i64 0,.slice none 0 0,.slice none 0 0,.string ⟨#[]⟩,.int .i64 0,.int .i64 0,.slice none 0 0,.slice none 0 0,.string ⟨#[]⟩,.int .i64 0,.int .i64 0,.slice none 0 0,.slice none 0 0,.string ⟨#[]⟩,.int .i64 0,.int .i64 0,.slice none 0 0,.slice none 0 0,.string ⟨#[]⟩,.int .i64 0,.int .i64 0,.slice none 0 0,.slice none 0 0,.string ⟨#[]⟩,.int .i64 0,.int .i64 0,.slice none 0 0,.slice none 0 0,.string ⟨#[]⟩,.int .i64 0,.int .i64 0,.slice none 0 0,.slice none 0 0,.string ⟨#[]⟩,.int .i64 0,.int .i64 0,.slice none 0 0,.slice none 0 0,.string ⟨#[]⟩,.int .i64 0,.int .i64 0,.slice none 0 0,.slice none 0 0,.string ⟨#[]⟩,.int .i64 0,.int .i64 0,.slice none 0 0,.slice none 0 0,.string ⟨#[]⟩,.int .i64 0,.int .i64 0,.slice none 0 0,.slice none 0 0,.string ⟨#[]⟩,.int .i64 0,.int .i64 0,.slice none 0 0,.slice none 0 0,.string ⟨#[]⟩,.int .i64 0,.int .i64 0,.slice none 0 0,.slice none 0 0,.string ⟨#[]⟩,.int .i64 0,.int .i64 0,.slice none 0 0,.slice none 0 0,.string ⟨#[]⟩,.int .i64 0,.int .i64 0,.slice none 0 0,.slice none 0 0,.string ⟨#[]⟩,.int .i64 0,.int .i64 0,.slice none 0 0,.slice none 0 0,.string ⟨#[]⟩,.int .i64 0,.int .i64 0,.slice none 0 0,.slice none 0 0,.string ⟨#[]⟩,.int .i64 0,.int .i64 0,.slice none 0 0,.slice none 0 0,.string ⟨#[]⟩,.int .i64 0,.int .i64 0,.slice none 0 0,.slice none 0 0]:=⟨aFy⟩
instance:Za Tryz.prog 164 [.int .i64 0,.int .i64 0]:=⟨qH⟩
instance:Za Tryz.prog 165 [.int .i64 0,.int .i64 0,.int .i64 0,.int .i64 0,.int .i64 0,.int .i64 0,.int .i64 0,.int .i64 0,.int .i64 0,.int .i64 0]:=⟨aEs⟩
instance:Za Tryz.prog 169 [.int .i64 0,.slice none 0 0,.bool false,.slice none 0 0]:=⟨cG⟩
instance:Za Tryz.prog 173 [.int .u64 0]:=⟨aHf⟩
instance:Za Tryz.prog 22 [.slice none 0 0]:=⟨z22⟩
instance:Za Tryz.prog 28 [.int .i64 0,.int .i64 0]:=⟨S6⟩
instance:Za Tryz.prog 3 [.int .i64 0]:=⟨z3⟩
instance:Za Tryz.prog 30 [.int .i64 0,.string ⟨#[]⟩,.int .i64 0,.int .i64 0,.int .i64 0,.int .i64 0,.string ⟨#[]⟩,.int .i64 0,.int .i64 0,.int .i64 0,.string ⟨#[]⟩]:=⟨fD⟩
instance:Za Tryz.prog 34 [.string ⟨#[]⟩,.int .i64 0,.int .i64 0,.slice none 0 0,.bool false,.slice none 0 0,.slice none 0 0,.slice none 0 0,.bool false]:=⟨z34⟩
instance:Za Tryz.prog 43 [.int .i64 0,.slice none 0 0,.slice none 0 0]:=⟨z43⟩
instance:Za Tryz.prog 46 [.int .i64 0,.int .i64 0,.int .i64 0]:=⟨z46⟩
instance:Za Tryz.prog 5 [.int .u8 0]:=⟨z5⟩
instance:Za Tryz.prog 50 [.string ⟨#[]⟩,.int .i64 0,.int .i64 0,.int .i64 0,.bool false,.slice none 0 0]:=⟨z50⟩
instance:Za Tryz.prog 62 [.slice none 0 0,.int .i64 0]:=⟨z62⟩
instance:Za Tryz.prog 67 [.int .i64 0,.int .i64 0,.int .i64 0,.slice none 0 0]:=⟨wE⟩
instance:Za Tryz.prog 82 [.int .i64 0,.string ⟨#[]⟩,.int .i64 0,.int .i64 0,.int .i64 0,.int .i64 0,.string ⟨#[]⟩,.int .i64 0,.int .i64 0,.int .i64 0,.string ⟨#[]⟩,.slice none 0 0]:=⟨z82⟩
instance:Za Tryz.prog 9 [.string ⟨#[]⟩]:=⟨z9⟩
instance:Za Tryz.prog 94 [.int .i64 0,.string ⟨#[]⟩,.int .i64 0,.int .i64 0,.int .i64 0,.int .i64 0,.int .i64 0,.int .i64 0,.int .i64 0,.int .i64 0,.int .i64 0,.int .i64 0]:=⟨cB⟩
instance:Xa Ac.enc 2:=⟨Ac.enc_len⟩
instance:Xa Am.enc 2:=⟨Am.enc_len⟩
instance:Xa Aa.enc 11:=⟨Aa.enc_len⟩
instance:Xa Eu.enc 2:=⟨Eu.enc_len⟩
instance:Xa Af.enc 15:=⟨Af.enc_len⟩
instance:Xa A9.enc 4:=⟨A9.enc_len⟩
instance:Xa Av.enc 9:=⟨Av.enc_len⟩
instance:Xa Ax.enc 6:=⟨Ax.enc_len⟩
instance:Xa Dj.enc 3:=⟨Dj.enc_len⟩
instance:Xa C6.enc 3:=⟨C6.enc_len⟩
instance:Xa Dv.enc 12:=⟨Dv.enc_len⟩
instance:Xa Cb.enc 5:=⟨Cb.enc_len⟩
instance:Xa A4.enc 12:=⟨A4.enc_len⟩
instance:Xa Au.enc 2:=⟨Au.enc_len⟩
instance:Xa Ah.enc 4:=⟨Ah.enc_len⟩
end Go.Proofs.YtchpcpaacenodaaGreat
