import Derived.Test.YtbpchmikjiinpaaGreatEH
import Derived.Test.YtbpchmikjiinpaaGreatP1
import Derived.Test.YtbpchmikjiinpaaGreatProg
set_option linter.unusedVariables false
set_option linter.unusedSimpArgs false
set_option maxRecDepth 100000
set_option maxHeartbeats 1600000
namespace Go.Proofs.YtbpchmikjiinpaaGreat
open Go.RowKit
abbrev Aq.dv (x:Aq):List DV:=[.val (.int .i64 x.Alg),.val (.int .i64 x.Bits)]
def Aq.enc (x:Aq):List C:=[.int .i64 x.Alg,.int .i64 x.Bits]
theorem Aq.enc_len (x:Aq):(Aq.enc x).length=2:=rfl
abbrev Aa.dv (x:Aa):List DV:=[.val (.int .i64 x.Source),.val (.string x.Host),.val (.int .i64 x.Machine),.val (.int .i64 x.Day),.val (.int .i64 x.Confidence),.val (.int .i64 x.Kind),.val (.string x.Subject),.val (.int .i64 x.Use.Alg),.val (.int .i64 x.Use.Bits),.val (.int .i64 x.Number),.val (.string x.Text)]
def Aa.enc (x:Aa):List C:=[.int .i64 x.Source,.str x.Host,.int .i64 x.Machine,.int .i64 x.Day,.int .i64 x.Confidence,.int .i64 x.Kind,.str x.Subject,.int .i64 x.Use.Alg,.int .i64 x.Use.Bits,.int .i64 x.Number,.str x.Text]
abbrev Aa.ec (x:Aa):List C:=[.int .i64 x.Source,.str x.Host,.int .i64 x.Machine,.int .i64 x.Day,.int .i64 x.Confidence,.int .i64 x.Kind,.str x.Subject,.int .i64 x.Use.Alg,.int .i64 x.Use.Bits,.int .i64 x.Number,.str x.Text]
theorem Aa.enc_len (x:Aa):(Aa.enc x).length=11:=rfl
abbrev Ab.dv (x:Ab):List DV:=[.sl 1 (Aj eI x.L),.val (.int .i64 x.At)]
def Ab.enc (x:Ab):List C:=[.sl 1 (Aj eI x.L),.int .i64 x.At]
theorem Ab.enc_len (x:Ab):(Ab.enc x).length=2:=rfl
abbrev Dy.dv (x:Dy):List DV:=[.val (.int .i64 x.Key),.val (.int .i64 x.Sum)]
def Dy.enc (x:Dy):List C:=[.int .i64 x.Key,.int .i64 x.Sum]
theorem Dy.enc_len (x:Dy):(Dy.enc x).length=2:=rfl
abbrev Ah.dv (x:Ah):List DV:=[.val (.int .i64 x.Serial),.val (.string x.Issuer),.val (.string x.Subject),.val (.int .i64 x.Key.Alg),.val (.int .i64 x.Key.Bits),.val (.int .i64 x.KeyId),.val (.int .i64 x.Hash.Alg),.val (.int .i64 x.Hash.Bits),.val (.int .i64 x.From),.val (.int .i64 x.To),.val (.bool x.Authority),.val (.int .i64 x.Path),.sl 1 (Aj eS x.Names),.val (.int .i64 x.Seal.Key),.val (.int .i64 x.Seal.Sum)]
def Ah.enc (x:Ah):List C:=[.int .i64 x.Serial,.str x.Issuer,.str x.Subject,.int .i64 x.Key.Alg,.int .i64 x.Key.Bits,.int .i64 x.KeyId,.int .i64 x.Hash.Alg,.int .i64 x.Hash.Bits,.int .i64 x.From,.int .i64 x.To,.bool x.Authority,.int .i64 x.Path,.sl 1 (Aj eS x.Names),.int .i64 x.Seal.Key,.int .i64 x.Seal.Sum]
theorem Ah.enc_len (x:Ah):(Ah.enc x).length=15:=rfl
abbrev Am.dv (x:Am):List DV:=[.val (.int .i64 x.Key.Alg),.val (.int .i64 x.Key.Bits),.val (.int .i64 x.KeyId),.sl 15 (Aj Ah.enc x.Chain)]
def Am.enc (x:Am):List C:=[.int .i64 x.Key.Alg,.int .i64 x.Key.Bits,.int .i64 x.KeyId,.sl 15 (Aj Ah.enc x.Chain)]
theorem Am.enc_len (x:Am):(Am.enc x).length=4:=rfl
abbrev Ad.dv (x:Ad):List DV:=[.val (.string x.Name),.val (.int .i64 x.Least),.val (.int .i64 x.Most),.sl 1 (Aj eI x.Suites),.val (.bool x.OwnOrder),.sl 4 (Aj Am.enc x.Identities),.sl 1 (Aj eI x.Anchors),.sl 1 (Aj eI x.Hashes),.val (.bool x.Fallback)]
def Ad.enc (x:Ad):List C:=[.str x.Name,.int .i64 x.Least,.int .i64 x.Most,.sl 1 (Aj eI x.Suites),.bool x.OwnOrder,.sl 4 (Aj Am.enc x.Identities),.sl 1 (Aj eI x.Anchors),.sl 1 (Aj eI x.Hashes),.bool x.Fallback]
abbrev Ad.ec (x:Ad):List C:=[.str x.Name,.int .i64 x.Least,.int .i64 x.Most,.sl 1 (Aj eI x.Suites),.bool x.OwnOrder,.sl 4 (Aj Am.enc x.Identities),.sl 1 (Aj eI x.Anchors),.sl 1 (Aj eI x.Hashes),.bool x.Fallback]
theorem Ad.enc_len (x:Ad):(Ad.enc x).length=9:=rfl
abbrev A3.dv (x:A3):List DV:=[.val (.int .i64 x.Client),.val (.int .i64 x.Server)]
def A3.enc (x:A3):List C:=[.int .i64 x.Client,.int .i64 x.Server]
theorem A3.enc_len (x:A3):(A3.enc x).length=2:=rfl
abbrev Dh.dv (x:Dh):List DV:=[.val (.int .i64 x.Use.Alg),.val (.int .i64 x.Use.Bits),.val (.int .i64 x.Day)]
def Dh.enc (x:Dh):List C:=[.int .i64 x.Use.Alg,.int .i64 x.Use.Bits,.int .i64 x.Day]
theorem Dh.enc_len (x:Dh):(Dh.enc x).length=3:=rfl
abbrev Bf.dv (x:Bf):List DV:=[.val (.string x.Name),.val (.int .i64 x.Kind),.val (.int .i64 x.Purpose),.sl 3 (Aj Dh.enc x.Links),.val (.int .i64 x.Until)]
def Bf.enc (x:Bf):List C:=[.str x.Name,.int .i64 x.Kind,.int .i64 x.Purpose,.sl 3 (Aj Dh.enc x.Links),.int .i64 x.Until]
theorem Bf.enc_len (x:Bf):(Bf.enc x).length=5:=rfl
abbrev Ap.dv (x:Ap):List DV:=[.sl 9 (Aj Ad.enc x.Endpoints),.sl 2 (Aj A3.enc x.Edges),.sl 5 (Aj Bf.enc x.Items)]
def Ap.enc (x:Ap):List C:=[.sl 9 (Aj Ad.enc x.Endpoints),.sl 2 (Aj A3.enc x.Edges),.sl 5 (Aj Bf.enc x.Items)]
theorem Ap.enc_len (x:Ap):(Ap.enc x).length=3:=rfl
abbrev As.dv (x:As):List DV:=[.val (.string x.name),.val (.int .i64 x.kind)]
def As.enc (x:As):List C:=[.str x.name,.int .i64 x.kind]
theorem As.enc_len (x:As):(As.enc x).length=2:=rfl
mutual
def Ae.enc:Ae->List C
 | ⟨Tag,Bytes,Nested,Elements⟩=>[.int .i64 Tag,.sl 1 (Aj e8 Bytes),.bool Nested,.sl 4 (Ae.encs Elements)]
def Ae.encs:List Ae->List C
 | []=>[]
 | x :: l=>Ae.enc x ++ Ae.encs l
end
theorem Ae.encs_eq:∀ (l:List Ae),Ae.encs l=Aj Ae.enc l
 | []=>rfl
 | x :: l=>by
  show Ae.enc x ++ Ae.encs l=Ae.enc x ++ Aj Ae.enc l
  rw [Ae.encs_eq l]
theorem Ae.enc_eq (x:Ae):Ae.enc x=[.int .i64 x.Tag,.sl 1 (Aj e8 x.Bytes),.bool x.Nested,.sl 4 (Aj Ae.enc x.Elements)]:=by
 cases x
 simp only [Ae.enc,Ae.encs_eq]
theorem Ae.enc_len (x:Ae):(Ae.enc x).length=4:=by rw [Ae.enc_eq]; rfl
abbrev Ae.dv (x:Ae):List DV:=[.val (.int .i64 x.Tag),.sl 1 (Aj e8 x.Bytes),.val (.bool x.Nested),.sl 4 (Aj Ae.enc x.Elements)]
abbrev A1.dv (x:A1):List DV:=[.val (.int .i64 x.Code),.val (.string x.Name),.val (.int .i64 x.Exchange.Alg),.val (.int .i64 x.Exchange.Bits),.val (.int .i64 x.Sign.Alg),.val (.int .i64 x.Sign.Bits),.val (.int .i64 x.Cipher.Alg),.val (.int .i64 x.Cipher.Bits),.val (.int .i64 x.Mac.Alg),.val (.int .i64 x.Mac.Bits),.val (.int .i64 x.Least),.val (.int .i64 x.Most)]
def A1.enc (x:A1):List C:=[.int .i64 x.Code,.str x.Name,.int .i64 x.Exchange.Alg,.int .i64 x.Exchange.Bits,.int .i64 x.Sign.Alg,.int .i64 x.Sign.Bits,.int .i64 x.Cipher.Alg,.int .i64 x.Cipher.Bits,.int .i64 x.Mac.Alg,.int .i64 x.Mac.Bits,.int .i64 x.Least,.int .i64 x.Most]
theorem A1.enc_len (x:A1):(A1.enc x).length=12:=rfl
abbrev Ey.dv (x:Ey):List DV:=[.val (.int .i64 x.at_.Source),.val (.string x.at_.Host),.val (.int .i64 x.at_.Machine),.val (.int .i64 x.at_.Day),.val (.int .i64 x.at_.Confidence),.val (.int .i64 x.at_.Kind),.val (.string x.at_.Subject),.val (.int .i64 x.at_.Use.Alg),.val (.int .i64 x.at_.Use.Bits),.val (.int .i64 x.at_.Number),.val (.string x.at_.Text),.sl 11 (Aj Aa.enc x.l)]
def Ey.enc (x:Ey):List C:=[.int .i64 x.at_.Source,.str x.at_.Host,.int .i64 x.at_.Machine,.int .i64 x.at_.Day,.int .i64 x.at_.Confidence,.int .i64 x.at_.Kind,.str x.at_.Subject,.int .i64 x.at_.Use.Alg,.int .i64 x.at_.Use.Bits,.int .i64 x.at_.Number,.str x.at_.Text,.sl 11 (Aj Aa.enc x.l)]
theorem Ey.enc_len (x:Ey):(Ey.enc x).length=12:=rfl
abbrev Cd.dv (x:Cd):List DV:=[.val (.string x.name),.val (.int .i64 x.kind),.val (.int .i64 x.way),.sl 1 (Aj eI x.sizes),.sl 1 (Aj eI x.strengths)]
def Cd.enc (x:Cd):List C:=[.str x.name,.int .i64 x.kind,.int .i64 x.way,.sl 1 (Aj eI x.sizes),.sl 1 (Aj eI x.strengths)]
theorem Cd.enc_len (x:Cd):(Cd.enc x).length=5:=rfl
abbrev Dp.dv (x:Dp):List DV:=[.val (.string x.host),.val (.int .i64 x.day),.val (.int .i64 x.kind),.val (.int .i64 x.use.Alg),.val (.int .i64 x.use.Bits),.val (.int .i64 x.number),.val (.string x.text)]
def Dp.enc (x:Dp):List C:=[.str x.host,.int .i64 x.day,.int .i64 x.kind,.int .i64 x.use.Alg,.int .i64 x.use.Bits,.int .i64 x.number,.str x.text]
theorem Dp.enc_len (x:Dp):(Dp.enc x).length=7:=rfl
theorem aKr:Tryz.prog.underlying 3=some (.int .i64):=by kernel_rfl
theorem aLs:Tryz.prog.underlying 4=some (.bool):=by kernel_rfl
theorem aFc:Tryz.prog.underlying 5=some (.int .u8):=by kernel_rfl
theorem aJw:Tryz.prog.underlying 9=some (.string):=by kernel_rfl
theorem Hh:Tryz.prog.underlying 24=some (.struct ((match Tryz.prog.underlying 24 with | some (.struct f)=>f | _=>#[]))):=by kernel_rfl
theorem Qt:Tryz.prog.underlying 26=some (.struct ((match Tryz.prog.underlying 26 with | some (.struct f)=>f | _=>#[]))):=by kernel_rfl
theorem aDm:Tryz.prog.underlying 27=some (.slice 26):=by kernel_rfl
theorem qG:Tryz.prog.underlying 36=some (.struct ((match Tryz.prog.underlying 36 with | some (.struct f)=>f | _=>#[]))):=by kernel_rfl
theorem Vr:Tryz.prog.underlying 43=some (.struct ((match Tryz.prog.underlying 43 with | some (.struct f)=>f | _=>#[]))):=by kernel_rfl
theorem tX:Tryz.prog.underlying 61=some (.struct ((match Tryz.prog.underlying 61 with | some (.struct f)=>f | _=>#[]))):=by kernel_rfl
theorem Zk:Tryz.prog.underlying 67=some (.struct ((match Tryz.prog.underlying 67 with | some (.struct f)=>f | _=>#[]))):=by kernel_rfl
theorem mP:Tryz.prog.underlying 71=some (.struct ((match Tryz.prog.underlying 71 with | some (.struct f)=>f | _=>#[]))):=by kernel_rfl
theorem gE:Tryz.prog.underlying 74=some (.struct ((match Tryz.prog.underlying 74 with | some (.struct f)=>f | _=>#[]))):=by kernel_rfl
theorem aJi:Tryz.prog.underlying 87=some (.struct ((match Tryz.prog.underlying 87 with | some (.struct f)=>f | _=>#[]))):=by kernel_rfl
theorem gT:Tryz.prog.underlying 101=some (.struct ((match Tryz.prog.underlying 101 with | some (.struct f)=>f | _=>#[]))):=by kernel_rfl
theorem Mi:Tryz.prog.underlying 103=some (.struct ((match Tryz.prog.underlying 103 with | some (.struct f)=>f | _=>#[]))):=by kernel_rfl
theorem oF:Tryz.prog.underlying 108=some (.struct ((match Tryz.prog.underlying 108 with | some (.struct f)=>f | _=>#[]))):=by kernel_rfl
theorem nK:Tryz.prog.underlying 126=some (.struct ((match Tryz.prog.underlying 126 with | some (.struct f)=>f | _=>#[]))):=by kernel_rfl
theorem aGb:Tryz.prog.underlying 137=some (.slice 5):=by kernel_rfl
theorem Jq:Tryz.prog.underlying 145=some (.struct ((match Tryz.prog.underlying 145 with | some (.struct f)=>f | _=>#[]))):=by kernel_rfl
theorem S4:Tryz.prog.underlying 159=some (.struct ((match Tryz.prog.underlying 159 with | some (.struct f)=>f | _=>#[]))):=by kernel_rfl
theorem aFj:Tryz.prog.underlying 161=some (.int .u32):=by kernel_rfl
theorem Ij:Tryz.prog.underlying 165=some (.struct ((match Tryz.prog.underlying 165 with | some (.struct f)=>f | _=>#[]))):=by kernel_rfl
theorem aFs:Tryz.prog.underlying 172=some (.int .u64):=by kernel_rfl
theorem Hg:Tryz.prog.underlying 194=some (.struct ((match Tryz.prog.underlying 194 with | some (.struct f)=>f | _=>#[]))):=by kernel_rfl
theorem vJ:Tryz.prog.underlying 207=some (.int .u64):=by kernel_rfl
theorem oO:Tryz.prog.underlying 211=some (.array 23 194):=by kernel_rfl
theorem aD1:Tryz.prog.underlying 215=some (.int .u64):=by kernel_rfl
theorem T7:Tryz.prog.underlying 221=some (.array 2 3):=by kernel_rfl
theorem nZ:Tryz.prog.underlying 222=some (.array 5 221):=by kernel_rfl
theorem aAj:Fd Tryz.prog 101 0 0 3:=⟨_,(match Tryz.prog.underlying 101 with | some (.struct f)=>f | _=>#[])[0]!,gT,by kernel_rfl,by kernel_rfl,by kernel_rfl⟩
theorem aA1:Fd Tryz.prog 101 1 1 3:=⟨_,(match Tryz.prog.underlying 101 with | some (.struct f)=>f | _=>#[])[1]!,gT,by kernel_rfl,by kernel_rfl,by kernel_rfl⟩
theorem aBl:Fd Tryz.prog 103 0 0 3:=⟨_,(match Tryz.prog.underlying 103 with | some (.struct f)=>f | _=>#[])[0]!,Mi,by kernel_rfl,by kernel_rfl,by kernel_rfl⟩
theorem aBi:Fd Tryz.prog 103 1 1 9:=⟨_,(match Tryz.prog.underlying 103 with | some (.struct f)=>f | _=>#[])[1]!,Mi,by kernel_rfl,by kernel_rfl,by kernel_rfl⟩
theorem uF:Fd Tryz.prog 103 10 12 62:=⟨_,(match Tryz.prog.underlying 103 with | some (.struct f)=>f | _=>#[])[10]!,Mi,by kernel_rfl,by kernel_rfl,by kernel_rfl⟩
theorem yC:Fd Tryz.prog 103 11 13 101:=⟨_,(match Tryz.prog.underlying 103 with | some (.struct f)=>f | _=>#[])[11]!,Mi,by kernel_rfl,by kernel_rfl,by kernel_rfl⟩
theorem aBd:Fd Tryz.prog 103 2 2 9:=⟨_,(match Tryz.prog.underlying 103 with | some (.struct f)=>f | _=>#[])[2]!,Mi,by kernel_rfl,by kernel_rfl,by kernel_rfl⟩
theorem aAg:Fd Tryz.prog 103 3 3 24:=⟨_,(match Tryz.prog.underlying 103 with | some (.struct f)=>f | _=>#[])[3]!,Mi,by kernel_rfl,by kernel_rfl,by kernel_rfl⟩
theorem aAv:Fd Tryz.prog 103 4 5 3:=⟨_,(match Tryz.prog.underlying 103 with | some (.struct f)=>f | _=>#[])[4]!,Mi,by kernel_rfl,by kernel_rfl,by kernel_rfl⟩
theorem aBf:Fd Tryz.prog 103 5 6 24:=⟨_,(match Tryz.prog.underlying 103 with | some (.struct f)=>f | _=>#[])[5]!,Mi,by kernel_rfl,by kernel_rfl,by kernel_rfl⟩
theorem aCa:Fd Tryz.prog 103 6 8 3:=⟨_,(match Tryz.prog.underlying 103 with | some (.struct f)=>f | _=>#[])[6]!,Mi,by kernel_rfl,by kernel_rfl,by kernel_rfl⟩
theorem aAe:Fd Tryz.prog 103 7 9 3:=⟨_,(match Tryz.prog.underlying 103 with | some (.struct f)=>f | _=>#[])[7]!,Mi,by kernel_rfl,by kernel_rfl,by kernel_rfl⟩
theorem aB3:Fd Tryz.prog 103 8 10 4:=⟨_,(match Tryz.prog.underlying 103 with | some (.struct f)=>f | _=>#[])[8]!,Mi,by kernel_rfl,by kernel_rfl,by kernel_rfl⟩
theorem aB1:Fd Tryz.prog 103 9 11 3:=⟨_,(match Tryz.prog.underlying 103 with | some (.struct f)=>f | _=>#[])[9]!,Mi,by kernel_rfl,by kernel_rfl,by kernel_rfl⟩
theorem zH:Fd Tryz.prog 108 0 0 24:=⟨_,(match Tryz.prog.underlying 108 with | some (.struct f)=>f | _=>#[])[0]!,oF,by kernel_rfl,by kernel_rfl,by kernel_rfl⟩
theorem aCd:Fd Tryz.prog 108 1 2 3:=⟨_,(match Tryz.prog.underlying 108 with | some (.struct f)=>f | _=>#[])[1]!,oF,by kernel_rfl,by kernel_rfl,by kernel_rfl⟩
theorem aBo:Fd Tryz.prog 126 0 0 26:=⟨_,(match Tryz.prog.underlying 126 with | some (.struct f)=>f | _=>#[])[0]!,nK,by kernel_rfl,by kernel_rfl,by kernel_rfl⟩
theorem zW:Fd Tryz.prog 126 1 11 27:=⟨_,(match Tryz.prog.underlying 126 with | some (.struct f)=>f | _=>#[])[1]!,nK,by kernel_rfl,by kernel_rfl,by kernel_rfl⟩
theorem aAy:Fd Tryz.prog 145 0 0 3:=⟨_,(match Tryz.prog.underlying 145 with | some (.struct f)=>f | _=>#[])[0]!,Jq,by kernel_rfl,by kernel_rfl,by kernel_rfl⟩
theorem aBm:Fd Tryz.prog 145 4 6 24:=⟨_,(match Tryz.prog.underlying 145 with | some (.struct f)=>f | _=>#[])[4]!,Jq,by kernel_rfl,by kernel_rfl,by kernel_rfl⟩
theorem aA7:Fd Tryz.prog 159 0 0 3:=⟨_,(match Tryz.prog.underlying 159 with | some (.struct f)=>f | _=>#[])[0]!,S4,by kernel_rfl,by kernel_rfl,by kernel_rfl⟩
theorem aA6:Fd Tryz.prog 159 1 1 137:=⟨_,(match Tryz.prog.underlying 159 with | some (.struct f)=>f | _=>#[])[1]!,S4,by kernel_rfl,by kernel_rfl,by kernel_rfl⟩
theorem aCj:Fd Tryz.prog 159 2 2 4:=⟨_,(match Tryz.prog.underlying 159 with | some (.struct f)=>f | _=>#[])[2]!,S4,by kernel_rfl,by kernel_rfl,by kernel_rfl⟩
theorem zR:Fd Tryz.prog 159 3 3 157:=⟨_,(match Tryz.prog.underlying 159 with | some (.struct f)=>f | _=>#[])[3]!,S4,by kernel_rfl,by kernel_rfl,by kernel_rfl⟩
theorem aA5:Fd Tryz.prog 165 1 1 3:=⟨_,(match Tryz.prog.underlying 165 with | some (.struct f)=>f | _=>#[])[1]!,Ij,by kernel_rfl,by kernel_rfl,by kernel_rfl⟩
theorem zX:Fd Tryz.prog 194 1 1 3:=⟨_,(match Tryz.prog.underlying 194 with | some (.struct f)=>f | _=>#[])[1]!,Hg,by kernel_rfl,by kernel_rfl,by kernel_rfl⟩
theorem aBb:Fd Tryz.prog 194 2 2 3:=⟨_,(match Tryz.prog.underlying 194 with | some (.struct f)=>f | _=>#[])[2]!,Hg,by kernel_rfl,by kernel_rfl,by kernel_rfl⟩
theorem aCk:Fd Tryz.prog 194 3 3 22:=⟨_,(match Tryz.prog.underlying 194 with | some (.struct f)=>f | _=>#[])[3]!,Hg,by kernel_rfl,by kernel_rfl,by kernel_rfl⟩
theorem aAl:Fd Tryz.prog 194 4 4 22:=⟨_,(match Tryz.prog.underlying 194 with | some (.struct f)=>f | _=>#[])[4]!,Hg,by kernel_rfl,by kernel_rfl,by kernel_rfl⟩
theorem aDu:Fd Tryz.prog 24 0 0 3:=⟨_,(match Tryz.prog.underlying 24 with | some (.struct f)=>f | _=>#[])[0]!,Hh,by kernel_rfl,by kernel_rfl,by kernel_rfl⟩
theorem aF9:Fd Tryz.prog 24 1 1 3:=⟨_,(match Tryz.prog.underlying 24 with | some (.struct f)=>f | _=>#[])[1]!,Hh,by kernel_rfl,by kernel_rfl,by kernel_rfl⟩
theorem aEw:Fd Tryz.prog 26 0 0 3:=⟨_,(match Tryz.prog.underlying 26 with | some (.struct f)=>f | _=>#[])[0]!,Qt,by kernel_rfl,by kernel_rfl,by kernel_rfl⟩
theorem aF3:Fd Tryz.prog 26 1 1 9:=⟨_,(match Tryz.prog.underlying 26 with | some (.struct f)=>f | _=>#[])[1]!,Qt,by kernel_rfl,by kernel_rfl,by kernel_rfl⟩
theorem aGi:Fd Tryz.prog 26 2 2 3:=⟨_,(match Tryz.prog.underlying 26 with | some (.struct f)=>f | _=>#[])[2]!,Qt,by kernel_rfl,by kernel_rfl,by kernel_rfl⟩
theorem nG:Fd Tryz.prog 26 3 3 3:=⟨_,(match Tryz.prog.underlying 26 with | some (.struct f)=>f | _=>#[])[3]!,Qt,by kernel_rfl,by kernel_rfl,by kernel_rfl⟩
theorem aEi:Fd Tryz.prog 26 4 4 3:=⟨_,(match Tryz.prog.underlying 26 with | some (.struct f)=>f | _=>#[])[4]!,Qt,by kernel_rfl,by kernel_rfl,by kernel_rfl⟩
theorem aGq:Fd Tryz.prog 26 5 5 3:=⟨_,(match Tryz.prog.underlying 26 with | some (.struct f)=>f | _=>#[])[5]!,Qt,by kernel_rfl,by kernel_rfl,by kernel_rfl⟩
theorem aHi:Fd Tryz.prog 26 6 6 9:=⟨_,(match Tryz.prog.underlying 26 with | some (.struct f)=>f | _=>#[])[6]!,Qt,by kernel_rfl,by kernel_rfl,by kernel_rfl⟩
theorem xE:Fd Tryz.prog 26 7 7 24:=⟨_,(match Tryz.prog.underlying 26 with | some (.struct f)=>f | _=>#[])[7]!,Qt,by kernel_rfl,by kernel_rfl,by kernel_rfl⟩
theorem yJ:Fd Tryz.prog 26 8 9 3:=⟨_,(match Tryz.prog.underlying 26 with | some (.struct f)=>f | _=>#[])[8]!,Qt,by kernel_rfl,by kernel_rfl,by kernel_rfl⟩
theorem aEf:Fd Tryz.prog 26 9 10 9:=⟨_,(match Tryz.prog.underlying 26 with | some (.struct f)=>f | _=>#[])[9]!,Qt,by kernel_rfl,by kernel_rfl,by kernel_rfl⟩
theorem aD9:Fd Tryz.prog 36 0 0 32:=⟨_,(match Tryz.prog.underlying 36 with | some (.struct f)=>f | _=>#[])[0]!,qG,by kernel_rfl,by kernel_rfl,by kernel_rfl⟩
theorem aEj:Fd Tryz.prog 36 1 1 33:=⟨_,(match Tryz.prog.underlying 36 with | some (.struct f)=>f | _=>#[])[1]!,qG,by kernel_rfl,by kernel_rfl,by kernel_rfl⟩
theorem aD3:Fd Tryz.prog 36 2 2 34:=⟨_,(match Tryz.prog.underlying 36 with | some (.struct f)=>f | _=>#[])[2]!,qG,by kernel_rfl,by kernel_rfl,by kernel_rfl⟩
theorem aFb:Fd Tryz.prog 43 0 0 9:=⟨_,(match Tryz.prog.underlying 43 with | some (.struct f)=>f | _=>#[])[0]!,Vr,by kernel_rfl,by kernel_rfl,by kernel_rfl⟩
theorem aDv:Fd Tryz.prog 43 1 1 3:=⟨_,(match Tryz.prog.underlying 43 with | some (.struct f)=>f | _=>#[])[1]!,Vr,by kernel_rfl,by kernel_rfl,by kernel_rfl⟩
theorem aE3:Fd Tryz.prog 43 2 2 3:=⟨_,(match Tryz.prog.underlying 43 with | some (.struct f)=>f | _=>#[])[2]!,Vr,by kernel_rfl,by kernel_rfl,by kernel_rfl⟩
theorem aGc:Fd Tryz.prog 43 3 3 22:=⟨_,(match Tryz.prog.underlying 43 with | some (.struct f)=>f | _=>#[])[3]!,Vr,by kernel_rfl,by kernel_rfl,by kernel_rfl⟩
theorem aEu:Fd Tryz.prog 43 5 5 41:=⟨_,(match Tryz.prog.underlying 43 with | some (.struct f)=>f | _=>#[])[5]!,Vr,by kernel_rfl,by kernel_rfl,by kernel_rfl⟩
theorem aHd:Fd Tryz.prog 43 6 6 22:=⟨_,(match Tryz.prog.underlying 43 with | some (.struct f)=>f | _=>#[])[6]!,Vr,by kernel_rfl,by kernel_rfl,by kernel_rfl⟩
theorem aFq:Fd Tryz.prog 43 7 7 22:=⟨_,(match Tryz.prog.underlying 43 with | some (.struct f)=>f | _=>#[])[7]!,Vr,by kernel_rfl,by kernel_rfl,by kernel_rfl⟩
theorem aEq:Fd Tryz.prog 61 0 0 22:=⟨_,(match Tryz.prog.underlying 61 with | some (.struct f)=>f | _=>#[])[0]!,tX,by kernel_rfl,by kernel_rfl,by kernel_rfl⟩
theorem aE1:Fd Tryz.prog 61 1 1 3:=⟨_,(match Tryz.prog.underlying 61 with | some (.struct f)=>f | _=>#[])[1]!,tX,by kernel_rfl,by kernel_rfl,by kernel_rfl⟩
theorem aHk:Fd Tryz.prog 67 0 0 24:=⟨_,(match Tryz.prog.underlying 67 with | some (.struct f)=>f | _=>#[])[0]!,Zk,by kernel_rfl,by kernel_rfl,by kernel_rfl⟩
theorem aEm:Fd Tryz.prog 67 1 2 3:=⟨_,(match Tryz.prog.underlying 67 with | some (.struct f)=>f | _=>#[])[1]!,Zk,by kernel_rfl,by kernel_rfl,by kernel_rfl⟩
theorem aF2:Fd Tryz.prog 67 2 3 65:=⟨_,(match Tryz.prog.underlying 67 with | some (.struct f)=>f | _=>#[])[2]!,Zk,by kernel_rfl,by kernel_rfl,by kernel_rfl⟩
theorem aHu:Fd Tryz.prog 71 0 0 3:=⟨_,(match Tryz.prog.underlying 71 with | some (.struct f)=>f | _=>#[])[0]!,mP,by kernel_rfl,by kernel_rfl,by kernel_rfl⟩
theorem aEg:Fd Tryz.prog 71 1 1 3:=⟨_,(match Tryz.prog.underlying 71 with | some (.struct f)=>f | _=>#[])[1]!,mP,by kernel_rfl,by kernel_rfl,by kernel_rfl⟩
theorem aFf:Fd Tryz.prog 74 0 0 9:=⟨_,(match Tryz.prog.underlying 74 with | some (.struct f)=>f | _=>#[])[0]!,gE,by kernel_rfl,by kernel_rfl,by kernel_rfl⟩
theorem aGr:Fd Tryz.prog 74 1 1 3:=⟨_,(match Tryz.prog.underlying 74 with | some (.struct f)=>f | _=>#[])[1]!,gE,by kernel_rfl,by kernel_rfl,by kernel_rfl⟩
theorem aF7:Fd Tryz.prog 74 2 2 3:=⟨_,(match Tryz.prog.underlying 74 with | some (.struct f)=>f | _=>#[])[2]!,gE,by kernel_rfl,by kernel_rfl,by kernel_rfl⟩
theorem aHt:Fd Tryz.prog 74 3 3 72:=⟨_,(match Tryz.prog.underlying 74 with | some (.struct f)=>f | _=>#[])[3]!,gE,by kernel_rfl,by kernel_rfl,by kernel_rfl⟩
theorem aG3:Fd Tryz.prog 74 4 4 3:=⟨_,(match Tryz.prog.underlying 74 with | some (.struct f)=>f | _=>#[])[4]!,gE,by kernel_rfl,by kernel_rfl,by kernel_rfl⟩
theorem aC9:((match Tryz.prog.underlying 101 with | some (.struct f)=>f | _=>#[]):Array Field).toList.map (fun f=>(Tryz.prog.info? f.type).map fun i=>(f.offset,i.size))=[(0,1),(1,1)].map some:=by kernel_rfl
theorem uJ:((match Tryz.prog.underlying 103 with | some (.struct f)=>f | _=>#[]):Array Field).toList.map (fun f=>(Tryz.prog.info? f.type).map fun i=>(f.offset,i.size))=[(0,1),(1,1),(2,1),(3,2),(5,1),(6,2),(8,1),(9,1),(10,1),(11,1),(12,1),(13,2)].map some:=by kernel_rfl
theorem aJd:((match Tryz.prog.underlying 108 with | some (.struct f)=>f | _=>#[]):Array Field).toList.map (fun f=>(Tryz.prog.info? f.type).map fun i=>(f.offset,i.size))=[(0,2),(2,1)].map some:=by kernel_rfl
theorem aI1:((match Tryz.prog.underlying 126 with | some (.struct f)=>f | _=>#[]):Array Field).toList.map (fun f=>(Tryz.prog.info? f.type).map fun i=>(f.offset,i.size))=[(0,11),(11,1)].map some:=by kernel_rfl
theorem M1:((match Tryz.prog.underlying 145 with | some (.struct f)=>f | _=>#[]):Array Field).toList.map (fun f=>(Tryz.prog.info? f.type).map fun i=>(f.offset,i.size))=[(0,1),(1,1),(2,2),(4,2),(6,2),(8,2),(10,1),(11,1)].map some:=by kernel_rfl
theorem kC:((match Tryz.prog.underlying 159 with | some (.struct f)=>f | _=>#[]):Array Field).toList.map (fun f=>(Tryz.prog.info? f.type).map fun i=>(f.offset,i.size))=[(0,1),(1,1),(2,1),(3,1)].map some:=by kernel_rfl
theorem Lr:((match Tryz.prog.underlying 165 with | some (.struct f)=>f | _=>#[]):Array Field).toList.map (fun f=>(Tryz.prog.info? f.type).map fun i=>(f.offset,i.size))=[(0,1),(1,1)].map some:=by kernel_rfl
theorem Lk:((match Tryz.prog.underlying 194 with | some (.struct f)=>f | _=>#[]):Array Field).toList.map (fun f=>(Tryz.prog.info? f.type).map fun i=>(f.offset,i.size))=[(0,1),(1,1),(2,1),(3,1),(4,1)].map some:=by kernel_rfl
theorem Lt:((match Tryz.prog.underlying 24 with | some (.struct f)=>f | _=>#[]):Array Field).toList.map (fun f=>(Tryz.prog.info? f.type).map fun i=>(f.offset,i.size))=[(0,1),(1,1)].map some:=by kernel_rfl
theorem zK:((match Tryz.prog.underlying 26 with | some (.struct f)=>f | _=>#[]):Array Field).toList.map (fun f=>(Tryz.prog.info? f.type).map fun i=>(f.offset,i.size))=[(0,1),(1,1),(2,1),(3,1),(4,1),(5,1),(6,1),(7,2),(9,1),(10,1)].map some:=by kernel_rfl
theorem aMc:((match Tryz.prog.underlying 36 with | some (.struct f)=>f | _=>#[]):Array Field).toList.map (fun f=>(Tryz.prog.info? f.type).map fun i=>(f.offset,i.size))=[(0,1),(1,1),(2,1)].map some:=by kernel_rfl
theorem aGa:((match Tryz.prog.underlying 43 with | some (.struct f)=>f | _=>#[]):Array Field).toList.map (fun f=>(Tryz.prog.info? f.type).map fun i=>(f.offset,i.size))=[(0,1),(1,1),(2,1),(3,1),(4,1),(5,1),(6,1),(7,1),(8,1)].map some:=by kernel_rfl
theorem aMz:((match Tryz.prog.underlying 61 with | some (.struct f)=>f | _=>#[]):Array Field).toList.map (fun f=>(Tryz.prog.info? f.type).map fun i=>(f.offset,i.size))=[(0,1),(1,1)].map some:=by kernel_rfl
theorem vV:((match Tryz.prog.underlying 67 with | some (.struct f)=>f | _=>#[]):Array Field).toList.map (fun f=>(Tryz.prog.info? f.type).map fun i=>(f.offset,i.size))=[(0,2),(2,1),(3,1)].map some:=by kernel_rfl
theorem aD7:((match Tryz.prog.underlying 71 with | some (.struct f)=>f | _=>#[]):Array Field).toList.map (fun f=>(Tryz.prog.info? f.type).map fun i=>(f.offset,i.size))=[(0,1),(1,1)].map some:=by kernel_rfl
theorem aMv:((match Tryz.prog.underlying 74 with | some (.struct f)=>f | _=>#[]):Array Field).toList.map (fun f=>(Tryz.prog.info? f.type).map fun i=>(f.offset,i.size))=[(0,1),(1,1),(2,1),(3,1),(4,1)].map some:=by kernel_rfl
theorem aLu:((match Tryz.prog.underlying 87 with | some (.struct f)=>f | _=>#[]):Array Field).toList.map (fun f=>(Tryz.prog.info? f.type).map fun i=>(f.offset,i.size))=[(0,1),(1,1),(2,1),(3,2),(5,1),(6,1)].map some:=by kernel_rfl
theorem wN:Ix Tryz.prog 106 24 2 16:=Ix.mk' (z:=(.agg #[.int .i64 0,.int .i64 0])) (by kernel_rfl) (by kernel_rfl) rfl (by decide) (by decide)
theorem T2:Ix Tryz.prog 137 5 1 1:=Ix.mk' (z:=(.int .u8 0)) (by kernel_rfl) (by kernel_rfl) rfl (by decide) (by decide)
theorem mI:Ix Tryz.prog 157 159 4 64:=Ix.mk' (z:=(.agg #[.int .i64 0,.slice none 0 0,.bool false,.slice none 0 0])) (by kernel_rfl) (by kernel_rfl) rfl (by decide) (by decide)
theorem wS:Ix Tryz.prog 162 145 12 104:=Ix.mk' (z:=(.agg #[.int .i64 0,.string ⟨#[]⟩,.int .i64 0,.int .i64 0,.int .i64 0,.int .i64 0,.int .i64 0,.int .i64 0,.int .i64 0,.int .i64 0,.int .i64 0,.int .i64 0])) (by kernel_rfl) (by kernel_rfl) rfl (by decide) (by decide)
theorem aC3:Ix Tryz.prog 166 165 2 24:=Ix.mk' (z:=(.agg #[.string ⟨#[]⟩,.int .i64 0])) (by kernel_rfl) (by kernel_rfl) rfl (by decide) (by decide)
theorem Q8:Ix Tryz.prog 179 174 1 8:=Ix.mk' (z:=(.nilFunc)) (by kernel_rfl) (by kernel_rfl) rfl (by decide) (by decide)
theorem Eb:Ix Tryz.prog 22 3 1 8:=Ix.mk' (z:=(.int .i64 0)) (by kernel_rfl) (by kernel_rfl) rfl (by decide) (by decide)
theorem Pz:Ix Tryz.prog 27 26 11 112:=Ix.mk' (z:=(.agg #[.int .i64 0,.string ⟨#[]⟩,.int .i64 0,.int .i64 0,.int .i64 0,.int .i64 0,.string ⟨#[]⟩,.int .i64 0,.int .i64 0,.int .i64 0,.string ⟨#[]⟩])) (by kernel_rfl) (by kernel_rfl) rfl (by decide) (by decide)
theorem uS:Ix Tryz.prog 32 43 9 144:=Ix.mk' (z:=(.agg #[.string ⟨#[]⟩,.int .i64 0,.int .i64 0,.slice none 0 0,.bool false,.slice none 0 0,.slice none 0 0,.slice none 0 0,.bool false])) (by kernel_rfl) (by kernel_rfl) rfl (by decide) (by decide)
theorem xX:Ix Tryz.prog 33 71 2 16:=Ix.mk' (z:=(.agg #[.int .i64 0,.int .i64 0])) (by kernel_rfl) (by kernel_rfl) rfl (by decide) (by decide)
theorem uZ:Ix Tryz.prog 34 74 5 64:=Ix.mk' (z:=(.agg #[.string ⟨#[]⟩,.int .i64 0,.int .i64 0,.slice none 0 0,.int .i64 0])) (by kernel_rfl) (by kernel_rfl) rfl (by decide) (by decide)
theorem kR:Ix Tryz.prog 41 67 4 48:=Ix.mk' (z:=(.agg #[.int .i64 0,.int .i64 0,.int .i64 0,.slice none 0 0])) (by kernel_rfl) (by kernel_rfl) rfl (by decide) (by decide)
theorem aJy:Ix Tryz.prog 55 36 3 72:=Ix.mk' (z:=(.agg #[.slice none 0 0,.slice none 0 0,.slice none 0 0])) (by kernel_rfl) (by kernel_rfl) rfl (by decide) (by decide)
theorem Px:Ix Tryz.prog 62 9 1 16:=Ix.mk' (z:=(.string ⟨#[]⟩)) (by kernel_rfl) (by kernel_rfl) rfl (by decide) (by decide)
theorem zU:Ix Tryz.prog 64 22 1 24:=Ix.mk' (z:=(.slice none 0 0)) (by kernel_rfl) (by kernel_rfl) rfl (by decide) (by decide)
theorem yK:Ix Tryz.prog 65 103 15 152:=Ix.mk' (z:=(.agg #[.int .i64 0,.string ⟨#[]⟩,.string ⟨#[]⟩,.int .i64 0,.int .i64 0,.int .i64 0,.int .i64 0,.int .i64 0,.int .i64 0,.int .i64 0,.bool false,.int .i64 0,.slice none 0 0,.int .i64 0,.int .i64 0])) (by kernel_rfl) (by kernel_rfl) rfl (by decide) (by decide)
theorem aJp:Ix Tryz.prog 72 108 3 24:=Ix.mk' (z:=(.agg #[.int .i64 0,.int .i64 0,.int .i64 0])) (by kernel_rfl) (by kernel_rfl) rfl (by decide) (by decide)
theorem aJ7:Ty Tryz.prog 101 true 2:=⟨by kernel_rfl,by kernel_rfl⟩
theorem aJo:Ty Tryz.prog 103 true 15:=⟨by kernel_rfl,by kernel_rfl⟩
theorem aJu:Ty Tryz.prog 108 true 3:=⟨by kernel_rfl,by kernel_rfl⟩
theorem aIi:Ty Tryz.prog 137 false 1:=⟨by kernel_rfl,by kernel_rfl⟩
theorem aKa:Ty Tryz.prog 145 true 12:=⟨by kernel_rfl,by kernel_rfl⟩
theorem aI2:Ty Tryz.prog 157 false 1:=⟨by kernel_rfl,by kernel_rfl⟩
theorem kW:Ty Tryz.prog 159 true 4:=⟨by kernel_rfl,by kernel_rfl⟩
theorem Od:Ty Tryz.prog 173 false 1:=⟨by kernel_rfl,by kernel_rfl⟩
theorem S9:Ty Tryz.prog 174 false 1:=⟨by kernel_rfl,by kernel_rfl⟩
theorem cG:Ty Tryz.prog 176 false 1:=⟨by kernel_rfl,by kernel_rfl⟩
theorem aCz:Ty Tryz.prog 194 true 5:=⟨by kernel_rfl,by kernel_rfl⟩
theorem aIq:Ty Tryz.prog 211 true 115:=⟨by kernel_rfl,by kernel_rfl⟩
theorem aH5:Ty Tryz.prog 215 false 1:=⟨by kernel_rfl,by kernel_rfl⟩
theorem aCc:Ty Tryz.prog 22 false 1:=⟨by kernel_rfl,by kernel_rfl⟩
theorem aDe:Ty Tryz.prog 221 true 2:=⟨by kernel_rfl,by kernel_rfl⟩
theorem aE5:Ty Tryz.prog 24 true 2:=⟨by kernel_rfl,by kernel_rfl⟩
theorem Nz:Ty Tryz.prog 26 true 11:=⟨by kernel_rfl,by kernel_rfl⟩
theorem aLo:Ty Tryz.prog 27 false 1:=⟨by kernel_rfl,by kernel_rfl⟩
theorem yW:Ty Tryz.prog 3 false 1:=⟨by kernel_rfl,by kernel_rfl⟩
theorem aLe:Ty Tryz.prog 32 false 1:=⟨by kernel_rfl,by kernel_rfl⟩
theorem aL8:Ty Tryz.prog 33 false 1:=⟨by kernel_rfl,by kernel_rfl⟩
theorem aL9:Ty Tryz.prog 34 false 1:=⟨by kernel_rfl,by kernel_rfl⟩
theorem aMr:Ty Tryz.prog 36 true 3:=⟨by kernel_rfl,by kernel_rfl⟩
theorem aEd:Ty Tryz.prog 38 false 1:=⟨by kernel_rfl,by kernel_rfl⟩
theorem ty4:Ty Tryz.prog 4 false 1:=⟨by kernel_rfl,by kernel_rfl⟩
theorem aMl:Ty Tryz.prog 41 false 1:=⟨by kernel_rfl,by kernel_rfl⟩
theorem aKs:Ty Tryz.prog 43 true 9:=⟨by kernel_rfl,by kernel_rfl⟩
theorem ty5:Ty Tryz.prog 5 false 1:=⟨by kernel_rfl,by kernel_rfl⟩
theorem aLn:Ty Tryz.prog 62 false 1:=⟨by kernel_rfl,by kernel_rfl⟩
theorem aM7:Ty Tryz.prog 65 false 1:=⟨by kernel_rfl,by kernel_rfl⟩
theorem aMe:Ty Tryz.prog 67 true 4:=⟨by kernel_rfl,by kernel_rfl⟩
theorem aM3:Ty Tryz.prog 71 true 2:=⟨by kernel_rfl,by kernel_rfl⟩
theorem aMm:Ty Tryz.prog 72 false 1:=⟨by kernel_rfl,by kernel_rfl⟩
theorem aMn:Ty Tryz.prog 74 true 5:=⟨by kernel_rfl,by kernel_rfl⟩
theorem aJ1:Ty Tryz.prog 85 false 1:=⟨by kernel_rfl,by kernel_rfl⟩
theorem aLv:Ty Tryz.prog 87 true 7:=⟨by kernel_rfl,by kernel_rfl⟩
theorem ty9:Ty Tryz.prog 9 false 1:=⟨by kernel_rfl,by kernel_rfl⟩
theorem aG7:Zt Tryz.prog 101 [.int .i64 0,.int .i64 0]:=⟨(.agg #[.int .i64 0,.int .i64 0]),by kernel_rfl,rfl,by decide⟩
theorem lC:Zt Tryz.prog 103 [.int .i64 0,.string ⟨#[]⟩,.string ⟨#[]⟩,.int .i64 0,.int .i64 0,.int .i64 0,.int .i64 0,.int .i64 0,.int .i64 0,.int .i64 0,.bool false,.int .i64 0,.slice none 0 0,.int .i64 0,.int .i64 0]:=⟨(.agg #[.int .i64 0,.string ⟨#[]⟩,.string ⟨#[]⟩,.int .i64 0,.int .i64 0,.int .i64 0,.int .i64 0,.int .i64 0,.int .i64 0,.int .i64 0,.bool false,.int .i64 0,.slice none 0 0,.int .i64 0,.int .i64 0]),by kernel_rfl,rfl,by decide⟩
theorem aG0:Zt Tryz.prog 108 [.int .i64 0,.int .i64 0,.int .i64 0]:=⟨(.agg #[.int .i64 0,.int .i64 0,.int .i64 0]),by kernel_rfl,rfl,by decide⟩
theorem aKq:Zt Tryz.prog 126 [.int .i64 0,.string ⟨#[]⟩,.int .i64 0,.int .i64 0,.int .i64 0,.int .i64 0,.string ⟨#[]⟩,.int .i64 0,.int .i64 0,.int .i64 0,.string ⟨#[]⟩,.slice none 0 0]:=⟨(.agg #[.int .i64 0,.string ⟨#[]⟩,.int .i64 0,.int .i64 0,.int .i64 0,.int .i64 0,.string ⟨#[]⟩,.int .i64 0,.int .i64 0,.int .i64 0,.string ⟨#[]⟩,.slice none 0 0]),by kernel_rfl,rfl,by decide⟩
theorem Qp:Zt Tryz.prog 145 [.int .i64 0,.string ⟨#[]⟩,.int .i64 0,.int .i64 0,.int .i64 0,.int .i64 0,.int .i64 0,.int .i64 0,.int .i64 0,.int .i64 0,.int .i64 0,.int .i64 0]:=⟨(.agg #[.int .i64 0,.string ⟨#[]⟩,.int .i64 0,.int .i64 0,.int .i64 0,.int .i64 0,.int .i64 0,.int .i64 0,.int .i64 0,.int .i64 0,.int .i64 0,.int .i64 0]),by kernel_rfl,rfl,by decide⟩
theorem dO:Zt Tryz.prog 159 [.int .i64 0,.slice none 0 0,.bool false,.slice none 0 0]:=⟨(.agg #[.int .i64 0,.slice none 0 0,.bool false,.slice none 0 0]),by kernel_rfl,rfl,by decide⟩
theorem Oq:Zt Tryz.prog 165 [.string ⟨#[]⟩,.int .i64 0]:=⟨(.agg #[.string ⟨#[]⟩,.int .i64 0]),by kernel_rfl,rfl,by decide⟩
theorem aK0:Zt Tryz.prog 174 [.nilFunc]:=⟨(.nilFunc),by kernel_rfl,rfl,by decide⟩
theorem O4:Zt Tryz.prog 194 [.string ⟨#[]⟩,.int .i64 0,.int .i64 0,.slice none 0 0,.slice none 0 0]:=⟨(.agg #[.string ⟨#[]⟩,.int .i64 0,.int .i64 0,.slice none 0 0,.slice none 0 0]),by kernel_rfl,rfl,by decide⟩
theorem aJm:Zt Tryz.prog 211 [.string ⟨#[]⟩,.int .i64 0,.int .i64 0,.slice none 0 0,.slice none 0 0,.string ⟨#[]⟩,.int .i64 0,.int .i64 0,.slice none 0 0,.slice none 0 0,.string ⟨#[]⟩,.int .i64 0,.int .i64 0,.slice none 0 0,.slice none 0 0,.string ⟨#[]⟩,.int .i64 0,.int .i64 0,.slice none 0 0,.slice none 0 0,.string ⟨#[]⟩,.int .i64 0,.int .i64 0,.slice none 0 0,.slice none 0 0,.string ⟨#[]⟩,.int .i64 0,.int .i64 0,.slice none 0 0,.slice none 0 0,.string ⟨#[]⟩,.int .i64 0,.int .i64 0,.slice none 0 0,.slice none 0 0,.string ⟨#[]⟩,.int .i64 0,.int .i64 0,.slice none 0 0,.slice none 0 0,.string ⟨#[]⟩,.int .i64 0,.int .i64 0,.slice none 0 0,.slice none 0 0,.string ⟨#[]⟩,.int .i64 0,.int .i64 0,.slice none 0 0,.slice none 0 0,.string ⟨#[]⟩,.int .i64 0,.int .i64 0,.slice none 0 0,.slice none 0 0,.string ⟨#[]⟩,.int .i64 0,.int .i64 0,.slice none 0 0,.slice none 0 0,.string ⟨#[]⟩,.int .i64 0,.int .i64 0,.slice none 0 0,.slice none 0 0,.string ⟨#[]⟩,.int .i64 0,.int .i64 0,.slice none 0 0,.slice none 0 0,.string ⟨#[]⟩,.int .i64 0,.int .i64 0,.slice none 0 0,.slice none 0 0,.string ⟨#[]⟩,.int .i64 0,.int .i64 0,.slice none 0 0,.slice none 0 0,.string ⟨#[]⟩,.int .i64 0,.int .i64 0,.slice none 0 0,.slice none 0 0,.string ⟨#[]⟩,.int .i64 0,.int .i64 0,.slice none 0 0,.slice none 0 0,.string ⟨#[]⟩,.int .i64 0,.int .i64 0,.slice none 0 0,.slice none 0 0,.string ⟨#[]⟩,.int .i64 0,.int .i64 0,.slice none 0 0,.slice none 0 0,.string ⟨#[]⟩,.int .i64 0,.int .i64 0,.slice none 0 0,.slice none 0 0,.string ⟨#[]⟩,.int .i64 0,.int .i64 0,.slice none 0 0,.slice none 0 0,.string ⟨#[]⟩,.int .i64 0,.int .i64 0,.slice none 0 0,.slice none 0 0]:=⟨(.agg #[.string ⟨#[]⟩,.int .i64 0,.int .i64 0,.slice none 0 0,.slice none 0 0,.string ⟨#[]⟩,.int .i64 0,.int .i64 0,.slice none 0 0,.slice none 0 0,.string ⟨#[]⟩,.int .i64 0,.int .i64 0,.slice none 0 0,.slice none 0 0,.string ⟨#[]⟩,.int .i64 0,.int .i64 0,.slice none 0 0,.slice none 0 0,.string ⟨#[]⟩,.int .i64 0,.int .i64 0,.slice none 0 0,.slice none 0 0,.string ⟨#[]⟩,.int .i64 0,.int .i64 0,.slice none 0 0,.slice none 0 0,.string ⟨#[]⟩,.int .i64 0,.int .i64 0,.slice none 0 0,.slice none 0 0,.string ⟨#[]⟩,.int .i64 0,.int .i64 0,.slice none 0 0,.slice none 0 0,.string ⟨#[]⟩,.int .i64 0,.int .i64 0,.slice none 0 0,.slice none 0 0,.string ⟨#[]⟩,.int .i64 0,.int .i64 0,.slice none 0 0,.slice none 0 0,.string ⟨#[]⟩,.int .i64 0,.int .i64 0,.slice none 0 0,.slice none 0 0,.string ⟨#[]⟩,.int .i64 0,.int .i64 0,.slice none 0 0,.slice none 0 0,.string ⟨#[]⟩,.int .i64 0,.int .i64 0,.slice none 0 0,.slice none 0 0,.string ⟨#[]⟩,.int .i64 0,.int .i64 0,.slice none 0 0,.slice none 0 0,.string ⟨#[]⟩,.int .i64 0,.int .i64 0,.slice none 0 0,.slice none 0 0,.string ⟨#[]⟩,.int .i64 0,.int .i64 0,.slice none 0 0,.slice none 0 0,.string ⟨#[]⟩,.int .i64 0,.int .i64 0,.slice none 0 0,.slice none 0 0,.string ⟨#[]⟩,.int .i64 0,.int .i64 0,.slice none 0 0,.slice none 0 0,.string ⟨#[]⟩,.int .i64 0,.int .i64 0,.slice none 0 0,.slice none 0 0,.string ⟨#[]⟩,.int .i64 0,.int .i64 0,.slice none 0 0,.slice none 0 0,.string ⟨#[]⟩,.int .i64 0,.int .i64 0,.slice none 0 0,.slice none 0 0,.string ⟨#[]⟩,.int .i64 0,.int .i64 0,.slice none 0 0,.slice none 0 0,.string ⟨#[]⟩,.int .i64 0,.int .i64 0,.slice none 0 0,.slice none 0 0]),by kernel_rfl,rfl,by decide⟩
theorem aMy:Zt Tryz.prog 215 [.int .u64 0]:=⟨(.int .u64 0),by kernel_rfl,rfl,by decide⟩
theorem z22:Zt Tryz.prog 22 [.slice none 0 0]:=⟨(.slice none 0 0),by kernel_rfl,rfl,by decide⟩
theorem rU:Zt Tryz.prog 221 [.int .i64 0,.int .i64 0]:=⟨(.agg #[.int .i64 0,.int .i64 0]),by kernel_rfl,rfl,by decide⟩
theorem aJf:Zt Tryz.prog 222 [.int .i64 0,.int .i64 0,.int .i64 0,.int .i64 0,.int .i64 0,.int .i64 0,.int .i64 0,.int .i64 0,.int .i64 0,.int .i64 0]:=⟨(.agg #[.int .i64 0,.int .i64 0,.int .i64 0,.int .i64 0,.int .i64 0,.int .i64 0,.int .i64 0,.int .i64 0,.int .i64 0,.int .i64 0]),by kernel_rfl,rfl,by decide⟩
theorem S8:Zt Tryz.prog 24 [.int .i64 0,.int .i64 0]:=⟨(.agg #[.int .i64 0,.int .i64 0]),by kernel_rfl,rfl,by decide⟩
theorem eH:Zt Tryz.prog 26 [.int .i64 0,.string ⟨#[]⟩,.int .i64 0,.int .i64 0,.int .i64 0,.int .i64 0,.string ⟨#[]⟩,.int .i64 0,.int .i64 0,.int .i64 0,.string ⟨#[]⟩]:=⟨(.agg #[.int .i64 0,.string ⟨#[]⟩,.int .i64 0,.int .i64 0,.int .i64 0,.int .i64 0,.string ⟨#[]⟩,.int .i64 0,.int .i64 0,.int .i64 0,.string ⟨#[]⟩]),by kernel_rfl,rfl,by decide⟩
theorem z3:Zt Tryz.prog 3 [.int .i64 0]:=⟨(.int .i64 0),by kernel_rfl,rfl,by decide⟩
theorem z36:Zt Tryz.prog 36 [.slice none 0 0,.slice none 0 0,.slice none 0 0]:=⟨(.agg #[.slice none 0 0,.slice none 0 0,.slice none 0 0]),by kernel_rfl,rfl,by decide⟩
theorem z43:Zt Tryz.prog 43 [.string ⟨#[]⟩,.int .i64 0,.int .i64 0,.slice none 0 0,.bool false,.slice none 0 0,.slice none 0 0,.slice none 0 0,.bool false]:=⟨(.agg #[.string ⟨#[]⟩,.int .i64 0,.int .i64 0,.slice none 0 0,.bool false,.slice none 0 0,.slice none 0 0,.slice none 0 0,.bool false]),by kernel_rfl,rfl,by decide⟩
theorem z5:Zt Tryz.prog 5 [.int .u8 0]:=⟨(.int .u8 0),by kernel_rfl,rfl,by decide⟩
theorem z61:Zt Tryz.prog 61 [.slice none 0 0,.int .i64 0]:=⟨(.agg #[.slice none 0 0,.int .i64 0]),by kernel_rfl,rfl,by decide⟩
theorem sV:Zt Tryz.prog 67 [.int .i64 0,.int .i64 0,.int .i64 0,.slice none 0 0]:=⟨(.agg #[.int .i64 0,.int .i64 0,.int .i64 0,.slice none 0 0]),by kernel_rfl,rfl,by decide⟩
theorem z71:Zt Tryz.prog 71 [.int .i64 0,.int .i64 0]:=⟨(.agg #[.int .i64 0,.int .i64 0]),by kernel_rfl,rfl,by decide⟩
theorem z74:Zt Tryz.prog 74 [.string ⟨#[]⟩,.int .i64 0,.int .i64 0,.slice none 0 0,.int .i64 0]:=⟨(.agg #[.string ⟨#[]⟩,.int .i64 0,.int .i64 0,.slice none 0 0,.int .i64 0]),by kernel_rfl,rfl,by decide⟩
theorem z85:Zt Tryz.prog 85 [.map none]:=⟨(.map none),by kernel_rfl,rfl,by decide⟩
theorem z87:Zt Tryz.prog 87 [.string ⟨#[]⟩,.int .i64 0,.int .i64 0,.int .i64 0,.int .i64 0,.int .i64 0,.string ⟨#[]⟩]:=⟨(.agg #[.string ⟨#[]⟩,.int .i64 0,.int .i64 0,.int .i64 0,.int .i64 0,.int .i64 0,.string ⟨#[]⟩]),by kernel_rfl,rfl,by decide⟩
theorem z9:Zt Tryz.prog 9 [.string ⟨#[]⟩]:=⟨(.string ⟨#[]⟩),by kernel_rfl,rfl,by decide⟩
theorem pH:Kk Tryz.prog 20 103=[none,none,none,none,none,none,none,none,none,none,none,none,some 1,none,none]:=by kernel_rfl
theorem aJa:Kk Tryz.prog 20 108=[none,none,none]:=by kernel_rfl
theorem aCy:Kk Tryz.prog 20 145=[none,none,none,none,none,none,none,none,none,none,none,none]:=by kernel_rfl
theorem pZ:Kk Tryz.prog 20 159=[none,some 1,none,some 4]:=by kernel_rfl
theorem aI0:Kk Tryz.prog 20 165=[none,none]:=by kernel_rfl
theorem aEl:Kk Tryz.prog 20 22=[some 1]:=by kernel_rfl
theorem aIo:Kk Tryz.prog 20 24=[none,none]:=by kernel_rfl
theorem I8:Kk Tryz.prog 20 26=[none,none,none,none,none,none,none,none,none,none,none]:=by kernel_rfl
theorem I7:Kk Tryz.prog 20 3=[none]:=by kernel_rfl
theorem aM5:Kk Tryz.prog 20 36=[some 9,some 2,some 5]:=by kernel_rfl
theorem aB9:Kk Tryz.prog 20 43=[none,none,none,some 1,none,some 4,some 1,some 1,none]:=by kernel_rfl
theorem yV:Kk Tryz.prog 20 5=[none]:=by kernel_rfl
theorem nI:Kk Tryz.prog 20 67=[none,none,none,some 15]:=by kernel_rfl
theorem aGu:Kk Tryz.prog 20 71=[none,none]:=by kernel_rfl
theorem aEz:Kk Tryz.prog 20 74=[none,none,none,some 3,none]:=by kernel_rfl
theorem rL:Kk Tryz.prog 20 9=[none]:=by kernel_rfl
theorem aMi (s:ByteArray) (c:UInt8) (w:World):(callFunc 192 [.string s,.int .u8 (c.toNat:Int)].toArray).run Tryz.prog w=.ok (.value (.int .i64 (iH s c))) w:=tJ Tryz.func192 rfl rfl (by kernel_rfl) (by kernel_rfl) s c w
theorem aL6 (a b:ByteArray) (w:World):(callFunc 191 [.string a,.string b].toArray).run Tryz.prog w=.ok (.value (.int .i64 (sY a b))) w:=uW Tryz.func191 rfl rfl (by kernel_rfl) (by kernel_rfl) a b w
theorem aL5:Tryz.prog.eqGuardType Tryz.prog.depth 24=false:=by kernel_rfl
theorem aE0:Tryz.prog.underlying 24=some (.struct (Tryz.prog.fieldsOf 24)):=by kernel_rfl
theorem aHa:Tryz.prog.stoodInHeld 24=false:=by kernel_rfl
theorem aM0 (x y:Aq) (w:World):(Op.equalIn 10000 24 (.agg #[.int .i64 x.Alg,.int .i64 x.Bits]) (.agg #[.int .i64 y.Alg,.int .i64 y.Bits])).run Tryz.prog w=.ok (decide (x=y)) w:=by
 have u3:=Tryz.underlying3
 have a3:=Tryz.isAgg3
 have z3:=Tryz.sizeOf3
 rw [show (10000:Nat)=9999 + 1 from rfl,run_equalIn_agg w 9999 24 _ _ aE0 aHa]
 simp only [Program.fieldsOf,Tryz.underlying24]
 go_simp
 rcases x with ⟨x0,x1⟩
 rcases y with ⟨y0,y1⟩
 by_cases h0:x0=y0 <;> by_cases h1:x1=y1 <;> simp [h0,h1]
theorem Lg (x y:Aq) {X Y:Operand} {tk:Nat} {yt ty:TypeId} {b1 b2:Option LB}:F1 Tryz.prog tk (.binOp .eql 24 X Y yt) ty [(.agg [.val (.int .i64 x.Alg),.val (.int .i64 x.Bits)],b1),(.agg [.val (.int .i64 y.Alg),.val (.int .i64 y.Bits)],b2)] [] (v0 (.val (.bool (decide (x=y))))):=
 .binOpA rfl rfl (fun _ _=>rfl) (fun w=>by
  rw [Sem.run_bind,run_eqGuard_agg w _ 24 X Y _ _ aL5]
  simp only [Result.andThen_ok,run_eql_struct]
  exact congrArg (fun r=>Result.andThen r _) (aM0 x y w))
theorem aIa:Tryz.prog.eqGuardType Tryz.prog.depth 26=false:=by kernel_rfl
theorem aM8:Tryz.prog.underlying 26=some (.struct (Tryz.prog.fieldsOf 26)):=by kernel_rfl
theorem aLx:Tryz.prog.stoodInHeld 26=false:=by kernel_rfl
theorem aJq (x y:Aa) (w:World):(Op.equalIn 10000 26 (.agg #[.int .i64 x.Source,.string x.Host,.int .i64 x.Machine,.int .i64 x.Day,.int .i64 x.Confidence,.int .i64 x.Kind,.string x.Subject,.int .i64 x.Use.Alg,.int .i64 x.Use.Bits,.int .i64 x.Number,.string x.Text]) (.agg #[.int .i64 y.Source,.string y.Host,.int .i64 y.Machine,.int .i64 y.Day,.int .i64 y.Confidence,.int .i64 y.Kind,.string y.Subject,.int .i64 y.Use.Alg,.int .i64 y.Use.Bits,.int .i64 y.Number,.string y.Text])).run Tryz.prog w=.ok (decide (x=y)) w:=by
 have u3:=Tryz.underlying3
 have a3:=Tryz.isAgg3
 have z3:=Tryz.sizeOf3
 have u9:=Tryz.underlying9
 have a9:=Tryz.isAgg9
 have z9:=Tryz.sizeOf9
 have u24:=Tryz.underlying24
 have a24:=Tryz.isAgg24
 have S8:=Tryz.sizeOf24
 have f24:=aE0
 have h24:=aHa
 rw [show (10000:Nat)=9999 + 1 from rfl,run_equalIn_agg w 9999 26 _ _ aM8 aLx]
 simp only [Program.fieldsOf,Tryz.underlying26]
 go_simp
 rcases x with ⟨x0,x1,x2,x3,x4,x5,x6,⟨x7,x8⟩,x9,x10⟩
 rcases y with ⟨y0,y1,y2,y3,y4,y5,y6,⟨y7,y8⟩,y9,y10⟩
 simp only [aP]
 by_cases q0:¬ x0=y0
 ·simp [q0]
 rw [aF5] at q0
 subst q0
 by_cases q1:¬ x1=y1
 ·simp [q1]
 rw [aF5] at q1
 subst q1
 by_cases q2:¬ x2=y2
 ·simp [q2]
 rw [aF5] at q2
 subst q2
 by_cases q3:¬ x3=y3
 ·simp [q3]
 rw [aF5] at q3
 subst q3
 by_cases q4:¬ x4=y4
 ·simp [q4]
 rw [aF5] at q4
 subst q4
 by_cases q5:¬ x5=y5
 ·simp [q5]
 rw [aF5] at q5
 subst q5
 by_cases q6:¬ x6=y6
 ·simp [q6]
 rw [aF5] at q6
 subst q6
 by_cases q7:¬ x7=y7
 ·simp [q7]
 rw [aF5] at q7
 subst q7
 by_cases q8:¬ x8=y8
 ·simp [q8]
 rw [aF5] at q8
 subst q8
 by_cases q9:¬ x9=y9
 ·simp [q9]
 rw [aF5] at q9
 subst q9
 by_cases q10:¬ x10=y10
 ·simp [q10]
 rw [aF5] at q10
 subst q10
 simp
theorem nP (x y:Aa) {X Y:Operand} {tk:Nat} {yt ty:TypeId} {b1 b2:Option LB}:F1 Tryz.prog tk (.binOp .eql 26 X Y yt) ty [(.agg [.val (.int .i64 x.Source),.val (.string x.Host),.val (.int .i64 x.Machine),.val (.int .i64 x.Day),.val (.int .i64 x.Confidence),.val (.int .i64 x.Kind),.val (.string x.Subject),.val (.int .i64 x.Use.Alg),.val (.int .i64 x.Use.Bits),.val (.int .i64 x.Number),.val (.string x.Text)],b1),(.agg [.val (.int .i64 y.Source),.val (.string y.Host),.val (.int .i64 y.Machine),.val (.int .i64 y.Day),.val (.int .i64 y.Confidence),.val (.int .i64 y.Kind),.val (.string y.Subject),.val (.int .i64 y.Use.Alg),.val (.int .i64 y.Use.Bits),.val (.int .i64 y.Number),.val (.string y.Text)],b2)] [] (v0 (.val (.bool (decide (x=y))))):=
 .binOpA rfl rfl (fun _ _=>rfl) (fun w=>by
  rw [Sem.run_bind,run_eqGuard_agg w _ 26 X Y _ _ aIa]
  simp only [Result.andThen_ok,run_eql_struct]
  exact congrArg (fun r=>Result.andThen r _) (aJq x y w))
theorem aW (x y:Aa) {X Y:Operand} {tk:Nat} {yt ty:TypeId} {b1 b2:Option LB}:F1 Tryz.prog tk (.binOp .neq 26 X Y yt) ty [(.agg [.val (.int .i64 x.Source),.val (.string x.Host),.val (.int .i64 x.Machine),.val (.int .i64 x.Day),.val (.int .i64 x.Confidence),.val (.int .i64 x.Kind),.val (.string x.Subject),.val (.int .i64 x.Use.Alg),.val (.int .i64 x.Use.Bits),.val (.int .i64 x.Number),.val (.string x.Text)],b1),(.agg [.val (.int .i64 y.Source),.val (.string y.Host),.val (.int .i64 y.Machine),.val (.int .i64 y.Day),.val (.int .i64 y.Confidence),.val (.int .i64 y.Kind),.val (.string y.Subject),.val (.int .i64 y.Use.Alg),.val (.int .i64 y.Use.Bits),.val (.int .i64 y.Number),.val (.string y.Text)],b2)] [] (v0 (.val (.bool (!decide (x=y))))):=
 .binOpA rfl rfl (fun _ _=>rfl) (fun w=>by
  rw [Sem.run_bind,run_eqGuard_agg w _ 26 X Y _ _ aIa]
  simp only [Result.andThen_ok,run_neq_struct]
  exact congrArg (fun r=>Result.andThen r _) (aJq x y w))
theorem aKk:Tryz.prog.underlying 87=some (.struct (Tryz.prog.fieldsOf 87)):=by kernel_rfl
theorem aL2:Tryz.prog.stoodInHeld 87=false:=by kernel_rfl
theorem aMf (x y:Dp) (w:World):(Op.equalIn 10000 87 (.agg #[.string x.host,.int .i64 x.day,.int .i64 x.kind,.int .i64 x.use.Alg,.int .i64 x.use.Bits,.int .i64 x.number,.string x.text]) (.agg #[.string y.host,.int .i64 y.day,.int .i64 y.kind,.int .i64 y.use.Alg,.int .i64 y.use.Bits,.int .i64 y.number,.string y.text])).run Tryz.prog w=.ok (decide (x=y)) w:=by
 have u3:=Tryz.underlying3
 have a3:=Tryz.isAgg3
 have z3:=Tryz.sizeOf3
 have u9:=Tryz.underlying9
 have a9:=Tryz.isAgg9
 have z9:=Tryz.sizeOf9
 have u24:=Tryz.underlying24
 have a24:=Tryz.isAgg24
 have S8:=Tryz.sizeOf24
 have f24:=aE0
 have h24:=aHa
 rw [show (10000:Nat)=9999 + 1 from rfl,run_equalIn_agg w 9999 87 _ _ aKk aL2]
 simp only [Program.fieldsOf,Tryz.underlying87]
 go_simp
 rcases x with ⟨x0,x1,x2,⟨x3,x4⟩,x5,x6⟩
 rcases y with ⟨y0,y1,y2,⟨y3,y4⟩,y5,y6⟩
 simp only [aP]
 by_cases q0:¬ x0=y0
 ·simp [q0]
 rw [aF5] at q0
 subst q0
 by_cases q1:¬ x1=y1
 ·simp [q1]
 rw [aF5] at q1
 subst q1
 by_cases q2:¬ x2=y2
 ·simp [q2]
 rw [aF5] at q2
 subst q2
 by_cases q3:¬ x3=y3
 ·simp [q3]
 rw [aF5] at q3
 subst q3
 by_cases q4:¬ x4=y4
 ·simp [q4]
 rw [aF5] at q4
 subst q4
 by_cases q5:¬ x5=y5
 ·simp [q5]
 rw [aF5] at q5
 subst q5
 by_cases q6:¬ x6=y6
 ·simp [q6]
 rw [aF5] at q6
 subst q6
 simp
theorem uQ:Tryz.prog.underlying 85=some (.map 87 4):=by kernel_rfl
abbrev Vy (x:Dp):Value:=.agg #[.string x.host,.int .i64 x.day,.int .i64 x.kind,.int .i64 x.use.Alg,.int .i64 x.use.Bits,.int .i64 x.number,.string x.text]
theorem zv4 (w:World):(zeroValue 4).run Tryz.prog w=.ok (.bool false) w:=aH2 (by kernel_rfl) w
theorem xF:jQ Tryz.prog 87 Vy:=aLt (by kernel_rfl) (fun x=>⟨_,rfl⟩) (fun e x w=>vT aKk (by
 simp only [Program.fieldsOf,Tryz.underlying87]
 intro f hf
 simp at hf
 rcases hf with rfl | rfl | rfl | rfl | rfl | rfl
 ·exact .inl ⟨by kernel_rfl,_,rfl⟩
 ·exact .inl ⟨by kernel_rfl,_,rfl⟩
 ·exact .inl ⟨by kernel_rfl,_,rfl⟩
 ·exact .inr ⟨_,2,Tryz.underlying24,by kernel_rfl,by kernel_rfl,by intro g G; simp at G; rcases G with rfl | rfl <;> exact⟨by kernel_rfl,_,rfl⟩⟩
 ·exact .inl ⟨by kernel_rfl,_,rfl⟩
 ·exact .inl ⟨by kernel_rfl,_,rfl⟩)) (fun x y w=>aMf x y w) (fun x=>by simp [Instr.sameBits,aIc])
instance:Lz Tryz.prog 101 0 0 3:=⟨aAj⟩
instance:Lz Tryz.prog 101 1 1 3:=⟨aA1⟩
instance:Lz Tryz.prog 103 0 0 3:=⟨aBl⟩
instance:Lz Tryz.prog 103 1 1 9:=⟨aBi⟩
instance:Lz Tryz.prog 103 10 12 62:=⟨uF⟩
instance:Lz Tryz.prog 103 11 13 101:=⟨yC⟩
instance:Lz Tryz.prog 103 2 2 9:=⟨aBd⟩
instance:Lz Tryz.prog 103 3 3 24:=⟨aAg⟩
instance:Lz Tryz.prog 103 4 5 3:=⟨aAv⟩
instance:Lz Tryz.prog 103 5 6 24:=⟨aBf⟩
instance:Lz Tryz.prog 103 6 8 3:=⟨aCa⟩
instance:Lz Tryz.prog 103 7 9 3:=⟨aAe⟩
instance:Lz Tryz.prog 103 8 10 4:=⟨aB3⟩
instance:Lz Tryz.prog 103 9 11 3:=⟨aB1⟩
instance:Lz Tryz.prog 108 0 0 24:=⟨zH⟩
instance:Lz Tryz.prog 108 1 2 3:=⟨aCd⟩
instance:Lz Tryz.prog 126 0 0 26:=⟨aBo⟩
instance:Lz Tryz.prog 126 1 11 27:=⟨zW⟩
instance:Lz Tryz.prog 145 0 0 3:=⟨aAy⟩
instance:Lz Tryz.prog 145 4 6 24:=⟨aBm⟩
instance:Lz Tryz.prog 159 0 0 3:=⟨aA7⟩
instance:Lz Tryz.prog 159 1 1 137:=⟨aA6⟩
instance:Lz Tryz.prog 159 2 2 4:=⟨aCj⟩
instance:Lz Tryz.prog 159 3 3 157:=⟨zR⟩
instance:Lz Tryz.prog 165 1 1 3:=⟨aA5⟩
instance:Lz Tryz.prog 194 1 1 3:=⟨zX⟩
instance:Lz Tryz.prog 194 2 2 3:=⟨aBb⟩
instance:Lz Tryz.prog 194 3 3 22:=⟨aCk⟩
instance:Lz Tryz.prog 194 4 4 22:=⟨aAl⟩
instance:Lz Tryz.prog 24 0 0 3:=⟨aDu⟩
instance:Lz Tryz.prog 24 1 1 3:=⟨aF9⟩
instance:Lz Tryz.prog 26 0 0 3:=⟨aEw⟩
instance:Lz Tryz.prog 26 1 1 9:=⟨aF3⟩
instance:Lz Tryz.prog 26 2 2 3:=⟨aGi⟩
instance:Lz Tryz.prog 26 3 3 3:=⟨nG⟩
instance:Lz Tryz.prog 26 4 4 3:=⟨aEi⟩
instance:Lz Tryz.prog 26 5 5 3:=⟨aGq⟩
instance:Lz Tryz.prog 26 6 6 9:=⟨aHi⟩
instance:Lz Tryz.prog 26 7 7 24:=⟨xE⟩
instance:Lz Tryz.prog 26 8 9 3:=⟨yJ⟩
instance:Lz Tryz.prog 26 9 10 9:=⟨aEf⟩
instance:Lz Tryz.prog 36 0 0 32:=⟨aD9⟩
instance:Lz Tryz.prog 36 1 1 33:=⟨aEj⟩
instance:Lz Tryz.prog 36 2 2 34:=⟨aD3⟩
instance:Lz Tryz.prog 43 0 0 9:=⟨aFb⟩
instance:Lz Tryz.prog 43 1 1 3:=⟨aDv⟩
instance:Lz Tryz.prog 43 2 2 3:=⟨aE3⟩
instance:Lz Tryz.prog 43 3 3 22:=⟨aGc⟩
instance:Lz Tryz.prog 43 5 5 41:=⟨aEu⟩
instance:Lz Tryz.prog 43 6 6 22:=⟨aHd⟩
instance:Lz Tryz.prog 43 7 7 22:=⟨aFq⟩
instance:Lz Tryz.prog 61 0 0 22:=⟨aEq⟩
instance:Lz Tryz.prog 61 1 1 3:=⟨aE1⟩
instance:Lz Tryz.prog 67 0 0 24:=⟨aHk⟩
instance:Lz Tryz.prog 67 1 2 3:=⟨aEm⟩
instance:Lz Tryz.prog 67 2 3 65:=⟨aF2⟩
instance:Lz Tryz.prog 71 0 0 3:=⟨aHu⟩
instance:Lz Tryz.prog 71 1 1 3:=⟨aEg⟩
instance:Lz Tryz.prog 74 0 0 9:=⟨aFf⟩
instance:Lz Tryz.prog 74 1 1 3:=⟨aGr⟩
instance:Lz Tryz.prog 74 2 2 3:=⟨aF7⟩
instance:Lz Tryz.prog 74 3 3 72:=⟨aHt⟩
instance:Lz Tryz.prog 74 4 4 3:=⟨aG3⟩
instance:Ww Tryz.prog 106 24 2 16:=⟨wN⟩
instance:Ww Tryz.prog 137 5 1 1:=⟨T2⟩
instance:Ww Tryz.prog 157 159 4 64:=⟨mI⟩
instance:Ww Tryz.prog 162 145 12 104:=⟨wS⟩
instance:Ww Tryz.prog 166 165 2 24:=⟨aC3⟩
instance:Ww Tryz.prog 179 174 1 8:=⟨Q8⟩
instance:Ww Tryz.prog 22 3 1 8:=⟨Eb⟩
instance:Ww Tryz.prog 27 26 11 112:=⟨Pz⟩
instance:Ww Tryz.prog 32 43 9 144:=⟨uS⟩
instance:Ww Tryz.prog 33 71 2 16:=⟨xX⟩
instance:Ww Tryz.prog 34 74 5 64:=⟨uZ⟩
instance:Ww Tryz.prog 41 67 4 48:=⟨kR⟩
instance:Ww Tryz.prog 55 36 3 72:=⟨aJy⟩
instance:Ww Tryz.prog 62 9 1 16:=⟨Px⟩
instance:Ww Tryz.prog 64 22 1 24:=⟨zU⟩
instance:Ww Tryz.prog 65 103 15 152:=⟨yK⟩
instance:Ww Tryz.prog 72 108 3 24:=⟨aJp⟩
instance:Nh Tryz.prog 101 true 2:=⟨aJ7⟩
instance:Nh Tryz.prog 103 true 15:=⟨aJo⟩
instance:Nh Tryz.prog 108 true 3:=⟨aJu⟩
instance:Nh Tryz.prog 137 false 1:=⟨aIi⟩
instance:Nh Tryz.prog 145 true 12:=⟨aKa⟩
instance:Nh Tryz.prog 157 false 1:=⟨aI2⟩
instance:Nh Tryz.prog 159 true 4:=⟨kW⟩
instance:Nh Tryz.prog 173 false 1:=⟨Od⟩
instance:Nh Tryz.prog 174 false 1:=⟨S9⟩
instance:Nh Tryz.prog 176 false 1:=⟨cG⟩
instance:Nh Tryz.prog 194 true 5:=⟨aCz⟩
instance:Nh Tryz.prog 211 true 115:=⟨aIq⟩
instance:Nh Tryz.prog 215 false 1:=⟨aH5⟩
instance:Nh Tryz.prog 22 false 1:=⟨aCc⟩
instance:Nh Tryz.prog 221 true 2:=⟨aDe⟩
instance:Nh Tryz.prog 24 true 2:=⟨aE5⟩
instance:Nh Tryz.prog 26 true 11:=⟨Nz⟩
instance:Nh Tryz.prog 27 false 1:=⟨aLo⟩
instance:Nh Tryz.prog 3 false 1:=⟨yW⟩
instance:Nh Tryz.prog 32 false 1:=⟨aLe⟩
instance:Nh Tryz.prog 33 false 1:=⟨aL8⟩
instance:Nh Tryz.prog 34 false 1:=⟨aL9⟩
instance:Nh Tryz.prog 36 true 3:=⟨aMr⟩
instance:Nh Tryz.prog 38 false 1:=⟨aEd⟩
instance:Nh Tryz.prog 4 false 1:=⟨ty4⟩
instance:Nh Tryz.prog 41 false 1:=⟨aMl⟩
instance:Nh Tryz.prog 43 true 9:=⟨aKs⟩
instance:Nh Tryz.prog 5 false 1:=⟨ty5⟩
instance:Nh Tryz.prog 62 false 1:=⟨aLn⟩
instance:Nh Tryz.prog 65 false 1:=⟨aM7⟩
instance:Nh Tryz.prog 67 true 4:=⟨aMe⟩
instance:Nh Tryz.prog 71 true 2:=⟨aM3⟩
instance:Nh Tryz.prog 72 false 1:=⟨aMm⟩
instance:Nh Tryz.prog 74 true 5:=⟨aMn⟩
instance:Nh Tryz.prog 85 false 1:=⟨aJ1⟩
instance:Nh Tryz.prog 87 true 7:=⟨aLv⟩
instance:Nh Tryz.prog 9 false 1:=⟨ty9⟩
instance:Xs Tryz.prog 101 [.int .i64 0,.int .i64 0]:=⟨aG7⟩
instance:Xs Tryz.prog 103 [.int .i64 0,.string ⟨#[]⟩,.string ⟨#[]⟩,.int .i64 0,.int .i64 0,.int .i64 0,.int .i64 0,.int .i64 0,.int .i64 0,.int .i64 0,.bool false,.int .i64 0,.slice none 0 0,.int .i64 0,.int .i64 0]:=⟨lC⟩
instance:Xs Tryz.prog 108 [.int .i64 0,.int .i64 0,.int .i64 0]:=⟨aG0⟩
instance:Xs Tryz.prog 126 [.int .i64 0,.string ⟨#[]⟩,.int .i64 0,.int .i64 0,.int .i64 0,.int .i64 0,.string ⟨#[]⟩,.int .i64 0,.int .i64 0,.int .i64 0,.string ⟨#[]⟩,.slice none 0 0]:=⟨aKq⟩
instance:Xs Tryz.prog 145 [.int .i64 0,.string ⟨#[]⟩,.int .i64 0,.int .i64 0,.int .i64 0,.int .i64 0,.int .i64 0,.int .i64 0,.int .i64 0,.int .i64 0,.int .i64 0,.int .i64 0]:=⟨Qp⟩
instance:Xs Tryz.prog 159 [.int .i64 0,.slice none 0 0,.bool false,.slice none 0 0]:=⟨dO⟩
instance:Xs Tryz.prog 165 [.string ⟨#[]⟩,.int .i64 0]:=⟨Oq⟩
instance:Xs Tryz.prog 174 [.nilFunc]:=⟨aK0⟩
instance:Xs Tryz.prog 194 [.string ⟨#[]⟩,.int .i64 0,.int .i64 0,.slice none 0 0,.slice none 0 0]:=⟨O4⟩
instance:Xs Tryz.prog 211 [.string ⟨#[]⟩,.int .i64 0,.int .i64 0,.slice none 0 0,.slice none 0 0,.string ⟨#[]⟩,.int .i64 0,.int .i64 0,.slice none 0 0,.slice none 0 0,.string ⟨#[]⟩,.int .i64 0,.int .i64 0,.slice none 0 0,.slice none 0 0,.string ⟨#[]⟩,.int .i64 0,.int .i64 0,.slice none 0 0,.slice none 0 0,.string ⟨#[]⟩,.int .i64 0,.int .i64 0,.slice none 0 0,.slice none 0 0,.string ⟨#[]⟩,.int .i64 0,.int .i64 0,.slice none 0 0,.slice none 0 0,.string ⟨#[]⟩,.int .i64 0,.int .i64 0,.slice none 0 0,.slice none 0 0,.string ⟨#[]⟩,.int .i64 0,.int .i64 0,.slice none 0 0,.slice none 0 0,.string ⟨#[]⟩,.int .i64 0,.int .i64 0,.slice none 0 0,.slice none 0 0,.string ⟨#[]⟩,.int .i64 0,.int .i64 0,.slice none 0 0,.slice none 0 0,.string ⟨#[]⟩,.int .i64 0,.int .i64 0,.slice none 0 0,.slice none 0 0,.string ⟨#[]⟩,.int .i64 0,.int .i64 0,.slice none 0 0,.slice none 0 0,.string ⟨#[]⟩,.int .i64 0,.int .i64 0,.slice none 0 0,.slice none 0 0,.string ⟨#[]⟩,.int .i64 0,.int .i64 0,.slice none 0 0,.slice none 0 0,.string ⟨#[]⟩,.int .i64 0,.int .i64 0,.slice none 0 0,.slice none 0 0,.string ⟨#[]⟩,.int .i64 0,.int .i64 0,.slice none 0 0,.slice none 0 0,.string ⟨#[]⟩,.int .i64 0,.int .i64 0,.slice none 0 0,.slice none 0 0,.string ⟨#[]⟩,.int .i64 0,.int .i64 0,.slice none 0 0,.slice none 0 0,.string ⟨#[]⟩,.int .i64 0,.int .i64 0,.slice none 0 0,.slice none 0 0,.string ⟨#[]⟩,.int .i64 0,.int .i64 0,.slice none 0 0,.slice none 0 0,.string ⟨#[]⟩,.int .i64 0,.int .i64 0,.slice none 0 0,.slice none 0 0,.string ⟨#[]⟩,.int .i64 0,.int .i64 0,.slice none 0 0,.slice none 0 0,.string ⟨#[]⟩,.int .i64 0,.int .i64 0,.slice none 0 0,.slice none 0 0]:=⟨aJm⟩
instance:Xs Tryz.prog 215 [.int .u64 0]:=⟨aMy⟩
instance:Xs Tryz.prog 22 [.slice none 0 0]:=⟨z22⟩
instance:Xs Tryz.prog 221 [.int .i64 0,.int .i64 0]:=⟨rU⟩
instance:Xs Tryz.prog 222 [.int .i64 0,.int .i64 0,.int .i64 0,.int .i64 0,.int .i64 0,.int .i64 0,.int .i64 0,.int .i64 0,.int .i64 0,.int .i64 0]:=⟨aJf⟩
instance:Xs Tryz.prog 24 [.int .i64 0,.int .i64 0]:=⟨S8⟩
instance:Xs Tryz.prog 26 [.int .i64 0,.string ⟨#[]⟩,.int .i64 0,.int .i64 0,.int .i64 0,.int .i64 0,.string ⟨#[]⟩,.int .i64 0,.int .i64 0,.int .i64 0,.string ⟨#[]⟩]:=⟨eH⟩
instance:Xs Tryz.prog 3 [.int .i64 0]:=⟨z3⟩
instance:Xs Tryz.prog 36 [.slice none 0 0,.slice none 0 0,.slice none 0 0]:=⟨z36⟩
instance:Xs Tryz.prog 43 [.string ⟨#[]⟩,.int .i64 0,.int .i64 0,.slice none 0 0,.bool false,.slice none 0 0,.slice none 0 0,.slice none 0 0,.bool false]:=⟨z43⟩
instance:Xs Tryz.prog 5 [.int .u8 0]:=⟨z5⟩
instance:Xs Tryz.prog 61 [.slice none 0 0,.int .i64 0]:=⟨z61⟩
instance:Xs Tryz.prog 67 [.int .i64 0,.int .i64 0,.int .i64 0,.slice none 0 0]:=⟨sV⟩
instance:Xs Tryz.prog 71 [.int .i64 0,.int .i64 0]:=⟨z71⟩
instance:Xs Tryz.prog 74 [.string ⟨#[]⟩,.int .i64 0,.int .i64 0,.slice none 0 0,.int .i64 0]:=⟨z74⟩
instance:Xs Tryz.prog 85 [.map none]:=⟨z85⟩
instance:Xs Tryz.prog 87 [.string ⟨#[]⟩,.int .i64 0,.int .i64 0,.int .i64 0,.int .i64 0,.int .i64 0,.string ⟨#[]⟩]:=⟨z87⟩
instance:Xs Tryz.prog 9 [.string ⟨#[]⟩]:=⟨z9⟩
instance:Pd Aq.enc 2:=⟨Aq.enc_len⟩
instance:Pd Aa.enc 11:=⟨Aa.enc_len⟩
instance:Pd Ab.enc 2:=⟨Ab.enc_len⟩
instance:Pd Dy.enc 2:=⟨Dy.enc_len⟩
instance:Pd Ah.enc 15:=⟨Ah.enc_len⟩
instance:Pd Am.enc 4:=⟨Am.enc_len⟩
instance:Pd Ad.enc 9:=⟨Ad.enc_len⟩
instance:Pd A3.enc 2:=⟨A3.enc_len⟩
instance:Pd Dh.enc 3:=⟨Dh.enc_len⟩
instance:Pd Bf.enc 5:=⟨Bf.enc_len⟩
instance:Pd Ap.enc 3:=⟨Ap.enc_len⟩
instance:Pd As.enc 2:=⟨As.enc_len⟩
instance:Pd Ae.enc 4:=⟨Ae.enc_len⟩
instance:Pd A1.enc 12:=⟨A1.enc_len⟩
instance:Pd Ey.enc 12:=⟨Ey.enc_len⟩
instance:Pd Cd.enc 5:=⟨Cd.enc_len⟩
instance:Pd Dp.enc 7:=⟨Dp.enc_len⟩
instance:yQ Aq.enc:=⟨fun x c hc=>by simp only [Aq.enc,aC6,aD5,aLd] at hc; rcases hc with rfl | rfl <;> rfl⟩
instance:yQ Aa.enc:=⟨fun x c hc=>by simp only [Aa.enc,aC6,aD5,aLd] at hc; rcases hc with rfl | rfl | rfl | rfl | rfl | rfl | rfl | rfl | rfl | rfl | rfl <;> rfl⟩
instance:yQ Dy.enc:=⟨fun x c hc=>by simp only [Dy.enc,aC6,aD5,aLd] at hc; rcases hc with rfl | rfl <;> rfl⟩
instance:yQ A3.enc:=⟨fun x c hc=>by simp only [A3.enc,aC6,aD5,aLd] at hc; rcases hc with rfl | rfl <;> rfl⟩
instance:yQ Dh.enc:=⟨fun x c hc=>by simp only [Dh.enc,aC6,aD5,aLd] at hc; rcases hc with rfl | rfl | rfl <;> rfl⟩
instance:yQ As.enc:=⟨fun x c hc=>by simp only [As.enc,aC6,aD5,aLd] at hc; rcases hc with rfl | rfl <;> rfl⟩
instance:yQ A1.enc:=⟨fun x c hc=>by simp only [A1.enc,aC6,aD5,aLd] at hc; rcases hc with rfl | rfl | rfl | rfl | rfl | rfl | rfl | rfl | rfl | rfl | rfl | rfl <;> rfl⟩
instance:yQ Dp.enc:=⟨fun x c hc=>by simp only [Dp.enc,aC6,aD5,aLd] at hc; rcases hc with rfl | rfl | rfl | rfl | rfl | rfl | rfl <;> rfl⟩
instance:Ys Tryz.prog 3 (.int .i64):=⟨aKr⟩
instance:Ys Tryz.prog 4 (.bool):=⟨aLs⟩
instance:Ys Tryz.prog 5 (.int .u8):=⟨aFc⟩
instance:Ys Tryz.prog 9 (.string):=⟨aJw⟩
instance:Ys Tryz.prog 27 (.slice 26):=⟨aDm⟩
instance:Ys Tryz.prog 137 (.slice 5):=⟨aGb⟩
instance:Ys Tryz.prog 161 (.int .u32):=⟨aFj⟩
instance:Ys Tryz.prog 172 (.int .u64):=⟨aFs⟩
instance:Ys Tryz.prog 207 (.int .u64):=⟨vJ⟩
instance:Ys Tryz.prog 211 (.array 23 194):=⟨oO⟩
instance:Ys Tryz.prog 215 (.int .u64):=⟨aD1⟩
instance:Ys Tryz.prog 221 (.array 2 3):=⟨T7⟩
instance:Ys Tryz.prog 222 (.array 5 221):=⟨nZ⟩
end Go.Proofs.YtbpchmikjiinpaaGreat
