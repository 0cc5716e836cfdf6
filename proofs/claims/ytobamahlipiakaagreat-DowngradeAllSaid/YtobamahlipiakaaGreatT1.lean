import Derived.Test.YtobamahlipiakaaGreatEH
import Derived.Test.YtobamahlipiakaaGreatP1
import Derived.Test.YtobamahlipiakaaGreatProg
set_option linter.unusedVariables false
set_option linter.unusedSimpArgs false
set_option maxRecDepth 100000
set_option maxHeartbeats 1600000
namespace Go.Proofs.YtobamahlipiakaaGreat
open Go.RowKit
abbrev Ad.dv (x:Ad):List DV:=[.sl 1 (Ai eI x.L),.val (.int .i64 x.At)]
def Ad.enc (x:Ad):List C:=[.sl 1 (Ai eI x.L),.int .i64 x.At]
theorem Ad.enc_len (x:Ad):(Ad.enc x).length=2:=rfl
abbrev Ao.dv (x:Ao):List DV:=[.val (.int .i64 x.Alg),.val (.int .i64 x.Bits)]
def Ao.enc (x:Ao):List C:=[.int .i64 x.Alg,.int .i64 x.Bits]
theorem Ao.enc_len (x:Ao):(Ao.enc x).length=2:=rfl
abbrev Be.dv (x:Be):List DV:=[.val (.int .i64 x.Key),.val (.int .i64 x.Sum)]
def Be.enc (x:Be):List C:=[.int .i64 x.Key,.int .i64 x.Sum]
theorem Be.enc_len (x:Be):(Be.enc x).length=2:=rfl
abbrev Ae.dv (x:Ae):List DV:=[.val (.int .i64 x.Serial),.val (.string x.Issuer),.val (.string x.Subject),.val (.int .i64 x.Key.Alg),.val (.int .i64 x.Key.Bits),.val (.int .i64 x.KeyId),.val (.int .i64 x.Hash.Alg),.val (.int .i64 x.Hash.Bits),.val (.int .i64 x.From),.val (.int .i64 x.To),.val (.bool x.Authority),.val (.int .i64 x.Path),.sl 1 (Ai eS x.Names),.val (.int .i64 x.Seal.Key),.val (.int .i64 x.Seal.Sum)]
def Ae.enc (x:Ae):List C:=[.int .i64 x.Serial,.str x.Issuer,.str x.Subject,.int .i64 x.Key.Alg,.int .i64 x.Key.Bits,.int .i64 x.KeyId,.int .i64 x.Hash.Alg,.int .i64 x.Hash.Bits,.int .i64 x.From,.int .i64 x.To,.bool x.Authority,.int .i64 x.Path,.sl 1 (Ai eS x.Names),.int .i64 x.Seal.Key,.int .i64 x.Seal.Sum]
theorem Ae.enc_len (x:Ae):(Ae.enc x).length=15:=rfl
abbrev Al.dv (x:Al):List DV:=[.val (.int .i64 x.Key.Alg),.val (.int .i64 x.Key.Bits),.val (.int .i64 x.KeyId),.sl 15 (Ai Ae.enc x.Chain)]
def Al.enc (x:Al):List C:=[.int .i64 x.Key.Alg,.int .i64 x.Key.Bits,.int .i64 x.KeyId,.sl 15 (Ai Ae.enc x.Chain)]
theorem Al.enc_len (x:Al):(Al.enc x).length=4:=rfl
abbrev Ac.dv (x:Ac):List DV:=[.val (.string x.Name),.val (.int .i64 x.Least),.val (.int .i64 x.Most),.sl 1 (Ai eI x.Suites),.val (.bool x.OwnOrder),.sl 4 (Ai Al.enc x.Identities),.sl 1 (Ai eI x.Anchors),.sl 1 (Ai eI x.Hashes),.val (.bool x.Fallback)]
def Ac.enc (x:Ac):List C:=[.str x.Name,.int .i64 x.Least,.int .i64 x.Most,.sl 1 (Ai eI x.Suites),.bool x.OwnOrder,.sl 4 (Ai Al.enc x.Identities),.sl 1 (Ai eI x.Anchors),.sl 1 (Ai eI x.Hashes),.bool x.Fallback]
abbrev Ac.ec (x:Ac):List C:=[.str x.Name,.int .i64 x.Least,.int .i64 x.Most,.sl 1 (Ai eI x.Suites),.bool x.OwnOrder,.sl 4 (Ai Al.enc x.Identities),.sl 1 (Ai eI x.Anchors),.sl 1 (Ai eI x.Hashes),.bool x.Fallback]
theorem Ac.enc_len (x:Ac):(Ac.enc x).length=9:=rfl
abbrev Ap.dv (x:Ap):List DV:=[.val (.int .i64 x.Version),.val (.int .i64 x.Suite)]
def Ap.enc (x:Ap):List C:=[.int .i64 x.Version,.int .i64 x.Suite]
theorem Ap.enc_len (x:Ap):(Ap.enc x).length=2:=rfl
abbrev Aa.dv (x:Aa):List DV:=[.val (.int .i64 x.Outcome.Version),.val (.int .i64 x.Outcome.Suite),.val (.int .i64 x.Most),.sl 1 (Ai eI x.Suites)]
def Aa.enc (x:Aa):List C:=[.int .i64 x.Outcome.Version,.int .i64 x.Outcome.Suite,.int .i64 x.Most,.sl 1 (Ai eI x.Suites)]
theorem Aa.enc_len (x:Aa):(Aa.enc x).length=4:=rfl
abbrev Az.dv (x:Az):List DV:=[.val (.int .i64 x.Code),.val (.string x.Name),.val (.int .i64 x.Exchange.Alg),.val (.int .i64 x.Exchange.Bits),.val (.int .i64 x.Sign.Alg),.val (.int .i64 x.Sign.Bits),.val (.int .i64 x.Cipher.Alg),.val (.int .i64 x.Cipher.Bits),.val (.int .i64 x.Mac.Alg),.val (.int .i64 x.Mac.Bits),.val (.int .i64 x.Least),.val (.int .i64 x.Most)]
def Az.enc (x:Az):List C:=[.int .i64 x.Code,.str x.Name,.int .i64 x.Exchange.Alg,.int .i64 x.Exchange.Bits,.int .i64 x.Sign.Alg,.int .i64 x.Sign.Bits,.int .i64 x.Cipher.Alg,.int .i64 x.Cipher.Bits,.int .i64 x.Mac.Alg,.int .i64 x.Mac.Bits,.int .i64 x.Least,.int .i64 x.Most]
abbrev Az.ec (x:Az):List C:=[.int .i64 x.Code,.str x.Name,.int .i64 x.Exchange.Alg,.int .i64 x.Exchange.Bits,.int .i64 x.Sign.Alg,.int .i64 x.Sign.Bits,.int .i64 x.Cipher.Alg,.int .i64 x.Cipher.Bits,.int .i64 x.Mac.Alg,.int .i64 x.Mac.Bits,.int .i64 x.Least,.int .i64 x.Most]
theorem Az.enc_len (x:Az):(Az.enc x).length=12:=rfl
abbrev Aw.dv (x:Aw):List DV:=[.val (.bool x.Allow),.val (.int .i64 x.Alg),.val (.int .i64 x.Below),.val (.int .i64 x.Purpose),.val (.int .i64 x.From),.val (.int .i64 x.To)]
def Aw.enc (x:Aw):List C:=[.bool x.Allow,.int .i64 x.Alg,.int .i64 x.Below,.int .i64 x.Purpose,.int .i64 x.From,.int .i64 x.To]
theorem Aw.enc_len (x:Aw):(Aw.enc x).length=6:=rfl
abbrev Bl.dv (x:Bl):List DV:=[.val (.int .i64 x.Purpose),.val (.int .i64 x.Days)]
def Bl.enc (x:Bl):List C:=[.int .i64 x.Purpose,.int .i64 x.Days]
theorem Bl.enc_len (x:Bl):(Bl.enc x).length=2:=rfl
abbrev Bk.dv (x:Bk):List DV:=[.sl 6 (Ai Aw.enc x.Rules),.sl 2 (Ai Bl.enc x.Keeps)]
def Bk.enc (x:Bk):List C:=[.sl 6 (Ai Aw.enc x.Rules),.sl 2 (Ai Bl.enc x.Keeps)]
theorem Bk.enc_len (x:Bk):(Bk.enc x).length=2:=rfl
abbrev H6.dv (x:H6):List DV:=[.val (.int .i64 x.From),.val (.int .i64 x.To)]
def H6.enc (x:H6):List C:=[.int .i64 x.From,.int .i64 x.To]
theorem H6.enc_len (x:H6):(H6.enc x).length=2:=rfl
abbrev Ah.dv (x:Ah):List DV:=[.val (.int .i64 x.Use.Alg),.val (.int .i64 x.Use.Bits),.val (.int .i64 x.Purpose),.val (.string x.Endpoint),.val (.int .i64 x.Days.From),.val (.int .i64 x.Days.To),.sl 2 (Ai Be.enc x.Seals)]
def Ah.enc (x:Ah):List C:=[.int .i64 x.Use.Alg,.int .i64 x.Use.Bits,.int .i64 x.Purpose,.str x.Endpoint,.int .i64 x.Days.From,.int .i64 x.Days.To,.sl 2 (Ai Be.enc x.Seals)]
theorem Ah.enc_len (x:Ah):(Ah.enc x).length=7:=rfl
abbrev Cc.dv (x:Cc):List DV:=[.sl 1 (Ai eI x.Keys),.val (.int .i64 x.Need)]
def Cc.enc (x:Cc):List C:=[.sl 1 (Ai eI x.Keys),.int .i64 x.Need]
theorem Cc.enc_len (x:Cc):(Cc.enc x).length=2:=rfl
abbrev Co.dv (x:Co):List DV:=[.val (.string x.name),.val (.int .i64 x.kind),.val (.int .i64 x.way),.sl 1 (Ai eI x.sizes),.sl 1 (Ai eI x.strengths)]
def Co.enc (x:Co):List C:=[.str x.name,.int .i64 x.kind,.int .i64 x.way,.sl 1 (Ai eI x.sizes),.sl 1 (Ai eI x.strengths)]
theorem Co.enc_len (x:Co):(Co.enc x).length=5:=rfl
abbrev Cl.dv (x:Cl):List DV:=[.val (.string x.server.Name),.val (.int .i64 x.server.Least),.val (.int .i64 x.server.Most),.sl 1 (Ai eI x.server.Suites),.val (.bool x.server.OwnOrder),.sl 4 (Ai Al.enc x.server.Identities),.sl 1 (Ai eI x.server.Anchors),.sl 1 (Ai eI x.server.Hashes),.val (.bool x.server.Fallback),.val (.int .i64 x.version),.sl 1 (Ai eI x.suites)]
def Cl.enc (x:Cl):List C:=[.str x.server.Name,.int .i64 x.server.Least,.int .i64 x.server.Most,.sl 1 (Ai eI x.server.Suites),.bool x.server.OwnOrder,.sl 4 (Ai Al.enc x.server.Identities),.sl 1 (Ai eI x.server.Anchors),.sl 1 (Ai eI x.server.Hashes),.bool x.server.Fallback,.int .i64 x.version,.sl 1 (Ai eI x.suites)]
theorem Cl.enc_len (x:Cl):(Cl.enc x).length=11:=rfl
mutual
def Ab.enc:Ab->List C
 | ⟨Tag,Bytes,Nested,Elements⟩=>[.int .i64 Tag,.sl 1 (Ai e8 Bytes),.bool Nested,.sl 4 (Ab.encs Elements)]
def Ab.encs:List Ab->List C
 | []=>[]
 | x :: l=>Ab.enc x ++ Ab.encs l
end
theorem Ab.encs_eq:∀ (l:List Ab),Ab.encs l=Ai Ab.enc l
 | []=>rfl
 | x :: l=>by
  show Ab.enc x ++ Ab.encs l=Ab.enc x ++ Ai Ab.enc l
  rw [Ab.encs_eq l]
theorem Ab.enc_eq (x:Ab):Ab.enc x=[.int .i64 x.Tag,.sl 1 (Ai e8 x.Bytes),.bool x.Nested,.sl 4 (Ai Ab.enc x.Elements)]:=by
 cases x
 simp only [Ab.enc,Ab.encs_eq]
theorem Ab.enc_len (x:Ab):(Ab.enc x).length=4:=by rw [Ab.enc_eq]; rfl
abbrev Ab.dv (x:Ab):List DV:=[.val (.int .i64 x.Tag),.sl 1 (Ai e8 x.Bytes),.val (.bool x.Nested),.sl 4 (Ai Ab.enc x.Elements)]
abbrev Au.dv (x:Au):List DV:=[.val (.string x.name),.val (.int .i64 x.kind)]
def Au.enc (x:Au):List C:=[.str x.name,.int .i64 x.kind]
theorem Au.enc_len (x:Au):(Au.enc x).length=2:=rfl
theorem aNo:Tryz.prog.underlying 3=some (.int .i64):=by kernel_rfl
theorem aSl:Tryz.prog.underlying 4=some (.bool):=by kernel_rfl
theorem aKz:Tryz.prog.underlying 5=some (.int .u8):=by kernel_rfl
theorem aRo:Tryz.prog.underlying 9=some (.string):=by kernel_rfl
theorem aJh:Tryz.prog.underlying 22=some (.slice 3):=by kernel_rfl
theorem Ug:Tryz.prog.underlying 29=some (.struct ((match Tryz.prog.underlying 29 with | some (.struct f)=>f | _=>#[]))):=by kernel_rfl
theorem M8:Tryz.prog.underlying 38=some (.struct ((match Tryz.prog.underlying 38 with | some (.struct f)=>f | _=>#[]))):=by kernel_rfl
theorem mS:Tryz.prog.underlying 40=some (.struct ((match Tryz.prog.underlying 40 with | some (.struct f)=>f | _=>#[]))):=by kernel_rfl
theorem P5:Tryz.prog.underlying 45=some (.struct ((match Tryz.prog.underlying 45 with | some (.struct f)=>f | _=>#[]))):=by kernel_rfl
theorem K6:Tryz.prog.underlying 47=some (.struct ((match Tryz.prog.underlying 47 with | some (.struct f)=>f | _=>#[]))):=by kernel_rfl
theorem aRg:Tryz.prog.underlying 59=some (.int .u16):=by kernel_rfl
theorem aQ5:Tryz.prog.underlying 60=some (.int .u64):=by kernel_rfl
theorem aBh:Tryz.prog.underlying 67=some (.struct ((match Tryz.prog.underlying 67 with | some (.struct f)=>f | _=>#[]))):=by kernel_rfl
theorem wL:Tryz.prog.underlying 70=some (.struct ((match Tryz.prog.underlying 70 with | some (.struct f)=>f | _=>#[]))):=by kernel_rfl
theorem aJt:Tryz.prog.underlying 75=some (.struct ((match Tryz.prog.underlying 75 with | some (.struct f)=>f | _=>#[]))):=by kernel_rfl
theorem Ya:Tryz.prog.underlying 78=some (.struct ((match Tryz.prog.underlying 78 with | some (.struct f)=>f | _=>#[]))):=by kernel_rfl
theorem Zx:Tryz.prog.underlying 83=some (.struct ((match Tryz.prog.underlying 83 with | some (.struct f)=>f | _=>#[]))):=by kernel_rfl
theorem gT:Tryz.prog.underlying 89=some (.struct ((match Tryz.prog.underlying 89 with | some (.struct f)=>f | _=>#[]))):=by kernel_rfl
theorem aDf:Tryz.prog.underlying 91=some (.struct ((match Tryz.prog.underlying 91 with | some (.struct f)=>f | _=>#[]))):=by kernel_rfl
theorem wD:Tryz.prog.underlying 111=some (.struct ((match Tryz.prog.underlying 111 with | some (.struct f)=>f | _=>#[]))):=by kernel_rfl
theorem aE:Tryz.prog.underlying 119=some (.struct ((match Tryz.prog.underlying 119 with | some (.struct f)=>f | _=>#[]))):=by kernel_rfl
theorem nJ:Tryz.prog.underlying 134=some (.struct ((match Tryz.prog.underlying 134 with | some (.struct f)=>f | _=>#[]))):=by kernel_rfl
theorem Of:Tryz.prog.underlying 146=some (.struct ((match Tryz.prog.underlying 146 with | some (.struct f)=>f | _=>#[]))):=by kernel_rfl
theorem aDe:Tryz.prog.underlying 154=some (.slice 5):=by kernel_rfl
theorem uW:Tryz.prog.underlying 169=some (.array 2 34):=by kernel_rfl
theorem vX:Tryz.prog.underlying 171=some (.array 3 34):=by kernel_rfl
theorem H0:Tryz.prog.underlying 174=some (.struct ((match Tryz.prog.underlying 174 with | some (.struct f)=>f | _=>#[]))):=by kernel_rfl
theorem aJ6:Tryz.prog.underlying 186=some (.int .u32):=by kernel_rfl
theorem aA8:Tryz.prog.underlying 188=some (.int .u64):=by kernel_rfl
theorem Iq:Tryz.prog.underlying 190=some (.struct ((match Tryz.prog.underlying 190 with | some (.struct f)=>f | _=>#[]))):=by kernel_rfl
theorem Ol:Tryz.prog.underlying 203=some (.struct ((match Tryz.prog.underlying 203 with | some (.struct f)=>f | _=>#[]))):=by kernel_rfl
theorem vY:Tryz.prog.underlying 215=some (.array 23 174):=by kernel_rfl
theorem Vb:Tryz.prog.underlying 217=some (.array 2 3):=by kernel_rfl
theorem uG:Tryz.prog.underlying 218=some (.array 5 217):=by kernel_rfl
theorem aNc:Tryz.prog.underlying 219=some (.int .u64):=by kernel_rfl
theorem aHa:Fd Tryz.prog 111 0 0 3:=⟨_,(match Tryz.prog.underlying 111 with | some (.struct f)=>f | _=>#[])[0]!,wD,by kernel_rfl,by kernel_rfl,by kernel_rfl⟩
theorem aIu:Fd Tryz.prog 111 1 1 3:=⟨_,(match Tryz.prog.underlying 111 with | some (.struct f)=>f | _=>#[])[1]!,wD,by kernel_rfl,by kernel_rfl,by kernel_rfl⟩
theorem aGw:Fd Tryz.prog 119 0 0 3:=⟨_,(match Tryz.prog.underlying 119 with | some (.struct f)=>f | _=>#[])[0]!,aE,by kernel_rfl,by kernel_rfl,by kernel_rfl⟩
theorem aG2:Fd Tryz.prog 119 1 1 3:=⟨_,(match Tryz.prog.underlying 119 with | some (.struct f)=>f | _=>#[])[1]!,aE,by kernel_rfl,by kernel_rfl,by kernel_rfl⟩
theorem aHd:Fd Tryz.prog 134 0 0 29:=⟨_,(match Tryz.prog.underlying 134 with | some (.struct f)=>f | _=>#[])[0]!,nJ,by kernel_rfl,by kernel_rfl,by kernel_rfl⟩
theorem aH2:Fd Tryz.prog 134 1 9 3:=⟨_,(match Tryz.prog.underlying 134 with | some (.struct f)=>f | _=>#[])[1]!,nJ,by kernel_rfl,by kernel_rfl,by kernel_rfl⟩
theorem aGm:Fd Tryz.prog 134 2 10 22:=⟨_,(match Tryz.prog.underlying 134 with | some (.struct f)=>f | _=>#[])[2]!,nJ,by kernel_rfl,by kernel_rfl,by kernel_rfl⟩
theorem aIy:Fd Tryz.prog 146 0 0 3:=⟨_,(match Tryz.prog.underlying 146 with | some (.struct f)=>f | _=>#[])[0]!,Of,by kernel_rfl,by kernel_rfl,by kernel_rfl⟩
theorem aHm:Fd Tryz.prog 146 1 1 9:=⟨_,(match Tryz.prog.underlying 146 with | some (.struct f)=>f | _=>#[])[1]!,Of,by kernel_rfl,by kernel_rfl,by kernel_rfl⟩
theorem aD0:Fd Tryz.prog 146 10 12 144:=⟨_,(match Tryz.prog.underlying 146 with | some (.struct f)=>f | _=>#[])[10]!,Of,by kernel_rfl,by kernel_rfl,by kernel_rfl⟩
theorem aDi:Fd Tryz.prog 146 11 13 119:=⟨_,(match Tryz.prog.underlying 146 with | some (.struct f)=>f | _=>#[])[11]!,Of,by kernel_rfl,by kernel_rfl,by kernel_rfl⟩
theorem aIg:Fd Tryz.prog 146 2 2 9:=⟨_,(match Tryz.prog.underlying 146 with | some (.struct f)=>f | _=>#[])[2]!,Of,by kernel_rfl,by kernel_rfl,by kernel_rfl⟩
theorem aH1:Fd Tryz.prog 146 3 3 45:=⟨_,(match Tryz.prog.underlying 146 with | some (.struct f)=>f | _=>#[])[3]!,Of,by kernel_rfl,by kernel_rfl,by kernel_rfl⟩
theorem aGn:Fd Tryz.prog 146 4 5 3:=⟨_,(match Tryz.prog.underlying 146 with | some (.struct f)=>f | _=>#[])[4]!,Of,by kernel_rfl,by kernel_rfl,by kernel_rfl⟩
theorem aHq:Fd Tryz.prog 146 5 6 45:=⟨_,(match Tryz.prog.underlying 146 with | some (.struct f)=>f | _=>#[])[5]!,Of,by kernel_rfl,by kernel_rfl,by kernel_rfl⟩
theorem aIq:Fd Tryz.prog 146 6 8 3:=⟨_,(match Tryz.prog.underlying 146 with | some (.struct f)=>f | _=>#[])[6]!,Of,by kernel_rfl,by kernel_rfl,by kernel_rfl⟩
theorem aGz:Fd Tryz.prog 146 7 9 3:=⟨_,(match Tryz.prog.underlying 146 with | some (.struct f)=>f | _=>#[])[7]!,Of,by kernel_rfl,by kernel_rfl,by kernel_rfl⟩
theorem aIn:Fd Tryz.prog 146 8 10 4:=⟨_,(match Tryz.prog.underlying 146 with | some (.struct f)=>f | _=>#[])[8]!,Of,by kernel_rfl,by kernel_rfl,by kernel_rfl⟩
theorem aHb:Fd Tryz.prog 146 9 11 3:=⟨_,(match Tryz.prog.underlying 146 with | some (.struct f)=>f | _=>#[])[9]!,Of,by kernel_rfl,by kernel_rfl,by kernel_rfl⟩
theorem aGc:Fd Tryz.prog 174 1 1 3:=⟨_,(match Tryz.prog.underlying 174 with | some (.struct f)=>f | _=>#[])[1]!,H0,by kernel_rfl,by kernel_rfl,by kernel_rfl⟩
theorem aGb:Fd Tryz.prog 174 2 2 3:=⟨_,(match Tryz.prog.underlying 174 with | some (.struct f)=>f | _=>#[])[2]!,H0,by kernel_rfl,by kernel_rfl,by kernel_rfl⟩
theorem aGd:Fd Tryz.prog 174 3 3 22:=⟨_,(match Tryz.prog.underlying 174 with | some (.struct f)=>f | _=>#[])[3]!,H0,by kernel_rfl,by kernel_rfl,by kernel_rfl⟩
theorem aIm:Fd Tryz.prog 174 4 4 22:=⟨_,(match Tryz.prog.underlying 174 with | some (.struct f)=>f | _=>#[])[4]!,H0,by kernel_rfl,by kernel_rfl,by kernel_rfl⟩
theorem aI6:Fd Tryz.prog 190 1 1 3:=⟨_,(match Tryz.prog.underlying 190 with | some (.struct f)=>f | _=>#[])[1]!,Iq,by kernel_rfl,by kernel_rfl,by kernel_rfl⟩
theorem aHn:Fd Tryz.prog 203 0 0 3:=⟨_,(match Tryz.prog.underlying 203 with | some (.struct f)=>f | _=>#[])[0]!,Ol,by kernel_rfl,by kernel_rfl,by kernel_rfl⟩
theorem aHv:Fd Tryz.prog 203 1 1 154:=⟨_,(match Tryz.prog.underlying 203 with | some (.struct f)=>f | _=>#[])[1]!,Ol,by kernel_rfl,by kernel_rfl,by kernel_rfl⟩
theorem aG4:Fd Tryz.prog 203 2 2 4:=⟨_,(match Tryz.prog.underlying 203 with | some (.struct f)=>f | _=>#[])[2]!,Ol,by kernel_rfl,by kernel_rfl,by kernel_rfl⟩
theorem aIr:Fd Tryz.prog 203 3 3 201:=⟨_,(match Tryz.prog.underlying 203 with | some (.struct f)=>f | _=>#[])[3]!,Ol,by kernel_rfl,by kernel_rfl,by kernel_rfl⟩
theorem aM7:Fd Tryz.prog 29 0 0 9:=⟨_,(match Tryz.prog.underlying 29 with | some (.struct f)=>f | _=>#[])[0]!,Ug,by kernel_rfl,by kernel_rfl,by kernel_rfl⟩
theorem uH:Fd Tryz.prog 29 1 1 3:=⟨_,(match Tryz.prog.underlying 29 with | some (.struct f)=>f | _=>#[])[1]!,Ug,by kernel_rfl,by kernel_rfl,by kernel_rfl⟩
theorem pZ:Fd Tryz.prog 29 2 2 3:=⟨_,(match Tryz.prog.underlying 29 with | some (.struct f)=>f | _=>#[])[2]!,Ug,by kernel_rfl,by kernel_rfl,by kernel_rfl⟩
theorem vL:Fd Tryz.prog 29 3 3 22:=⟨_,(match Tryz.prog.underlying 29 with | some (.struct f)=>f | _=>#[])[3]!,Ug,by kernel_rfl,by kernel_rfl,by kernel_rfl⟩
theorem aOc:Fd Tryz.prog 29 4 4 4:=⟨_,(match Tryz.prog.underlying 29 with | some (.struct f)=>f | _=>#[])[4]!,Ug,by kernel_rfl,by kernel_rfl,by kernel_rfl⟩
theorem aNv:Fd Tryz.prog 29 5 5 27:=⟨_,(match Tryz.prog.underlying 29 with | some (.struct f)=>f | _=>#[])[5]!,Ug,by kernel_rfl,by kernel_rfl,by kernel_rfl⟩
theorem aNu:Fd Tryz.prog 29 6 6 22:=⟨_,(match Tryz.prog.underlying 29 with | some (.struct f)=>f | _=>#[])[6]!,Ug,by kernel_rfl,by kernel_rfl,by kernel_rfl⟩
theorem aNs:Fd Tryz.prog 29 7 7 22:=⟨_,(match Tryz.prog.underlying 29 with | some (.struct f)=>f | _=>#[])[7]!,Ug,by kernel_rfl,by kernel_rfl,by kernel_rfl⟩
theorem aBe:Fd Tryz.prog 29 8 8 4:=⟨_,(match Tryz.prog.underlying 29 with | some (.struct f)=>f | _=>#[])[8]!,Ug,by kernel_rfl,by kernel_rfl,by kernel_rfl⟩
theorem aOe:Fd Tryz.prog 38 0 0 3:=⟨_,(match Tryz.prog.underlying 38 with | some (.struct f)=>f | _=>#[])[0]!,M8,by kernel_rfl,by kernel_rfl,by kernel_rfl⟩
theorem aNh:Fd Tryz.prog 38 1 1 3:=⟨_,(match Tryz.prog.underlying 38 with | some (.struct f)=>f | _=>#[])[1]!,M8,by kernel_rfl,by kernel_rfl,by kernel_rfl⟩
theorem aJ9:Fd Tryz.prog 40 0 0 38:=⟨_,(match Tryz.prog.underlying 40 with | some (.struct f)=>f | _=>#[])[0]!,mS,by kernel_rfl,by kernel_rfl,by kernel_rfl⟩
theorem aMl:Fd Tryz.prog 40 1 2 3:=⟨_,(match Tryz.prog.underlying 40 with | some (.struct f)=>f | _=>#[])[1]!,mS,by kernel_rfl,by kernel_rfl,by kernel_rfl⟩
theorem aMp:Fd Tryz.prog 40 2 3 22:=⟨_,(match Tryz.prog.underlying 40 with | some (.struct f)=>f | _=>#[])[2]!,mS,by kernel_rfl,by kernel_rfl,by kernel_rfl⟩
theorem tY:Fd Tryz.prog 45 0 0 3:=⟨_,(match Tryz.prog.underlying 45 with | some (.struct f)=>f | _=>#[])[0]!,P5,by kernel_rfl,by kernel_rfl,by kernel_rfl⟩
theorem aN3:Fd Tryz.prog 45 1 1 3:=⟨_,(match Tryz.prog.underlying 45 with | some (.struct f)=>f | _=>#[])[1]!,P5,by kernel_rfl,by kernel_rfl,by kernel_rfl⟩
theorem aKm:Fd Tryz.prog 47 0 0 3:=⟨_,(match Tryz.prog.underlying 47 with | some (.struct f)=>f | _=>#[])[0]!,K6,by kernel_rfl,by kernel_rfl,by kernel_rfl⟩
theorem aKb:Fd Tryz.prog 47 2 2 45:=⟨_,(match Tryz.prog.underlying 47 with | some (.struct f)=>f | _=>#[])[2]!,K6,by kernel_rfl,by kernel_rfl,by kernel_rfl⟩
theorem tW:Fd Tryz.prog 47 3 4 45:=⟨_,(match Tryz.prog.underlying 47 with | some (.struct f)=>f | _=>#[])[3]!,K6,by kernel_rfl,by kernel_rfl,by kernel_rfl⟩
theorem aK3:Fd Tryz.prog 47 4 6 45:=⟨_,(match Tryz.prog.underlying 47 with | some (.struct f)=>f | _=>#[])[4]!,K6,by kernel_rfl,by kernel_rfl,by kernel_rfl⟩
theorem aNn:Fd Tryz.prog 47 5 8 45:=⟨_,(match Tryz.prog.underlying 47 with | some (.struct f)=>f | _=>#[])[5]!,K6,by kernel_rfl,by kernel_rfl,by kernel_rfl⟩
theorem aK7:Fd Tryz.prog 47 6 10 3:=⟨_,(match Tryz.prog.underlying 47 with | some (.struct f)=>f | _=>#[])[6]!,K6,by kernel_rfl,by kernel_rfl,by kernel_rfl⟩
theorem aNy:Fd Tryz.prog 47 7 11 3:=⟨_,(match Tryz.prog.underlying 47 with | some (.struct f)=>f | _=>#[])[7]!,K6,by kernel_rfl,by kernel_rfl,by kernel_rfl⟩
theorem aMy:Fd Tryz.prog 67 0 0 64:=⟨_,(match Tryz.prog.underlying 67 with | some (.struct f)=>f | _=>#[])[0]!,aBh,by kernel_rfl,by kernel_rfl,by kernel_rfl⟩
theorem aNa:Fd Tryz.prog 67 1 1 65:=⟨_,(match Tryz.prog.underlying 67 with | some (.struct f)=>f | _=>#[])[1]!,aBh,by kernel_rfl,by kernel_rfl,by kernel_rfl⟩
theorem aK1:Fd Tryz.prog 70 0 0 22:=⟨_,(match Tryz.prog.underlying 70 with | some (.struct f)=>f | _=>#[])[0]!,wL,by kernel_rfl,by kernel_rfl,by kernel_rfl⟩
theorem aMb:Fd Tryz.prog 70 1 1 3:=⟨_,(match Tryz.prog.underlying 70 with | some (.struct f)=>f | _=>#[])[1]!,wL,by kernel_rfl,by kernel_rfl,by kernel_rfl⟩
theorem aOb:Fd Tryz.prog 75 0 0 3:=⟨_,(match Tryz.prog.underlying 75 with | some (.struct f)=>f | _=>#[])[0]!,aJt,by kernel_rfl,by kernel_rfl,by kernel_rfl⟩
theorem aLf:Fd Tryz.prog 75 1 1 3:=⟨_,(match Tryz.prog.underlying 75 with | some (.struct f)=>f | _=>#[])[1]!,aJt,by kernel_rfl,by kernel_rfl,by kernel_rfl⟩
theorem aM3:Fd Tryz.prog 78 0 0 45:=⟨_,(match Tryz.prog.underlying 78 with | some (.struct f)=>f | _=>#[])[0]!,Ya,by kernel_rfl,by kernel_rfl,by kernel_rfl⟩
theorem aMe:Fd Tryz.prog 78 1 2 3:=⟨_,(match Tryz.prog.underlying 78 with | some (.struct f)=>f | _=>#[])[1]!,Ya,by kernel_rfl,by kernel_rfl,by kernel_rfl⟩
theorem aLo:Fd Tryz.prog 78 2 3 9:=⟨_,(match Tryz.prog.underlying 78 with | some (.struct f)=>f | _=>#[])[2]!,Ya,by kernel_rfl,by kernel_rfl,by kernel_rfl⟩
theorem aM8:Fd Tryz.prog 78 3 4 75:=⟨_,(match Tryz.prog.underlying 78 with | some (.struct f)=>f | _=>#[])[3]!,Ya,by kernel_rfl,by kernel_rfl,by kernel_rfl⟩
theorem aKf:Fd Tryz.prog 78 4 6 76:=⟨_,(match Tryz.prog.underlying 78 with | some (.struct f)=>f | _=>#[])[4]!,Ya,by kernel_rfl,by kernel_rfl,by kernel_rfl⟩
theorem aOi:Fd Tryz.prog 83 0 0 4:=⟨_,(match Tryz.prog.underlying 83 with | some (.struct f)=>f | _=>#[])[0]!,Zx,by kernel_rfl,by kernel_rfl,by kernel_rfl⟩
theorem aN2:Fd Tryz.prog 83 1 1 3:=⟨_,(match Tryz.prog.underlying 83 with | some (.struct f)=>f | _=>#[])[1]!,Zx,by kernel_rfl,by kernel_rfl,by kernel_rfl⟩
theorem aNf:Fd Tryz.prog 83 2 2 3:=⟨_,(match Tryz.prog.underlying 83 with | some (.struct f)=>f | _=>#[])[2]!,Zx,by kernel_rfl,by kernel_rfl,by kernel_rfl⟩
theorem aMg:Fd Tryz.prog 83 3 3 3:=⟨_,(match Tryz.prog.underlying 83 with | some (.struct f)=>f | _=>#[])[3]!,Zx,by kernel_rfl,by kernel_rfl,by kernel_rfl⟩
theorem aLr:Fd Tryz.prog 83 4 4 3:=⟨_,(match Tryz.prog.underlying 83 with | some (.struct f)=>f | _=>#[])[4]!,Zx,by kernel_rfl,by kernel_rfl,by kernel_rfl⟩
theorem aMz:Fd Tryz.prog 83 5 5 3:=⟨_,(match Tryz.prog.underlying 83 with | some (.struct f)=>f | _=>#[])[5]!,Zx,by kernel_rfl,by kernel_rfl,by kernel_rfl⟩
theorem aKc:Fd Tryz.prog 89 0 0 45:=⟨_,(match Tryz.prog.underlying 89 with | some (.struct f)=>f | _=>#[])[0]!,gT,by kernel_rfl,by kernel_rfl,by kernel_rfl⟩
theorem aNk:Fd Tryz.prog 89 1 2 3:=⟨_,(match Tryz.prog.underlying 89 with | some (.struct f)=>f | _=>#[])[1]!,gT,by kernel_rfl,by kernel_rfl,by kernel_rfl⟩
theorem aKt:Fd Tryz.prog 89 2 3 87:=⟨_,(match Tryz.prog.underlying 89 with | some (.struct f)=>f | _=>#[])[2]!,gT,by kernel_rfl,by kernel_rfl,by kernel_rfl⟩
theorem aKs:Fd Tryz.prog 91 0 0 22:=⟨_,(match Tryz.prog.underlying 91 with | some (.struct f)=>f | _=>#[])[0]!,aDf,by kernel_rfl,by kernel_rfl,by kernel_rfl⟩
theorem aMc:Fd Tryz.prog 91 1 1 3:=⟨_,(match Tryz.prog.underlying 91 with | some (.struct f)=>f | _=>#[])[1]!,aDf,by kernel_rfl,by kernel_rfl,by kernel_rfl⟩
theorem aPq:((match Tryz.prog.underlying 111 with | some (.struct f)=>f | _=>#[]):Array Field).toList.map (fun f=>(Tryz.prog.info? f.type).map fun i=>(f.offset,i.size))=[(0,1),(1,1)].map some:=by kernel_rfl
theorem xJ:((match Tryz.prog.underlying 119 with | some (.struct f)=>f | _=>#[]):Array Field).toList.map (fun f=>(Tryz.prog.info? f.type).map fun i=>(f.offset,i.size))=[(0,1),(1,1)].map some:=by kernel_rfl
theorem aQo:((match Tryz.prog.underlying 134 with | some (.struct f)=>f | _=>#[]):Array Field).toList.map (fun f=>(Tryz.prog.info? f.type).map fun i=>(f.offset,i.size))=[(0,9),(9,1),(10,1)].map some:=by kernel_rfl
theorem aJ1:((match Tryz.prog.underlying 146 with | some (.struct f)=>f | _=>#[]):Array Field).toList.map (fun f=>(Tryz.prog.info? f.type).map fun i=>(f.offset,i.size))=[(0,1),(1,1),(2,1),(3,2),(5,1),(6,2),(8,1),(9,1),(10,1),(11,1),(12,1),(13,2)].map some:=by kernel_rfl
theorem Ml:((match Tryz.prog.underlying 174 with | some (.struct f)=>f | _=>#[]):Array Field).toList.map (fun f=>(Tryz.prog.info? f.type).map fun i=>(f.offset,i.size))=[(0,1),(1,1),(2,1),(3,1),(4,1)].map some:=by kernel_rfl
theorem Mi:((match Tryz.prog.underlying 190 with | some (.struct f)=>f | _=>#[]):Array Field).toList.map (fun f=>(Tryz.prog.info? f.type).map fun i=>(f.offset,i.size))=[(0,1),(1,1)].map some:=by kernel_rfl
theorem Xc:((match Tryz.prog.underlying 203 with | some (.struct f)=>f | _=>#[]):Array Field).toList.map (fun f=>(Tryz.prog.info? f.type).map fun i=>(f.offset,i.size))=[(0,1),(1,1),(2,1),(3,1)].map some:=by kernel_rfl
theorem aM5:((match Tryz.prog.underlying 29 with | some (.struct f)=>f | _=>#[]):Array Field).toList.map (fun f=>(Tryz.prog.info? f.type).map fun i=>(f.offset,i.size))=[(0,1),(1,1),(2,1),(3,1),(4,1),(5,1),(6,1),(7,1),(8,1)].map some:=by kernel_rfl
theorem Tq:((match Tryz.prog.underlying 38 with | some (.struct f)=>f | _=>#[]):Array Field).toList.map (fun f=>(Tryz.prog.info? f.type).map fun i=>(f.offset,i.size))=[(0,1),(1,1)].map some:=by kernel_rfl
theorem aL1:((match Tryz.prog.underlying 40 with | some (.struct f)=>f | _=>#[]):Array Field).toList.map (fun f=>(Tryz.prog.info? f.type).map fun i=>(f.offset,i.size))=[(0,2),(2,1),(3,1)].map some:=by kernel_rfl
theorem Yb:((match Tryz.prog.underlying 45 with | some (.struct f)=>f | _=>#[]):Array Field).toList.map (fun f=>(Tryz.prog.info? f.type).map fun i=>(f.offset,i.size))=[(0,1),(1,1)].map some:=by kernel_rfl
theorem Tn:((match Tryz.prog.underlying 47 with | some (.struct f)=>f | _=>#[]):Array Field).toList.map (fun f=>(Tryz.prog.info? f.type).map fun i=>(f.offset,i.size))=[(0,1),(1,1),(2,2),(4,2),(6,2),(8,2),(10,1),(11,1)].map some:=by kernel_rfl
theorem aTu:((match Tryz.prog.underlying 67 with | some (.struct f)=>f | _=>#[]):Array Field).toList.map (fun f=>(Tryz.prog.info? f.type).map fun i=>(f.offset,i.size))=[(0,1),(1,1)].map some:=by kernel_rfl
theorem aRf:((match Tryz.prog.underlying 70 with | some (.struct f)=>f | _=>#[]):Array Field).toList.map (fun f=>(Tryz.prog.info? f.type).map fun i=>(f.offset,i.size))=[(0,1),(1,1)].map some:=by kernel_rfl
theorem aF8:((match Tryz.prog.underlying 78 with | some (.struct f)=>f | _=>#[]):Array Field).toList.map (fun f=>(Tryz.prog.info? f.type).map fun i=>(f.offset,i.size))=[(0,2),(2,1),(3,1),(4,2),(6,1)].map some:=by kernel_rfl
theorem aOf:((match Tryz.prog.underlying 83 with | some (.struct f)=>f | _=>#[]):Array Field).toList.map (fun f=>(Tryz.prog.info? f.type).map fun i=>(f.offset,i.size))=[(0,1),(1,1),(2,1),(3,1),(4,1),(5,1)].map some:=by kernel_rfl
theorem aG7:((match Tryz.prog.underlying 89 with | some (.struct f)=>f | _=>#[]):Array Field).toList.map (fun f=>(Tryz.prog.info? f.type).map fun i=>(f.offset,i.size))=[(0,2),(2,1),(3,1)].map some:=by kernel_rfl
theorem aTm:((match Tryz.prog.underlying 91 with | some (.struct f)=>f | _=>#[]):Array Field).toList.map (fun f=>(Tryz.prog.info? f.type).map fun i=>(f.offset,i.size))=[(0,1),(1,1)].map some:=by kernel_rfl
theorem aD3:Iy Tryz.prog 105 47 12 104:=Iy.mk' (z:=(.agg #[.int .i64 0,.string ⟨#[]⟩,.int .i64 0,.int .i64 0,.int .i64 0,.int .i64 0,.int .i64 0,.int .i64 0,.int .i64 0,.int .i64 0,.int .i64 0,.int .i64 0])) (by kernel_rfl) (by kernel_rfl) rfl (by decide) (by decide)
theorem aFo:Iy Tryz.prog 112 45 2 16:=Iy.mk' (z:=(.agg #[.int .i64 0,.int .i64 0])) (by kernel_rfl) (by kernel_rfl) rfl (by decide) (by decide)
theorem aEz:Iy Tryz.prog 127 22 1 24:=Iy.mk' (z:=(.slice none 0 0)) (by kernel_rfl) (by kernel_rfl) rfl (by decide) (by decide)
theorem aJe:Iy Tryz.prog 140 34 1 8:=Iy.mk' (z:=(.int .i64 0)) (by kernel_rfl) (by kernel_rfl) rfl (by decide) (by decide)
theorem lK:Iy Tryz.prog 144 9 1 16:=Iy.mk' (z:=(.string ⟨#[]⟩)) (by kernel_rfl) (by kernel_rfl) rfl (by decide) (by decide)
theorem Nu:Iy Tryz.prog 154 5 1 1:=Iy.mk' (z:=(.int .u8 0)) (by kernel_rfl) (by kernel_rfl) rfl (by decide) (by decide)
theorem aJr:Iy Tryz.prog 191 190 2 24:=Iy.mk' (z:=(.agg #[.string ⟨#[]⟩,.int .i64 0])) (by kernel_rfl) (by kernel_rfl) rfl (by decide) (by decide)
theorem U5:Iy Tryz.prog 201 203 4 64:=Iy.mk' (z:=(.agg #[.int .i64 0,.slice none 0 0,.bool false,.slice none 0 0])) (by kernel_rfl) (by kernel_rfl) rfl (by decide) (by decide)
theorem Er:Iy Tryz.prog 22 3 1 8:=Iy.mk' (z:=(.int .i64 0)) (by kernel_rfl) (by kernel_rfl) rfl (by decide) (by decide)
theorem dH:Iy Tryz.prog 27 89 4 48:=Iy.mk' (z:=(.agg #[.int .i64 0,.int .i64 0,.int .i64 0,.slice none 0 0])) (by kernel_rfl) (by kernel_rfl) rfl (by decide) (by decide)
theorem aAi:Iy Tryz.prog 33 40 4 48:=Iy.mk' (z:=(.agg #[.int .i64 0,.int .i64 0,.int .i64 0,.slice none 0 0])) (by kernel_rfl) (by kernel_rfl) rfl (by decide) (by decide)
theorem aRj:Iy Tryz.prog 55 38 2 16:=Iy.mk' (z:=(.agg #[.int .i64 0,.int .i64 0])) (by kernel_rfl) (by kernel_rfl) rfl (by decide) (by decide)
theorem aSk:Iy Tryz.prog 58 59 1 2:=Iy.mk' (z:=(.int .u16 0)) (by kernel_rfl) (by kernel_rfl) rfl (by decide) (by decide)
theorem aHz:Iy Tryz.prog 64 83 6 48:=Iy.mk' (z:=(.agg #[.bool false,.int .i64 0,.int .i64 0,.int .i64 0,.int .i64 0,.int .i64 0])) (by kernel_rfl) (by kernel_rfl) rfl (by decide) (by decide)
theorem aPz:Iy Tryz.prog 65 111 2 16:=Iy.mk' (z:=(.agg #[.int .i64 0,.int .i64 0])) (by kernel_rfl) (by kernel_rfl) rfl (by decide) (by decide)
theorem aKv:Iy Tryz.prog 76 119 2 16:=Iy.mk' (z:=(.agg #[.int .i64 0,.int .i64 0])) (by kernel_rfl) (by kernel_rfl) rfl (by decide) (by decide)
theorem aOu:Iy Tryz.prog 80 78 7 80:=Iy.mk' (z:=(.agg #[.int .i64 0,.int .i64 0,.int .i64 0,.string ⟨#[]⟩,.int .i64 0,.int .i64 0,.slice none 0 0])) (by kernel_rfl) (by kernel_rfl) rfl (by decide) (by decide)
theorem aHo:Iy Tryz.prog 87 146 15 152:=Iy.mk' (z:=(.agg #[.int .i64 0,.string ⟨#[]⟩,.string ⟨#[]⟩,.int .i64 0,.int .i64 0,.int .i64 0,.int .i64 0,.int .i64 0,.int .i64 0,.int .i64 0,.bool false,.int .i64 0,.slice none 0 0,.int .i64 0,.int .i64 0])) (by kernel_rfl) (by kernel_rfl) rfl (by decide) (by decide)
theorem aDj:Ty Tryz.prog 109 false 1:=⟨by kernel_rfl,by kernel_rfl⟩
theorem aQ2:Ty Tryz.prog 111 true 2:=⟨by kernel_rfl,by kernel_rfl⟩
theorem aQt:Ty Tryz.prog 119 true 2:=⟨by kernel_rfl,by kernel_rfl⟩
theorem aRr:Ty Tryz.prog 134 true 11:=⟨by kernel_rfl,by kernel_rfl⟩
theorem aQc:Ty Tryz.prog 144 false 1:=⟨by kernel_rfl,by kernel_rfl⟩
theorem aPr:Ty Tryz.prog 146 true 15:=⟨by kernel_rfl,by kernel_rfl⟩
theorem aO8:Ty Tryz.prog 154 false 1:=⟨by kernel_rfl,by kernel_rfl⟩
theorem aJq:Ty Tryz.prog 174 true 5:=⟨by kernel_rfl,by kernel_rfl⟩
theorem aPe:Ty Tryz.prog 201 false 1:=⟨by kernel_rfl,by kernel_rfl⟩
theorem Zv:Ty Tryz.prog 203 true 4:=⟨by kernel_rfl,by kernel_rfl⟩
theorem aQ3:Ty Tryz.prog 215 true 115:=⟨by kernel_rfl,by kernel_rfl⟩
theorem aJo:Ty Tryz.prog 217 true 2:=⟨by kernel_rfl,by kernel_rfl⟩
theorem aPi:Ty Tryz.prog 219 false 1:=⟨by kernel_rfl,by kernel_rfl⟩
theorem qS:Ty Tryz.prog 22 false 1:=⟨by kernel_rfl,by kernel_rfl⟩
theorem aTv:Ty Tryz.prog 27 false 1:=⟨by kernel_rfl,by kernel_rfl⟩
theorem aL4:Ty Tryz.prog 29 true 9:=⟨by kernel_rfl,by kernel_rfl⟩
theorem jA:Ty Tryz.prog 3 false 1:=⟨by kernel_rfl,by kernel_rfl⟩
theorem aTe:Ty Tryz.prog 33 false 1:=⟨by kernel_rfl,by kernel_rfl⟩
theorem aCi:Ty Tryz.prog 34 false 1:=⟨by kernel_rfl,by kernel_rfl⟩
theorem aHe:Ty Tryz.prog 38 true 2:=⟨by kernel_rfl,by kernel_rfl⟩
theorem ty4:Ty Tryz.prog 4 false 1:=⟨by kernel_rfl,by kernel_rfl⟩
theorem aTh:Ty Tryz.prog 40 true 4:=⟨by kernel_rfl,by kernel_rfl⟩
theorem aKw:Ty Tryz.prog 45 true 2:=⟨by kernel_rfl,by kernel_rfl⟩
theorem aTo:Ty Tryz.prog 47 true 12:=⟨by kernel_rfl,by kernel_rfl⟩
theorem ty5:Ty Tryz.prog 5 false 1:=⟨by kernel_rfl,by kernel_rfl⟩
theorem aMq:Ty Tryz.prog 59 false 1:=⟨by kernel_rfl,by kernel_rfl⟩
theorem aLw:Ty Tryz.prog 64 false 1:=⟨by kernel_rfl,by kernel_rfl⟩
theorem aTq:Ty Tryz.prog 65 false 1:=⟨by kernel_rfl,by kernel_rfl⟩
theorem aSp:Ty Tryz.prog 67 true 2:=⟨by kernel_rfl,by kernel_rfl⟩
theorem aTj:Ty Tryz.prog 70 true 2:=⟨by kernel_rfl,by kernel_rfl⟩
theorem aT6:Ty Tryz.prog 75 true 2:=⟨by kernel_rfl,by kernel_rfl⟩
theorem aSc:Ty Tryz.prog 76 false 1:=⟨by kernel_rfl,by kernel_rfl⟩
theorem aS2:Ty Tryz.prog 78 true 7:=⟨by kernel_rfl,by kernel_rfl⟩
theorem aSb:Ty Tryz.prog 83 true 6:=⟨by kernel_rfl,by kernel_rfl⟩
theorem aSi:Ty Tryz.prog 87 false 1:=⟨by kernel_rfl,by kernel_rfl⟩
theorem aSx:Ty Tryz.prog 89 true 4:=⟨by kernel_rfl,by kernel_rfl⟩
theorem ty9:Ty Tryz.prog 9 false 1:=⟨by kernel_rfl,by kernel_rfl⟩
theorem aKp:Zt Tryz.prog 111 [.int .i64 0,.int .i64 0]:=⟨(.agg #[.int .i64 0,.int .i64 0]),by kernel_rfl,rfl,by decide⟩
theorem tZ:Zt Tryz.prog 119 [.int .i64 0,.int .i64 0]:=⟨(.agg #[.int .i64 0,.int .i64 0]),by kernel_rfl,rfl,by decide⟩
theorem aOw:Zt Tryz.prog 134 [.string ⟨#[]⟩,.int .i64 0,.int .i64 0,.slice none 0 0,.bool false,.slice none 0 0,.slice none 0 0,.slice none 0 0,.bool false,.int .i64 0,.slice none 0 0]:=⟨(.agg #[.string ⟨#[]⟩,.int .i64 0,.int .i64 0,.slice none 0 0,.bool false,.slice none 0 0,.slice none 0 0,.slice none 0 0,.bool false,.int .i64 0,.slice none 0 0]),by kernel_rfl,rfl,by decide⟩
theorem aAz:Zt Tryz.prog 146 [.int .i64 0,.string ⟨#[]⟩,.string ⟨#[]⟩,.int .i64 0,.int .i64 0,.int .i64 0,.int .i64 0,.int .i64 0,.int .i64 0,.int .i64 0,.bool false,.int .i64 0,.slice none 0 0,.int .i64 0,.int .i64 0]:=⟨(.agg #[.int .i64 0,.string ⟨#[]⟩,.string ⟨#[]⟩,.int .i64 0,.int .i64 0,.int .i64 0,.int .i64 0,.int .i64 0,.int .i64 0,.int .i64 0,.bool false,.int .i64 0,.slice none 0 0,.int .i64 0,.int .i64 0]),by kernel_rfl,rfl,by decide⟩
theorem aPv:Zt Tryz.prog 169 [.int .i64 0,.int .i64 0]:=⟨(.agg #[.int .i64 0,.int .i64 0]),by kernel_rfl,rfl,by decide⟩
theorem aQ4:Zt Tryz.prog 171 [.int .i64 0,.int .i64 0,.int .i64 0]:=⟨(.agg #[.int .i64 0,.int .i64 0,.int .i64 0]),by kernel_rfl,rfl,by decide⟩
theorem Qd:Zt Tryz.prog 174 [.string ⟨#[]⟩,.int .i64 0,.int .i64 0,.slice none 0 0,.slice none 0 0]:=⟨(.agg #[.string ⟨#[]⟩,.int .i64 0,.int .i64 0,.slice none 0 0,.slice none 0 0]),by kernel_rfl,rfl,by decide⟩
theorem Px:Zt Tryz.prog 190 [.string ⟨#[]⟩,.int .i64 0]:=⟨(.agg #[.string ⟨#[]⟩,.int .i64 0]),by kernel_rfl,rfl,by decide⟩
theorem Sd:Zt Tryz.prog 203 [.int .i64 0,.slice none 0 0,.bool false,.slice none 0 0]:=⟨(.agg #[.int .i64 0,.slice none 0 0,.bool false,.slice none 0 0]),by kernel_rfl,rfl,by decide⟩
theorem aP6:Zt Tryz.prog 215 [.string ⟨#[]⟩,.int .i64 0,.int .i64 0,.slice none 0 0,.slice none 0 0,.string ⟨#[]⟩,.int .i64 0,.int .i64 0,.slice none 0 0,.slice none 0 0,.string ⟨#[]⟩,.int .i64 0,.int .i64 0,.slice none 0 0,.slice none 0 0,.string ⟨#[]⟩,.int .i64 0,.int .i64 0,.slice none 0 0,.slice none 0 0,.string ⟨#[]⟩,.int .i64 0,.int .i64 0,.slice none 0 0,.slice none 0 0,.string ⟨#[]⟩,.int .i64 0,.int .i64 0,.slice none 0 0,.slice none 0 0,.string ⟨#[]⟩,.int .i64 0,.int .i64 0,.slice none 0 0,.slice none 0 0,.string ⟨#[]⟩,.int .i64 0,.int .i64 0,.slice none 0 0,.slice none 0 0,.string ⟨#[]⟩,.int .i64 0,.int .i64 0,.slice none 0 0,.slice none 0 0,.string ⟨#[]⟩,.int .i64 0,.int .i64 0,.slice none 0 0,.slice none 0 0,.string ⟨#[]⟩,.int .i64 0,.int .i64 0,.slice none 0 0,.slice none 0 0,.string ⟨#[]⟩,.int .i64 0,.int .i64 0,.slice none 0 0,.slice none 0 0,.string ⟨#[]⟩,.int .i64 0,.int .i64 0,.slice none 0 0,.slice none 0 0,.string ⟨#[]⟩,.int .i64 0,.int .i64 0,.slice none 0 0,.slice none 0 0,.string ⟨#[]⟩,.int .i64 0,.int .i64 0,.slice none 0 0,.slice none 0 0,.string ⟨#[]⟩,.int .i64 0,.int .i64 0,.slice none 0 0,.slice none 0 0,.string ⟨#[]⟩,.int .i64 0,.int .i64 0,.slice none 0 0,.slice none 0 0,.string ⟨#[]⟩,.int .i64 0,.int .i64 0,.slice none 0 0,.slice none 0 0,.string ⟨#[]⟩,.int .i64 0,.int .i64 0,.slice none 0 0,.slice none 0 0,.string ⟨#[]⟩,.int .i64 0,.int .i64 0,.slice none 0 0,.slice none 0 0,.string ⟨#[]⟩,.int .i64 0,.int .i64 0,.slice none 0 0,.slice none 0 0,.string ⟨#[]⟩,.int .i64 0,.int .i64 0,.slice none 0 0,.slice none 0 0,.string ⟨#[]⟩,.int .i64 0,.int .i64 0,.slice none 0 0,.slice none 0 0]:=⟨(.agg #[.string ⟨#[]⟩,.int .i64 0,.int .i64 0,.slice none 0 0,.slice none 0 0,.string ⟨#[]⟩,.int .i64 0,.int .i64 0,.slice none 0 0,.slice none 0 0,.string ⟨#[]⟩,.int .i64 0,.int .i64 0,.slice none 0 0,.slice none 0 0,.string ⟨#[]⟩,.int .i64 0,.int .i64 0,.slice none 0 0,.slice none 0 0,.string ⟨#[]⟩,.int .i64 0,.int .i64 0,.slice none 0 0,.slice none 0 0,.string ⟨#[]⟩,.int .i64 0,.int .i64 0,.slice none 0 0,.slice none 0 0,.string ⟨#[]⟩,.int .i64 0,.int .i64 0,.slice none 0 0,.slice none 0 0,.string ⟨#[]⟩,.int .i64 0,.int .i64 0,.slice none 0 0,.slice none 0 0,.string ⟨#[]⟩,.int .i64 0,.int .i64 0,.slice none 0 0,.slice none 0 0,.string ⟨#[]⟩,.int .i64 0,.int .i64 0,.slice none 0 0,.slice none 0 0,.string ⟨#[]⟩,.int .i64 0,.int .i64 0,.slice none 0 0,.slice none 0 0,.string ⟨#[]⟩,.int .i64 0,.int .i64 0,.slice none 0 0,.slice none 0 0,.string ⟨#[]⟩,.int .i64 0,.int .i64 0,.slice none 0 0,.slice none 0 0,.string ⟨#[]⟩,.int .i64 0,.int .i64 0,.slice none 0 0,.slice none 0 0,.string ⟨#[]⟩,.int .i64 0,.int .i64 0,.slice none 0 0,.slice none 0 0,.string ⟨#[]⟩,.int .i64 0,.int .i64 0,.slice none 0 0,.slice none 0 0,.string ⟨#[]⟩,.int .i64 0,.int .i64 0,.slice none 0 0,.slice none 0 0,.string ⟨#[]⟩,.int .i64 0,.int .i64 0,.slice none 0 0,.slice none 0 0,.string ⟨#[]⟩,.int .i64 0,.int .i64 0,.slice none 0 0,.slice none 0 0,.string ⟨#[]⟩,.int .i64 0,.int .i64 0,.slice none 0 0,.slice none 0 0,.string ⟨#[]⟩,.int .i64 0,.int .i64 0,.slice none 0 0,.slice none 0 0,.string ⟨#[]⟩,.int .i64 0,.int .i64 0,.slice none 0 0,.slice none 0 0,.string ⟨#[]⟩,.int .i64 0,.int .i64 0,.slice none 0 0,.slice none 0 0]),by kernel_rfl,rfl,by decide⟩
theorem zG:Zt Tryz.prog 217 [.int .i64 0,.int .i64 0]:=⟨(.agg #[.int .i64 0,.int .i64 0]),by kernel_rfl,rfl,by decide⟩
theorem aOz:Zt Tryz.prog 218 [.int .i64 0,.int .i64 0,.int .i64 0,.int .i64 0,.int .i64 0,.int .i64 0,.int .i64 0,.int .i64 0,.int .i64 0,.int .i64 0]:=⟨(.agg #[.int .i64 0,.int .i64 0,.int .i64 0,.int .i64 0,.int .i64 0,.int .i64 0,.int .i64 0,.int .i64 0,.int .i64 0,.int .i64 0]),by kernel_rfl,rfl,by decide⟩
theorem aSm:Zt Tryz.prog 219 [.int .u64 0]:=⟨(.int .u64 0),by kernel_rfl,rfl,by decide⟩
theorem z22:Zt Tryz.prog 22 [.slice none 0 0]:=⟨(.slice none 0 0),by kernel_rfl,rfl,by decide⟩
theorem z29:Zt Tryz.prog 29 [.string ⟨#[]⟩,.int .i64 0,.int .i64 0,.slice none 0 0,.bool false,.slice none 0 0,.slice none 0 0,.slice none 0 0,.bool false]:=⟨(.agg #[.string ⟨#[]⟩,.int .i64 0,.int .i64 0,.slice none 0 0,.bool false,.slice none 0 0,.slice none 0 0,.slice none 0 0,.bool false]),by kernel_rfl,rfl,by decide⟩
theorem z3:Zt Tryz.prog 3 [.int .i64 0]:=⟨(.int .i64 0),by kernel_rfl,rfl,by decide⟩
theorem z33:Zt Tryz.prog 33 [.slice none 0 0]:=⟨(.slice none 0 0),by kernel_rfl,rfl,by decide⟩
theorem z34:Zt Tryz.prog 34 [.int .i64 0]:=⟨(.int .i64 0),by kernel_rfl,rfl,by decide⟩
theorem kM:Zt Tryz.prog 38 [.int .i64 0,.int .i64 0]:=⟨(.agg #[.int .i64 0,.int .i64 0]),by kernel_rfl,rfl,by decide⟩
theorem z40:Zt Tryz.prog 40 [.int .i64 0,.int .i64 0,.int .i64 0,.slice none 0 0]:=⟨(.agg #[.int .i64 0,.int .i64 0,.int .i64 0,.slice none 0 0]),by kernel_rfl,rfl,by decide⟩
theorem rV:Zt Tryz.prog 45 [.int .i64 0,.int .i64 0]:=⟨(.agg #[.int .i64 0,.int .i64 0]),by kernel_rfl,rfl,by decide⟩
theorem jB:Zt Tryz.prog 47 [.int .i64 0,.string ⟨#[]⟩,.int .i64 0,.int .i64 0,.int .i64 0,.int .i64 0,.int .i64 0,.int .i64 0,.int .i64 0,.int .i64 0,.int .i64 0,.int .i64 0]:=⟨(.agg #[.int .i64 0,.string ⟨#[]⟩,.int .i64 0,.int .i64 0,.int .i64 0,.int .i64 0,.int .i64 0,.int .i64 0,.int .i64 0,.int .i64 0,.int .i64 0,.int .i64 0]),by kernel_rfl,rfl,by decide⟩
theorem z5:Zt Tryz.prog 5 [.int .u8 0]:=⟨(.int .u8 0),by kernel_rfl,rfl,by decide⟩
theorem z67:Zt Tryz.prog 67 [.slice none 0 0,.slice none 0 0]:=⟨(.agg #[.slice none 0 0,.slice none 0 0]),by kernel_rfl,rfl,by decide⟩
theorem z70:Zt Tryz.prog 70 [.slice none 0 0,.int .i64 0]:=⟨(.agg #[.slice none 0 0,.int .i64 0]),by kernel_rfl,rfl,by decide⟩
theorem z78:Zt Tryz.prog 78 [.int .i64 0,.int .i64 0,.int .i64 0,.string ⟨#[]⟩,.int .i64 0,.int .i64 0,.slice none 0 0]:=⟨(.agg #[.int .i64 0,.int .i64 0,.int .i64 0,.string ⟨#[]⟩,.int .i64 0,.int .i64 0,.slice none 0 0]),by kernel_rfl,rfl,by decide⟩
theorem z83:Zt Tryz.prog 83 [.bool false,.int .i64 0,.int .i64 0,.int .i64 0,.int .i64 0,.int .i64 0]:=⟨(.agg #[.bool false,.int .i64 0,.int .i64 0,.int .i64 0,.int .i64 0,.int .i64 0]),by kernel_rfl,rfl,by decide⟩
theorem z89:Zt Tryz.prog 89 [.int .i64 0,.int .i64 0,.int .i64 0,.slice none 0 0]:=⟨(.agg #[.int .i64 0,.int .i64 0,.int .i64 0,.slice none 0 0]),by kernel_rfl,rfl,by decide⟩
theorem z9:Zt Tryz.prog 9 [.string ⟨#[]⟩]:=⟨(.string ⟨#[]⟩),by kernel_rfl,rfl,by decide⟩
theorem z91:Zt Tryz.prog 91 [.slice none 0 0,.int .i64 0]:=⟨(.agg #[.slice none 0 0,.int .i64 0]),by kernel_rfl,rfl,by decide⟩
theorem aRa:Kx Tryz.prog 20 111=[none,none]:=by kernel_rfl
theorem aJ3:Kx Tryz.prog 20 119=[none,none]:=by kernel_rfl
theorem aE1:Kx Tryz.prog 20 146=[none,none,none,none,none,none,none,none,none,none,none,none,some 1,none,none]:=by kernel_rfl
theorem aQl:Kx Tryz.prog 20 190=[none,none]:=by kernel_rfl
theorem Xb:Kx Tryz.prog 20 203=[none,some 1,none,some 4]:=by kernel_rfl
theorem aO2:Kx Tryz.prog 20 22=[some 1]:=by kernel_rfl
theorem Ia:Kx Tryz.prog 20 3=[none]:=by kernel_rfl
theorem aSe:Kx Tryz.prog 20 34=[none]:=by kernel_rfl
theorem aTp:Kx Tryz.prog 20 38=[none,none]:=by kernel_rfl
theorem Ms:Kx Tryz.prog 20 40=[none,none,none,some 1]:=by kernel_rfl
theorem aOy:Kx Tryz.prog 20 45=[none,none]:=by kernel_rfl
theorem aP0:Kx Tryz.prog 20 47=[none,none,none,none,none,none,none,none,none,none,none,none]:=by kernel_rfl
theorem qA:Kx Tryz.prog 20 5=[none]:=by kernel_rfl
theorem aSh:Kx Tryz.prog 20 78=[none,none,none,none,none,none,some 2]:=by kernel_rfl
theorem aMv:Kx Tryz.prog 20 83=[none,none,none,none,none,none]:=by kernel_rfl
theorem uO:Kx Tryz.prog 20 89=[none,none,none,some 15]:=by kernel_rfl
theorem ck9:Kx Tryz.prog 20 9=[none]:=by kernel_rfl
theorem aSy (s:ByteArray) (c:UInt8) (w:World):(callFunc 213 [.string s,.int .u8 (c.toNat:Int)].toArray).run Tryz.prog w=.ok (.value (.int .i64 (pS s c))) w:=aA6 Tryz.func213 rfl rfl (by kernel_rfl) (by kernel_rfl) s c w
theorem aRc:Tryz.prog.eqGuardType Tryz.prog.depth 119=false:=by kernel_rfl
theorem aPh:Tryz.prog.underlying 119=some (.struct (Tryz.prog.fieldsOf 119)):=by kernel_rfl
theorem aPn:Tryz.prog.stoodInHeld 119=false:=by kernel_rfl
theorem aPf (x y:Be) (w:World):(Op.equalIn 10000 119 (.agg #[.int .i64 x.Key,.int .i64 x.Sum]) (.agg #[.int .i64 y.Key,.int .i64 y.Sum])).run Tryz.prog w=.ok (decide (x=y)) w:=by
 have u3:=Tryz.underlying3
 have a3:=Tryz.isAgg3
 have z3:=Tryz.sizeOf3
 rw [show (10000:Nat)=9999 + 1 from rfl,run_equalIn_agg w 9999 119 _ _ aPh aPn]
 simp only [Program.fieldsOf,Tryz.underlying119]
 go_simp
 rcases x with ⟨x0,x1⟩
 rcases y with ⟨y0,y1⟩
 by_cases h0:x0=y0 <;> by_cases h1:x1=y1 <;> simp [h0,h1]
theorem qN (x y:Be) {X Y:Operand} {tk:Nat} {yt ty:TypeId} {b1 b2:Option LB}:Gw Tryz.prog tk (.binOp .eql 119 X Y yt) ty [(.agg [.val (.int .i64 x.Key),.val (.int .i64 x.Sum)],b1),(.agg [.val (.int .i64 y.Key),.val (.int .i64 y.Sum)],b2)] [] (v0 (.val (.bool (decide (x=y))))):=
 .binOpA rfl rfl (fun _ _=>rfl) (fun w=>by
  rw [Sem.run_bind,run_eqGuard_agg w _ 119 X Y _ _ aRc]
  simp only [Result.andThen_ok,run_eql_struct]
  exact congrArg (fun r=>Result.andThen r _) (aPf x y w))
theorem aPo:Tryz.prog.eqGuardType Tryz.prog.depth 38=false:=by kernel_rfl
theorem aS8:Tryz.prog.underlying 38=some (.struct (Tryz.prog.fieldsOf 38)):=by kernel_rfl
theorem aTw:Tryz.prog.stoodInHeld 38=false:=by kernel_rfl
theorem aOx (x y:Ap) (w:World):(Op.equalIn 10000 38 (.agg #[.int .i64 x.Version,.int .i64 x.Suite]) (.agg #[.int .i64 y.Version,.int .i64 y.Suite])).run Tryz.prog w=.ok (decide (x=y)) w:=by
 have u3:=Tryz.underlying3
 have a3:=Tryz.isAgg3
 have z3:=Tryz.sizeOf3
 rw [show (10000:Nat)=9999 + 1 from rfl,run_equalIn_agg w 9999 38 _ _ aS8 aTw]
 simp only [Program.fieldsOf,Tryz.underlying38]
 go_simp
 rcases x with ⟨x0,x1⟩
 rcases y with ⟨y0,y1⟩
 by_cases h0:x0=y0 <;> by_cases h1:x1=y1 <;> simp [h0,h1]
theorem Pb (x y:Ap) {X Y:Operand} {tk:Nat} {yt ty:TypeId} {b1 b2:Option LB}:Gw Tryz.prog tk (.binOp .eql 38 X Y yt) ty [(.agg [.val (.int .i64 x.Version),.val (.int .i64 x.Suite)],b1),(.agg [.val (.int .i64 y.Version),.val (.int .i64 y.Suite)],b2)] [] (v0 (.val (.bool (decide (x=y))))):=
 .binOpA rfl rfl (fun _ _=>rfl) (fun w=>by
  rw [Sem.run_bind,run_eqGuard_agg w _ 38 X Y _ _ aPo]
  simp only [Result.andThen_ok,run_eql_struct]
  exact congrArg (fun r=>Result.andThen r _) (aOx x y w))
theorem X4 (x y:Ap) {X Y:Operand} {tk:Nat} {yt ty:TypeId} {b1 b2:Option LB}:Gw Tryz.prog tk (.binOp .neq 38 X Y yt) ty [(.agg [.val (.int .i64 x.Version),.val (.int .i64 x.Suite)],b1),(.agg [.val (.int .i64 y.Version),.val (.int .i64 y.Suite)],b2)] [] (v0 (.val (.bool (!decide (x=y))))):=
 .binOpA rfl rfl (fun _ _=>rfl) (fun w=>by
  rw [Sem.run_bind,run_eqGuard_agg w _ 38 X Y _ _ aPo]
  simp only [Result.andThen_ok,run_neq_struct]
  exact congrArg (fun r=>Result.andThen r _) (aOx x y w))
theorem aSj:Tryz.prog.eqGuardType Tryz.prog.depth 45=false:=by kernel_rfl
theorem aSu:Tryz.prog.underlying 45=some (.struct (Tryz.prog.fieldsOf 45)):=by kernel_rfl
theorem aTk:Tryz.prog.stoodInHeld 45=false:=by kernel_rfl
theorem aT3 (x y:Ao) (w:World):(Op.equalIn 10000 45 (.agg #[.int .i64 x.Alg,.int .i64 x.Bits]) (.agg #[.int .i64 y.Alg,.int .i64 y.Bits])).run Tryz.prog w=.ok (decide (x=y)) w:=by
 have u3:=Tryz.underlying3
 have a3:=Tryz.isAgg3
 have z3:=Tryz.sizeOf3
 rw [show (10000:Nat)=9999 + 1 from rfl,run_equalIn_agg w 9999 45 _ _ aSu aTk]
 simp only [Program.fieldsOf,Tryz.underlying45]
 go_simp
 rcases x with ⟨x0,x1⟩
 rcases y with ⟨y0,y1⟩
 by_cases h0:x0=y0 <;> by_cases h1:x1=y1 <;> simp [h0,h1]
theorem T5 (x y:Ao) {X Y:Operand} {tk:Nat} {yt ty:TypeId} {b1 b2:Option LB}:Gw Tryz.prog tk (.binOp .eql 45 X Y yt) ty [(.agg [.val (.int .i64 x.Alg),.val (.int .i64 x.Bits)],b1),(.agg [.val (.int .i64 y.Alg),.val (.int .i64 y.Bits)],b2)] [] (v0 (.val (.bool (decide (x=y))))):=
 .binOpA rfl rfl (fun _ _=>rfl) (fun w=>by
  rw [Sem.run_bind,run_eqGuard_agg w _ 45 X Y _ _ aSj]
  simp only [Result.andThen_ok,run_eql_struct]
  exact congrArg (fun r=>Result.andThen r _) (aT3 x y w))
theorem wS:Tryz.prog.underlying 231=some (.map 3 3):=by kernel_rfl
instance:Lk Tryz.prog 111 0 0 3:=⟨aHa⟩
instance:Lk Tryz.prog 111 1 1 3:=⟨aIu⟩
instance:Lk Tryz.prog 119 0 0 3:=⟨aGw⟩
instance:Lk Tryz.prog 119 1 1 3:=⟨aG2⟩
instance:Lk Tryz.prog 134 0 0 29:=⟨aHd⟩
instance:Lk Tryz.prog 134 1 9 3:=⟨aH2⟩
instance:Lk Tryz.prog 134 2 10 22:=⟨aGm⟩
instance:Lk Tryz.prog 146 0 0 3:=⟨aIy⟩
instance:Lk Tryz.prog 146 1 1 9:=⟨aHm⟩
instance:Lk Tryz.prog 146 10 12 144:=⟨aD0⟩
instance:Lk Tryz.prog 146 11 13 119:=⟨aDi⟩
instance:Lk Tryz.prog 146 2 2 9:=⟨aIg⟩
instance:Lk Tryz.prog 146 3 3 45:=⟨aH1⟩
instance:Lk Tryz.prog 146 4 5 3:=⟨aGn⟩
instance:Lk Tryz.prog 146 5 6 45:=⟨aHq⟩
instance:Lk Tryz.prog 146 6 8 3:=⟨aIq⟩
instance:Lk Tryz.prog 146 7 9 3:=⟨aGz⟩
instance:Lk Tryz.prog 146 8 10 4:=⟨aIn⟩
instance:Lk Tryz.prog 146 9 11 3:=⟨aHb⟩
instance:Lk Tryz.prog 174 1 1 3:=⟨aGc⟩
instance:Lk Tryz.prog 174 2 2 3:=⟨aGb⟩
instance:Lk Tryz.prog 174 3 3 22:=⟨aGd⟩
instance:Lk Tryz.prog 174 4 4 22:=⟨aIm⟩
instance:Lk Tryz.prog 190 1 1 3:=⟨aI6⟩
instance:Lk Tryz.prog 203 0 0 3:=⟨aHn⟩
instance:Lk Tryz.prog 203 1 1 154:=⟨aHv⟩
instance:Lk Tryz.prog 203 2 2 4:=⟨aG4⟩
instance:Lk Tryz.prog 203 3 3 201:=⟨aIr⟩
instance:Lk Tryz.prog 29 0 0 9:=⟨aM7⟩
instance:Lk Tryz.prog 29 1 1 3:=⟨uH⟩
instance:Lk Tryz.prog 29 2 2 3:=⟨pZ⟩
instance:Lk Tryz.prog 29 3 3 22:=⟨vL⟩
instance:Lk Tryz.prog 29 4 4 4:=⟨aOc⟩
instance:Lk Tryz.prog 29 5 5 27:=⟨aNv⟩
instance:Lk Tryz.prog 29 6 6 22:=⟨aNu⟩
instance:Lk Tryz.prog 29 7 7 22:=⟨aNs⟩
instance:Lk Tryz.prog 29 8 8 4:=⟨aBe⟩
instance:Lk Tryz.prog 38 0 0 3:=⟨aOe⟩
instance:Lk Tryz.prog 38 1 1 3:=⟨aNh⟩
instance:Lk Tryz.prog 40 0 0 38:=⟨aJ9⟩
instance:Lk Tryz.prog 40 1 2 3:=⟨aMl⟩
instance:Lk Tryz.prog 40 2 3 22:=⟨aMp⟩
instance:Lk Tryz.prog 45 0 0 3:=⟨tY⟩
instance:Lk Tryz.prog 45 1 1 3:=⟨aN3⟩
instance:Lk Tryz.prog 47 0 0 3:=⟨aKm⟩
instance:Lk Tryz.prog 47 2 2 45:=⟨aKb⟩
instance:Lk Tryz.prog 47 3 4 45:=⟨tW⟩
instance:Lk Tryz.prog 47 4 6 45:=⟨aK3⟩
instance:Lk Tryz.prog 47 5 8 45:=⟨aNn⟩
instance:Lk Tryz.prog 47 6 10 3:=⟨aK7⟩
instance:Lk Tryz.prog 47 7 11 3:=⟨aNy⟩
instance:Lk Tryz.prog 67 0 0 64:=⟨aMy⟩
instance:Lk Tryz.prog 67 1 1 65:=⟨aNa⟩
instance:Lk Tryz.prog 70 0 0 22:=⟨aK1⟩
instance:Lk Tryz.prog 70 1 1 3:=⟨aMb⟩
instance:Lk Tryz.prog 75 0 0 3:=⟨aOb⟩
instance:Lk Tryz.prog 75 1 1 3:=⟨aLf⟩
instance:Lk Tryz.prog 78 0 0 45:=⟨aM3⟩
instance:Lk Tryz.prog 78 1 2 3:=⟨aMe⟩
instance:Lk Tryz.prog 78 2 3 9:=⟨aLo⟩
instance:Lk Tryz.prog 78 3 4 75:=⟨aM8⟩
instance:Lk Tryz.prog 78 4 6 76:=⟨aKf⟩
instance:Lk Tryz.prog 83 0 0 4:=⟨aOi⟩
instance:Lk Tryz.prog 83 1 1 3:=⟨aN2⟩
instance:Lk Tryz.prog 83 2 2 3:=⟨aNf⟩
instance:Lk Tryz.prog 83 3 3 3:=⟨aMg⟩
instance:Lk Tryz.prog 83 4 4 3:=⟨aLr⟩
instance:Lk Tryz.prog 83 5 5 3:=⟨aMz⟩
instance:Lk Tryz.prog 89 0 0 45:=⟨aKc⟩
instance:Lk Tryz.prog 89 1 2 3:=⟨aNk⟩
instance:Lk Tryz.prog 89 2 3 87:=⟨aKt⟩
instance:Lk Tryz.prog 91 0 0 22:=⟨aKs⟩
instance:Lk Tryz.prog 91 1 1 3:=⟨aMc⟩
instance:Xd Tryz.prog 105 47 12 104:=⟨aD3⟩
instance:Xd Tryz.prog 112 45 2 16:=⟨aFo⟩
instance:Xd Tryz.prog 127 22 1 24:=⟨aEz⟩
instance:Xd Tryz.prog 140 34 1 8:=⟨aJe⟩
instance:Xd Tryz.prog 144 9 1 16:=⟨lK⟩
instance:Xd Tryz.prog 154 5 1 1:=⟨Nu⟩
instance:Xd Tryz.prog 191 190 2 24:=⟨aJr⟩
instance:Xd Tryz.prog 201 203 4 64:=⟨U5⟩
instance:Xd Tryz.prog 22 3 1 8:=⟨Er⟩
instance:Xd Tryz.prog 27 89 4 48:=⟨dH⟩
instance:Xd Tryz.prog 33 40 4 48:=⟨aAi⟩
instance:Xd Tryz.prog 55 38 2 16:=⟨aRj⟩
instance:Xd Tryz.prog 58 59 1 2:=⟨aSk⟩
instance:Xd Tryz.prog 64 83 6 48:=⟨aHz⟩
instance:Xd Tryz.prog 65 111 2 16:=⟨aPz⟩
instance:Xd Tryz.prog 76 119 2 16:=⟨aKv⟩
instance:Xd Tryz.prog 80 78 7 80:=⟨aOu⟩
instance:Xd Tryz.prog 87 146 15 152:=⟨aHo⟩
instance:Ot Tryz.prog 109 false 1:=⟨aDj⟩
instance:Ot Tryz.prog 111 true 2:=⟨aQ2⟩
instance:Ot Tryz.prog 119 true 2:=⟨aQt⟩
instance:Ot Tryz.prog 134 true 11:=⟨aRr⟩
instance:Ot Tryz.prog 144 false 1:=⟨aQc⟩
instance:Ot Tryz.prog 146 true 15:=⟨aPr⟩
instance:Ot Tryz.prog 154 false 1:=⟨aO8⟩
instance:Ot Tryz.prog 174 true 5:=⟨aJq⟩
instance:Ot Tryz.prog 201 false 1:=⟨aPe⟩
instance:Ot Tryz.prog 203 true 4:=⟨Zv⟩
instance:Ot Tryz.prog 215 true 115:=⟨aQ3⟩
instance:Ot Tryz.prog 217 true 2:=⟨aJo⟩
instance:Ot Tryz.prog 219 false 1:=⟨aPi⟩
instance:Ot Tryz.prog 22 false 1:=⟨qS⟩
instance:Ot Tryz.prog 27 false 1:=⟨aTv⟩
instance:Ot Tryz.prog 29 true 9:=⟨aL4⟩
instance:Ot Tryz.prog 3 false 1:=⟨jA⟩
instance:Ot Tryz.prog 33 false 1:=⟨aTe⟩
instance:Ot Tryz.prog 34 false 1:=⟨aCi⟩
instance:Ot Tryz.prog 38 true 2:=⟨aHe⟩
instance:Ot Tryz.prog 4 false 1:=⟨ty4⟩
instance:Ot Tryz.prog 40 true 4:=⟨aTh⟩
instance:Ot Tryz.prog 45 true 2:=⟨aKw⟩
instance:Ot Tryz.prog 47 true 12:=⟨aTo⟩
instance:Ot Tryz.prog 5 false 1:=⟨ty5⟩
instance:Ot Tryz.prog 59 false 1:=⟨aMq⟩
instance:Ot Tryz.prog 64 false 1:=⟨aLw⟩
instance:Ot Tryz.prog 65 false 1:=⟨aTq⟩
instance:Ot Tryz.prog 67 true 2:=⟨aSp⟩
instance:Ot Tryz.prog 70 true 2:=⟨aTj⟩
instance:Ot Tryz.prog 75 true 2:=⟨aT6⟩
instance:Ot Tryz.prog 76 false 1:=⟨aSc⟩
instance:Ot Tryz.prog 78 true 7:=⟨aS2⟩
instance:Ot Tryz.prog 83 true 6:=⟨aSb⟩
instance:Ot Tryz.prog 87 false 1:=⟨aSi⟩
instance:Ot Tryz.prog 89 true 4:=⟨aSx⟩
instance:Ot Tryz.prog 9 false 1:=⟨ty9⟩
instance:X1 Tryz.prog 111 [.int .i64 0,.int .i64 0]:=⟨aKp⟩
instance:X1 Tryz.prog 119 [.int .i64 0,.int .i64 0]:=⟨tZ⟩
instance:X1 Tryz.prog 134 [.string ⟨#[]⟩,.int .i64 0,.int .i64 0,.slice none 0 0,.bool false,.slice none 0 0,.slice none 0 0,.slice none 0 0,.bool false,.int .i64 0,.slice none 0 0]:=⟨aOw⟩
instance:X1 Tryz.prog 146 [.int .i64 0,.string ⟨#[]⟩,.string ⟨#[]⟩,.int .i64 0,.int .i64 0,.int .i64 0,.int .i64 0,.int .i64 0,.int .i64 0,.int .i64 0,.bool false,.int .i64 0,.slice none 0 0,.int .i64 0,.int .i64 0]:=⟨aAz⟩
instance:X1 Tryz.prog 169 [.int .i64 0,.int .i64 0]:=⟨aPv⟩
instance:X1 Tryz.prog 171 [.int .i64 0,.int .i64 0,.int .i64 0]:=⟨aQ4⟩
instance:X1 Tryz.prog 174 [.string ⟨#[]⟩,.int .i64 0,.int .i64 0,.slice none 0 0,.slice none 0 0]:=⟨Qd⟩
instance:X1 Tryz.prog 190 [.string ⟨#[]⟩,.int .i64 0]:=⟨Px⟩
instance:X1 Tryz.prog 203 [.int .i64 0,.slice none 0 0,.bool false,.slice none 0 0]:=⟨Sd⟩
instance:X1 Tryz.prog 215 [.string ⟨#[]⟩,.int .i64 0,.int .i64 0,.slice none 0 0,.slice none 0 0,.string ⟨#[]⟩,.int .i64 0,.int .i64 0,.slice none 0 0,.slice none 0 0,.string ⟨#[]⟩,.int .i64 0,.int .i64 0,.slice none 0 0,.slice none 0 0,.string ⟨#[]⟩,.int .i64 0,.int .i64 0,.slice none 0 0,.slice none 0 0,.string ⟨#[]⟩,.int .i64 0,.int .i64 0,.slice none 0 0,.slice none 0 0,.string ⟨#[]⟩,.int .i64 0,.int .i64 0,.slice none 0 0,.slice none 0 0,.string ⟨#[]⟩,.int .i64 0,.int .i64 0,.slice none 0 0,.slice none 0 0,.string ⟨#[]⟩,.int .i64 0,.int .i64 0,.slice none 0 0,.slice none 0 0,.string ⟨#[]⟩,.int .i64 0,.int .i64 0,.slice none 0 0,.slice none 0 0,.string ⟨#[]⟩,.int .i64 0,.int .i64 0,.slice none 0 0,.slice none 0 0,.string ⟨#[]⟩,.int .i64 0,.int .i64 0,.slice none 0 0,.slice none 0 0,.string ⟨#[]⟩,.int .i64 0,.int .i64 0,.slice none 0 0,.slice none 0 0,.string ⟨#[]⟩,.int .i64 0,.int .i64 0,.slice none 0 0,.slice none 0 0,.string ⟨#[]⟩,.int .i64 0,.int .i64 0,.slice none 0 0,.slice none 0 0,.string ⟨#[]⟩,.int .i64 0,.int .i64 0,.slice none 0 0,.slice none 0 0,.string ⟨#[]⟩,.int .i64 0,.int .i64 0,.slice none 0 0,.slice none 0 0,.string ⟨#[]⟩,.int .i64 0,.int .i64 0,.slice none 0 0,.slice none 0 0,.string ⟨#[]⟩,.int .i64 0,.int .i64 0,.slice none 0 0,.slice none 0 0,.string ⟨#[]⟩,.int .i64 0,.int .i64 0,.slice none 0 0,.slice none 0 0,.string ⟨#[]⟩,.int .i64 0,.int .i64 0,.slice none 0 0,.slice none 0 0,.string ⟨#[]⟩,.int .i64 0,.int .i64 0,.slice none 0 0,.slice none 0 0,.string ⟨#[]⟩,.int .i64 0,.int .i64 0,.slice none 0 0,.slice none 0 0,.string ⟨#[]⟩,.int .i64 0,.int .i64 0,.slice none 0 0,.slice none 0 0]:=⟨aP6⟩
instance:X1 Tryz.prog 217 [.int .i64 0,.int .i64 0]:=⟨zG⟩
instance:X1 Tryz.prog 218 [.int .i64 0,.int .i64 0,.int .i64 0,.int .i64 0,.int .i64 0,.int .i64 0,.int .i64 0,.int .i64 0,.int .i64 0,.int .i64 0]:=⟨aOz⟩
instance:X1 Tryz.prog 219 [.int .u64 0]:=⟨aSm⟩
instance:X1 Tryz.prog 22 [.slice none 0 0]:=⟨z22⟩
instance:X1 Tryz.prog 29 [.string ⟨#[]⟩,.int .i64 0,.int .i64 0,.slice none 0 0,.bool false,.slice none 0 0,.slice none 0 0,.slice none 0 0,.bool false]:=⟨z29⟩
instance:X1 Tryz.prog 3 [.int .i64 0]:=⟨z3⟩
instance:X1 Tryz.prog 33 [.slice none 0 0]:=⟨z33⟩
instance:X1 Tryz.prog 34 [.int .i64 0]:=⟨z34⟩
instance:X1 Tryz.prog 38 [.int .i64 0,.int .i64 0]:=⟨kM⟩
instance:X1 Tryz.prog 40 [.int .i64 0,.int .i64 0,.int .i64 0,.slice none 0 0]:=⟨z40⟩
instance:X1 Tryz.prog 45 [.int .i64 0,.int .i64 0]:=⟨rV⟩
instance:X1 Tryz.prog 47 [.int .i64 0,.string ⟨#[]⟩,.int .i64 0,.int .i64 0,.int .i64 0,.int .i64 0,.int .i64 0,.int .i64 0,.int .i64 0,.int .i64 0,.int .i64 0,.int .i64 0]:=⟨jB⟩
instance:X1 Tryz.prog 5 [.int .u8 0]:=⟨z5⟩
instance:X1 Tryz.prog 67 [.slice none 0 0,.slice none 0 0]:=⟨z67⟩
instance:X1 Tryz.prog 70 [.slice none 0 0,.int .i64 0]:=⟨z70⟩
instance:X1 Tryz.prog 78 [.int .i64 0,.int .i64 0,.int .i64 0,.string ⟨#[]⟩,.int .i64 0,.int .i64 0,.slice none 0 0]:=⟨z78⟩
instance:X1 Tryz.prog 83 [.bool false,.int .i64 0,.int .i64 0,.int .i64 0,.int .i64 0,.int .i64 0]:=⟨z83⟩
instance:X1 Tryz.prog 89 [.int .i64 0,.int .i64 0,.int .i64 0,.slice none 0 0]:=⟨z89⟩
instance:X1 Tryz.prog 9 [.string ⟨#[]⟩]:=⟨z9⟩
instance:X1 Tryz.prog 91 [.slice none 0 0,.int .i64 0]:=⟨z91⟩
instance:P0 Ad.enc 2:=⟨Ad.enc_len⟩
instance:P0 Ao.enc 2:=⟨Ao.enc_len⟩
instance:P0 Be.enc 2:=⟨Be.enc_len⟩
instance:P0 Ae.enc 15:=⟨Ae.enc_len⟩
instance:P0 Al.enc 4:=⟨Al.enc_len⟩
instance:P0 Ac.enc 9:=⟨Ac.enc_len⟩
instance:P0 Ap.enc 2:=⟨Ap.enc_len⟩
instance:P0 Aa.enc 4:=⟨Aa.enc_len⟩
instance:P0 Az.enc 12:=⟨Az.enc_len⟩
instance:P0 Aw.enc 6:=⟨Aw.enc_len⟩
instance:P0 Bl.enc 2:=⟨Bl.enc_len⟩
instance:P0 Bk.enc 2:=⟨Bk.enc_len⟩
instance:P0 H6.enc 2:=⟨H6.enc_len⟩
instance:P0 Ah.enc 7:=⟨Ah.enc_len⟩
instance:P0 Cc.enc 2:=⟨Cc.enc_len⟩
instance:P0 Co.enc 5:=⟨Co.enc_len⟩
instance:P0 Cl.enc 11:=⟨Cl.enc_len⟩
instance:P0 Ab.enc 4:=⟨Ab.enc_len⟩
instance:P0 Au.enc 2:=⟨Au.enc_len⟩
instance:FlC Ao.enc:=⟨fun x c hc=>by simp only [Ao.enc,aF2,aF6,aQe] at hc; rcases hc with rfl | rfl <;> rfl⟩
instance:FlC Be.enc:=⟨fun x c hc=>by simp only [Be.enc,aF2,aF6,aQe] at hc; rcases hc with rfl | rfl <;> rfl⟩
instance:FlC Ap.enc:=⟨fun x c hc=>by simp only [Ap.enc,aF2,aF6,aQe] at hc; rcases hc with rfl | rfl <;> rfl⟩
instance:FlC Az.enc:=⟨fun x c hc=>by simp only [Az.enc,aF2,aF6,aQe] at hc; rcases hc with rfl | rfl | rfl | rfl | rfl | rfl | rfl | rfl | rfl | rfl | rfl | rfl <;> rfl⟩
instance:FlC Aw.enc:=⟨fun x c hc=>by simp only [Aw.enc,aF2,aF6,aQe] at hc; rcases hc with rfl | rfl | rfl | rfl | rfl | rfl <;> rfl⟩
instance:FlC Bl.enc:=⟨fun x c hc=>by simp only [Bl.enc,aF2,aF6,aQe] at hc; rcases hc with rfl | rfl <;> rfl⟩
instance:FlC H6.enc:=⟨fun x c hc=>by simp only [H6.enc,aF2,aF6,aQe] at hc; rcases hc with rfl | rfl <;> rfl⟩
instance:FlC Au.enc:=⟨fun x c hc=>by simp only [Au.enc,aF2,aF6,aQe] at hc; rcases hc with rfl | rfl <;> rfl⟩
instance:Xm Tryz.prog 3 (.int .i64):=⟨aNo⟩
instance:Xm Tryz.prog 4 (.bool):=⟨aSl⟩
instance:Xm Tryz.prog 5 (.int .u8):=⟨aKz⟩
instance:Xm Tryz.prog 9 (.string):=⟨aRo⟩
instance:Xm Tryz.prog 22 (.slice 3):=⟨aJh⟩
instance:Xm Tryz.prog 59 (.int .u16):=⟨aRg⟩
instance:Xm Tryz.prog 60 (.int .u64):=⟨aQ5⟩
instance:Xm Tryz.prog 154 (.slice 5):=⟨aDe⟩
instance:Xm Tryz.prog 169 (.array 2 34):=⟨uW⟩
instance:Xm Tryz.prog 171 (.array 3 34):=⟨vX⟩
instance:Xm Tryz.prog 186 (.int .u32):=⟨aJ6⟩
instance:Xm Tryz.prog 188 (.int .u64):=⟨aA8⟩
instance:Xm Tryz.prog 215 (.array 23 174):=⟨vY⟩
instance:Xm Tryz.prog 217 (.array 2 3):=⟨Vb⟩
instance:Xm Tryz.prog 218 (.array 5 217):=⟨uG⟩
instance:Xm Tryz.prog 219 (.int .u64):=⟨aNc⟩
end Go.Proofs.YtobamahlipiakaaGreat
