import Derived.Test.YtkoflhimdenjaaaGreatEH
import Derived.Test.YtkoflhimdenjaaaGreatP1
import Derived.Test.YtkoflhimdenjaaaGreatProg
set_option linter.unusedVariables false
set_option linter.unusedSimpArgs false
set_option maxRecDepth 100000
set_option maxHeartbeats 1600000
namespace Go.Proofs.YtkoflhimdenjaaaGreat
open Go.RowKit
abbrev Ah.dv (x:Ah):List DV:=[.sl 1 (As eI x.L),.val (.int .i64 x.At)]
def Ah.enc (x:Ah):List C:=[.sl 1 (As eI x.L),.int .i64 x.At]
theorem Ah.enc_len (x:Ah):(Ah.enc x).length=2:=rfl
abbrev Ar.dv (x:Ar):List DV:=[.val (.int .i64 x.Alg),.val (.int .i64 x.Bits)]
def Ar.enc (x:Ar):List C:=[.int .i64 x.Alg,.int .i64 x.Bits]
theorem Ar.enc_len (x:Ar):(Ar.enc x).length=2:=rfl
abbrev Er.dv (x:Er):List DV:=[.val (.int .i64 x.Key),.val (.int .i64 x.Sum)]
def Er.enc (x:Er):List C:=[.int .i64 x.Key,.int .i64 x.Sum]
theorem Er.enc_len (x:Er):(Er.enc x).length=2:=rfl
abbrev Ae.dv (x:Ae):List DV:=[.val (.int .i64 x.Serial),.val (.string x.Issuer),.val (.string x.Subject),.val (.int .i64 x.Key.Alg),.val (.int .i64 x.Key.Bits),.val (.int .i64 x.KeyId),.val (.int .i64 x.Hash.Alg),.val (.int .i64 x.Hash.Bits),.val (.int .i64 x.From),.val (.int .i64 x.To),.val (.bool x.Authority),.val (.int .i64 x.Path),.sl 1 (As eS x.Names),.val (.int .i64 x.Seal.Key),.val (.int .i64 x.Seal.Sum)]
def Ae.enc (x:Ae):List C:=[.int .i64 x.Serial,.str x.Issuer,.str x.Subject,.int .i64 x.Key.Alg,.int .i64 x.Key.Bits,.int .i64 x.KeyId,.int .i64 x.Hash.Alg,.int .i64 x.Hash.Bits,.int .i64 x.From,.int .i64 x.To,.bool x.Authority,.int .i64 x.Path,.sl 1 (As eS x.Names),.int .i64 x.Seal.Key,.int .i64 x.Seal.Sum]
theorem Ae.enc_len (x:Ae):(Ae.enc x).length=15:=rfl
abbrev Am.dv (x:Am):List DV:=[.val (.int .i64 x.Key.Alg),.val (.int .i64 x.Key.Bits),.val (.int .i64 x.KeyId),.sl 15 (As Ae.enc x.Chain)]
def Am.enc (x:Am):List C:=[.int .i64 x.Key.Alg,.int .i64 x.Key.Bits,.int .i64 x.KeyId,.sl 15 (As Ae.enc x.Chain)]
theorem Am.enc_len (x:Am):(Am.enc x).length=4:=rfl
abbrev Af.dv (x:Af):List DV:=[.val (.string x.Name),.val (.int .i64 x.Least),.val (.int .i64 x.Most),.sl 1 (As eI x.Suites),.val (.bool x.OwnOrder),.sl 4 (As Am.enc x.Identities),.sl 1 (As eI x.Anchors),.sl 1 (As eI x.Hashes),.val (.bool x.Fallback)]
def Af.enc (x:Af):List C:=[.str x.Name,.int .i64 x.Least,.int .i64 x.Most,.sl 1 (As eI x.Suites),.bool x.OwnOrder,.sl 4 (As Am.enc x.Identities),.sl 1 (As eI x.Anchors),.sl 1 (As eI x.Hashes),.bool x.Fallback]
abbrev Af.ec (x:Af):List C:=[.str x.Name,.int .i64 x.Least,.int .i64 x.Most,.sl 1 (As eI x.Suites),.bool x.OwnOrder,.sl 4 (As Am.enc x.Identities),.sl 1 (As eI x.Anchors),.sl 1 (As eI x.Hashes),.bool x.Fallback]
theorem Af.enc_len (x:Af):(Af.enc x).length=9:=rfl
abbrev Bq.dv (x:Bq):List DV:=[.val (.int .i64 x.Client),.val (.int .i64 x.Server)]
def Bq.enc (x:Bq):List C:=[.int .i64 x.Client,.int .i64 x.Server]
theorem Bq.enc_len (x:Bq):(Bq.enc x).length=2:=rfl
abbrev Co.dv (x:Co):List DV:=[.val (.int .i64 x.Use.Alg),.val (.int .i64 x.Use.Bits),.val (.int .i64 x.Day)]
def Co.enc (x:Co):List C:=[.int .i64 x.Use.Alg,.int .i64 x.Use.Bits,.int .i64 x.Day]
theorem Co.enc_len (x:Co):(Co.enc x).length=3:=rfl
abbrev Cf.dv (x:Cf):List DV:=[.val (.string x.Name),.val (.int .i64 x.Kind),.val (.int .i64 x.Purpose),.sl 3 (As Co.enc x.Links),.val (.int .i64 x.Until)]
def Cf.enc (x:Cf):List C:=[.str x.Name,.int .i64 x.Kind,.int .i64 x.Purpose,.sl 3 (As Co.enc x.Links),.int .i64 x.Until]
theorem Cf.enc_len (x:Cf):(Cf.enc x).length=5:=rfl
abbrev Bb.dv (x:Bb):List DV:=[.sl 9 (As Af.enc x.Endpoints),.sl 2 (As Bq.enc x.Edges),.sl 5 (As Cf.enc x.Items)]
def Bb.enc (x:Bb):List C:=[.sl 9 (As Af.enc x.Endpoints),.sl 2 (As Bq.enc x.Edges),.sl 5 (As Cf.enc x.Items)]
theorem Bb.enc_len (x:Bb):(Bb.enc x).length=3:=rfl
abbrev A7.dv (x:A7):List DV:=[.val (.int .i64 x.Endpoint),.val (.int .i64 x.Kind),.val (.int .i64 x.Number),.val (.int .i64 x.At),.val (.int .i64 x.Identity.Key.Alg),.val (.int .i64 x.Identity.Key.Bits),.val (.int .i64 x.Identity.KeyId),.sl 15 (As Ae.enc x.Identity.Chain)]
def A7.enc (x:A7):List C:=[.int .i64 x.Endpoint,.int .i64 x.Kind,.int .i64 x.Number,.int .i64 x.At,.int .i64 x.Identity.Key.Alg,.int .i64 x.Identity.Key.Bits,.int .i64 x.Identity.KeyId,.sl 15 (As Ae.enc x.Identity.Chain)]
theorem A7.enc_len (x:A7):(A7.enc x).length=8:=rfl
abbrev Aa.dv (x:Aa):List DV:=[.val (.int .i64 x.Source),.val (.string x.Host),.val (.int .i64 x.Machine),.val (.int .i64 x.Day),.val (.int .i64 x.Confidence),.val (.int .i64 x.Kind),.val (.string x.Subject),.val (.int .i64 x.Use.Alg),.val (.int .i64 x.Use.Bits),.val (.int .i64 x.Number),.val (.string x.Text)]
def Aa.enc (x:Aa):List C:=[.int .i64 x.Source,.str x.Host,.int .i64 x.Machine,.int .i64 x.Day,.int .i64 x.Confidence,.int .i64 x.Kind,.str x.Subject,.int .i64 x.Use.Alg,.int .i64 x.Use.Bits,.int .i64 x.Number,.str x.Text]
abbrev Aa.ec (x:Aa):List C:=[.int .i64 x.Source,.str x.Host,.int .i64 x.Machine,.int .i64 x.Day,.int .i64 x.Confidence,.int .i64 x.Kind,.str x.Subject,.int .i64 x.Use.Alg,.int .i64 x.Use.Bits,.int .i64 x.Number,.str x.Text]
theorem Aa.enc_len (x:Aa):(Aa.enc x).length=11:=rfl
abbrev Au.dv (x:Au):List DV:=[.val (.string x.name),.val (.int .i64 x.kind)]
def Au.enc (x:Au):List C:=[.str x.name,.int .i64 x.kind]
theorem Au.enc_len (x:Au):(Au.enc x).length=2:=rfl
mutual
def Ai.enc:Ai->List C
 | ⟨Tag,Bytes,Nested,Elements⟩=>[.int .i64 Tag,.sl 1 (As e8 Bytes),.bool Nested,.sl 4 (Ai.encs Elements)]
def Ai.encs:List Ai->List C
 | []=>[]
 | x :: l=>Ai.enc x ++ Ai.encs l
end
theorem Ai.encs_eq:∀ (l:List Ai),Ai.encs l=As Ai.enc l
 | []=>rfl
 | x :: l=>by
  show Ai.enc x ++ Ai.encs l=Ai.enc x ++ As Ai.enc l
  rw [Ai.encs_eq l]
theorem Ai.enc_eq (x:Ai):Ai.enc x=[.int .i64 x.Tag,.sl 1 (As e8 x.Bytes),.bool x.Nested,.sl 4 (As Ai.enc x.Elements)]:=by
 cases x
 simp only [Ai.enc,Ai.encs_eq]
theorem Ai.enc_len (x:Ai):(Ai.enc x).length=4:=by rw [Ai.enc_eq]; rfl
abbrev Ai.dv (x:Ai):List DV:=[.val (.int .i64 x.Tag),.sl 1 (As e8 x.Bytes),.val (.bool x.Nested),.sl 4 (As Ai.enc x.Elements)]
abbrev A4.dv (x:A4):List DV:=[.val (.int .i64 x.Code),.val (.string x.Name),.val (.int .i64 x.Exchange.Alg),.val (.int .i64 x.Exchange.Bits),.val (.int .i64 x.Sign.Alg),.val (.int .i64 x.Sign.Bits),.val (.int .i64 x.Cipher.Alg),.val (.int .i64 x.Cipher.Bits),.val (.int .i64 x.Mac.Alg),.val (.int .i64 x.Mac.Bits),.val (.int .i64 x.Least),.val (.int .i64 x.Most)]
def A4.enc (x:A4):List C:=[.int .i64 x.Code,.str x.Name,.int .i64 x.Exchange.Alg,.int .i64 x.Exchange.Bits,.int .i64 x.Sign.Alg,.int .i64 x.Sign.Bits,.int .i64 x.Cipher.Alg,.int .i64 x.Cipher.Bits,.int .i64 x.Mac.Alg,.int .i64 x.Mac.Bits,.int .i64 x.Least,.int .i64 x.Most]
theorem A4.enc_len (x:A4):(A4.enc x).length=12:=rfl
abbrev D1.dv (x:D1):List DV:=[.val (.int .i64 x.at_.Source),.val (.string x.at_.Host),.val (.int .i64 x.at_.Machine),.val (.int .i64 x.at_.Day),.val (.int .i64 x.at_.Confidence),.val (.int .i64 x.at_.Kind),.val (.string x.at_.Subject),.val (.int .i64 x.at_.Use.Alg),.val (.int .i64 x.at_.Use.Bits),.val (.int .i64 x.at_.Number),.val (.string x.at_.Text),.sl 11 (As Aa.enc x.l)]
def D1.enc (x:D1):List C:=[.int .i64 x.at_.Source,.str x.at_.Host,.int .i64 x.at_.Machine,.int .i64 x.at_.Day,.int .i64 x.at_.Confidence,.int .i64 x.at_.Kind,.str x.at_.Subject,.int .i64 x.at_.Use.Alg,.int .i64 x.at_.Use.Bits,.int .i64 x.at_.Number,.str x.at_.Text,.sl 11 (As Aa.enc x.l)]
theorem D1.enc_len (x:D1):(D1.enc x).length=12:=rfl
abbrev Cc.dv (x:Cc):List DV:=[.val (.string x.name),.val (.int .i64 x.kind),.val (.int .i64 x.way),.sl 1 (As eI x.sizes),.sl 1 (As eI x.strengths)]
def Cc.enc (x:Cc):List C:=[.str x.name,.int .i64 x.kind,.int .i64 x.way,.sl 1 (As eI x.sizes),.sl 1 (As eI x.strengths)]
theorem Cc.enc_len (x:Cc):(Cc.enc x).length=5:=rfl
abbrev Dq.dv (x:Dq):List DV:=[.val (.string x.host),.val (.int .i64 x.day),.val (.int .i64 x.kind),.val (.int .i64 x.use.Alg),.val (.int .i64 x.use.Bits),.val (.int .i64 x.number),.val (.string x.text)]
def Dq.enc (x:Dq):List C:=[.str x.host,.int .i64 x.day,.int .i64 x.kind,.int .i64 x.use.Alg,.int .i64 x.use.Bits,.int .i64 x.number,.str x.text]
theorem Dq.enc_len (x:Dq):(Dq.enc x).length=7:=rfl
theorem Ye:Tryz.prog.underlying 3=some (.int .i64):=by kernel_rfl
theorem aD4:Tryz.prog.underlying 4=some (.bool):=by kernel_rfl
theorem Yw:Tryz.prog.underlying 5=some (.int .u8):=by kernel_rfl
theorem S4:Tryz.prog.underlying 9=some (.string):=by kernel_rfl
theorem Xz:Tryz.prog.underlying 31=some (.struct ((match Tryz.prog.underlying 31 with | some (.struct f)=>f | _=>#[]))):=by kernel_rfl
theorem Kv:Tryz.prog.underlying 34=some (.struct ((match Tryz.prog.underlying 34 with | some (.struct f)=>f | _=>#[]))):=by kernel_rfl
theorem cM:Tryz.prog.underlying 37=some (.struct ((match Tryz.prog.underlying 37 with | some (.struct f)=>f | _=>#[]))):=by kernel_rfl
theorem cP:Tryz.prog.underlying 39=some (.struct ((match Tryz.prog.underlying 39 with | some (.struct f)=>f | _=>#[]))):=by kernel_rfl
theorem Qo:Tryz.prog.underlying 43=some (.struct ((match Tryz.prog.underlying 43 with | some (.struct f)=>f | _=>#[]))):=by kernel_rfl
theorem S7:Tryz.prog.underlying 48=some (.struct ((match Tryz.prog.underlying 48 with | some (.struct f)=>f | _=>#[]))):=by kernel_rfl
theorem aEy:Tryz.prog.underlying 50=some (.slice 48):=by kernel_rfl
theorem tO:Tryz.prog.underlying 71=some (.struct ((match Tryz.prog.underlying 71 with | some (.struct f)=>f | _=>#[]))):=by kernel_rfl
theorem mW:Tryz.prog.underlying 78=some (.struct ((match Tryz.prog.underlying 78 with | some (.struct f)=>f | _=>#[]))):=by kernel_rfl
theorem dK:Tryz.prog.underlying 81=some (.struct ((match Tryz.prog.underlying 81 with | some (.struct f)=>f | _=>#[]))):=by kernel_rfl
theorem aFq:Tryz.prog.underlying 91=some (.struct ((match Tryz.prog.underlying 91 with | some (.struct f)=>f | _=>#[]))):=by kernel_rfl
theorem gJ:Tryz.prog.underlying 109=some (.struct ((match Tryz.prog.underlying 109 with | some (.struct f)=>f | _=>#[]))):=by kernel_rfl
theorem Lu:Tryz.prog.underlying 111=some (.struct ((match Tryz.prog.underlying 111 with | some (.struct f)=>f | _=>#[]))):=by kernel_rfl
theorem lS:Tryz.prog.underlying 115=some (.struct ((match Tryz.prog.underlying 115 with | some (.struct f)=>f | _=>#[]))):=by kernel_rfl
theorem kL:Tryz.prog.underlying 126=some (.struct ((match Tryz.prog.underlying 126 with | some (.struct f)=>f | _=>#[]))):=by kernel_rfl
theorem kT:Tryz.prog.underlying 146=some (.slice 5):=by kernel_rfl
theorem Jh:Tryz.prog.underlying 152=some (.struct ((match Tryz.prog.underlying 152 with | some (.struct f)=>f | _=>#[]))):=by kernel_rfl
theorem R5:Tryz.prog.underlying 170=some (.struct ((match Tryz.prog.underlying 170 with | some (.struct f)=>f | _=>#[]))):=by kernel_rfl
theorem rQ:Tryz.prog.underlying 172=some (.int .u32):=by kernel_rfl
theorem H5:Tryz.prog.underlying 176=some (.struct ((match Tryz.prog.underlying 176 with | some (.struct f)=>f | _=>#[]))):=by kernel_rfl
theorem lZ:Tryz.prog.underlying 192=some (.int .u64):=by kernel_rfl
theorem G0:Tryz.prog.underlying 215=some (.struct ((match Tryz.prog.underlying 215 with | some (.struct f)=>f | _=>#[]))):=by kernel_rfl
theorem aAw:Tryz.prog.underlying 228=some (.int .u64):=by kernel_rfl
theorem qM:Tryz.prog.underlying 233=some (.array 23 215):=by kernel_rfl
theorem aDg:Tryz.prog.underlying 237=some (.int .u64):=by kernel_rfl
theorem Vd:Tryz.prog.underlying 243=some (.array 2 3):=by kernel_rfl
theorem tP:Tryz.prog.underlying 244=some (.array 5 243):=by kernel_rfl
theorem xP:Fd Tryz.prog 109 0 0 3:=⟨_,(match Tryz.prog.underlying 109 with | some (.struct f)=>f | _=>#[])[0]!,gJ,by kernel_rfl,by kernel_rfl,by kernel_rfl⟩
theorem wT:Fd Tryz.prog 109 1 1 3:=⟨_,(match Tryz.prog.underlying 109 with | some (.struct f)=>f | _=>#[])[1]!,gJ,by kernel_rfl,by kernel_rfl,by kernel_rfl⟩
theorem xK:Fd Tryz.prog 111 0 0 3:=⟨_,(match Tryz.prog.underlying 111 with | some (.struct f)=>f | _=>#[])[0]!,Lu,by kernel_rfl,by kernel_rfl,by kernel_rfl⟩
theorem wB:Fd Tryz.prog 111 1 1 9:=⟨_,(match Tryz.prog.underlying 111 with | some (.struct f)=>f | _=>#[])[1]!,Lu,by kernel_rfl,by kernel_rfl,by kernel_rfl⟩
theorem tK:Fd Tryz.prog 111 10 12 72:=⟨_,(match Tryz.prog.underlying 111 with | some (.struct f)=>f | _=>#[])[10]!,Lu,by kernel_rfl,by kernel_rfl,by kernel_rfl⟩
theorem tI:Fd Tryz.prog 111 11 13 109:=⟨_,(match Tryz.prog.underlying 111 with | some (.struct f)=>f | _=>#[])[11]!,Lu,by kernel_rfl,by kernel_rfl,by kernel_rfl⟩
theorem xS:Fd Tryz.prog 111 2 2 9:=⟨_,(match Tryz.prog.underlying 111 with | some (.struct f)=>f | _=>#[])[2]!,Lu,by kernel_rfl,by kernel_rfl,by kernel_rfl⟩
theorem eQ:Fd Tryz.prog 111 3 3 34:=⟨_,(match Tryz.prog.underlying 111 with | some (.struct f)=>f | _=>#[])[3]!,Lu,by kernel_rfl,by kernel_rfl,by kernel_rfl⟩
theorem dP:Fd Tryz.prog 111 4 5 3:=⟨_,(match Tryz.prog.underlying 111 with | some (.struct f)=>f | _=>#[])[4]!,Lu,by kernel_rfl,by kernel_rfl,by kernel_rfl⟩
theorem vR:Fd Tryz.prog 111 5 6 34:=⟨_,(match Tryz.prog.underlying 111 with | some (.struct f)=>f | _=>#[])[5]!,Lu,by kernel_rfl,by kernel_rfl,by kernel_rfl⟩
theorem yG:Fd Tryz.prog 111 6 8 3:=⟨_,(match Tryz.prog.underlying 111 with | some (.struct f)=>f | _=>#[])[6]!,Lu,by kernel_rfl,by kernel_rfl,by kernel_rfl⟩
theorem xO:Fd Tryz.prog 111 7 9 3:=⟨_,(match Tryz.prog.underlying 111 with | some (.struct f)=>f | _=>#[])[7]!,Lu,by kernel_rfl,by kernel_rfl,by kernel_rfl⟩
theorem vT:Fd Tryz.prog 111 8 10 4:=⟨_,(match Tryz.prog.underlying 111 with | some (.struct f)=>f | _=>#[])[8]!,Lu,by kernel_rfl,by kernel_rfl,by kernel_rfl⟩
theorem wZ:Fd Tryz.prog 111 9 11 3:=⟨_,(match Tryz.prog.underlying 111 with | some (.struct f)=>f | _=>#[])[9]!,Lu,by kernel_rfl,by kernel_rfl,by kernel_rfl⟩
theorem mJ:Fd Tryz.prog 115 0 0 34:=⟨_,(match Tryz.prog.underlying 115 with | some (.struct f)=>f | _=>#[])[0]!,lS,by kernel_rfl,by kernel_rfl,by kernel_rfl⟩
theorem Ru:Fd Tryz.prog 115 1 2 3:=⟨_,(match Tryz.prog.underlying 115 with | some (.struct f)=>f | _=>#[])[1]!,lS,by kernel_rfl,by kernel_rfl,by kernel_rfl⟩
theorem wL:Fd Tryz.prog 126 0 0 48:=⟨_,(match Tryz.prog.underlying 126 with | some (.struct f)=>f | _=>#[])[0]!,kL,by kernel_rfl,by kernel_rfl,by kernel_rfl⟩
theorem yE:Fd Tryz.prog 126 1 11 50:=⟨_,(match Tryz.prog.underlying 126 with | some (.struct f)=>f | _=>#[])[1]!,kL,by kernel_rfl,by kernel_rfl,by kernel_rfl⟩
theorem xU:Fd Tryz.prog 152 0 0 3:=⟨_,(match Tryz.prog.underlying 152 with | some (.struct f)=>f | _=>#[])[0]!,Jh,by kernel_rfl,by kernel_rfl,by kernel_rfl⟩
theorem vV:Fd Tryz.prog 170 0 0 3:=⟨_,(match Tryz.prog.underlying 170 with | some (.struct f)=>f | _=>#[])[0]!,R5,by kernel_rfl,by kernel_rfl,by kernel_rfl⟩
theorem wJ:Fd Tryz.prog 170 1 1 146:=⟨_,(match Tryz.prog.underlying 170 with | some (.struct f)=>f | _=>#[])[1]!,R5,by kernel_rfl,by kernel_rfl,by kernel_rfl⟩
theorem wF:Fd Tryz.prog 170 2 2 4:=⟨_,(match Tryz.prog.underlying 170 with | some (.struct f)=>f | _=>#[])[2]!,R5,by kernel_rfl,by kernel_rfl,by kernel_rfl⟩
theorem wQ:Fd Tryz.prog 170 3 3 168:=⟨_,(match Tryz.prog.underlying 170 with | some (.struct f)=>f | _=>#[])[3]!,R5,by kernel_rfl,by kernel_rfl,by kernel_rfl⟩
theorem nQ:Fd Tryz.prog 176 1 1 3:=⟨_,(match Tryz.prog.underlying 176 with | some (.struct f)=>f | _=>#[])[1]!,H5,by kernel_rfl,by kernel_rfl,by kernel_rfl⟩
theorem yC:Fd Tryz.prog 215 1 1 3:=⟨_,(match Tryz.prog.underlying 215 with | some (.struct f)=>f | _=>#[])[1]!,G0,by kernel_rfl,by kernel_rfl,by kernel_rfl⟩
theorem vO:Fd Tryz.prog 215 2 2 3:=⟨_,(match Tryz.prog.underlying 215 with | some (.struct f)=>f | _=>#[])[2]!,G0,by kernel_rfl,by kernel_rfl,by kernel_rfl⟩
theorem wY:Fd Tryz.prog 215 3 3 22:=⟨_,(match Tryz.prog.underlying 215 with | some (.struct f)=>f | _=>#[])[3]!,G0,by kernel_rfl,by kernel_rfl,by kernel_rfl⟩
theorem yZ:Fd Tryz.prog 215 4 4 22:=⟨_,(match Tryz.prog.underlying 215 with | some (.struct f)=>f | _=>#[])[4]!,G0,by kernel_rfl,by kernel_rfl,by kernel_rfl⟩
theorem aAz:Fd Tryz.prog 31 0 0 27:=⟨_,(match Tryz.prog.underlying 31 with | some (.struct f)=>f | _=>#[])[0]!,Xz,by kernel_rfl,by kernel_rfl,by kernel_rfl⟩
theorem aAx:Fd Tryz.prog 31 1 1 28:=⟨_,(match Tryz.prog.underlying 31 with | some (.struct f)=>f | _=>#[])[1]!,Xz,by kernel_rfl,by kernel_rfl,by kernel_rfl⟩
theorem aCp:Fd Tryz.prog 31 2 2 29:=⟨_,(match Tryz.prog.underlying 31 with | some (.struct f)=>f | _=>#[])[2]!,Xz,by kernel_rfl,by kernel_rfl,by kernel_rfl⟩
theorem aC5:Fd Tryz.prog 34 0 0 3:=⟨_,(match Tryz.prog.underlying 34 with | some (.struct f)=>f | _=>#[])[0]!,Kv,by kernel_rfl,by kernel_rfl,by kernel_rfl⟩
theorem aBf:Fd Tryz.prog 34 1 1 3:=⟨_,(match Tryz.prog.underlying 34 with | some (.struct f)=>f | _=>#[])[1]!,Kv,by kernel_rfl,by kernel_rfl,by kernel_rfl⟩
theorem rZ:Fd Tryz.prog 37 0 0 34:=⟨_,(match Tryz.prog.underlying 37 with | some (.struct f)=>f | _=>#[])[0]!,cM,by kernel_rfl,by kernel_rfl,by kernel_rfl⟩
theorem lX:Fd Tryz.prog 37 1 2 3:=⟨_,(match Tryz.prog.underlying 37 with | some (.struct f)=>f | _=>#[])[1]!,cM,by kernel_rfl,by kernel_rfl,by kernel_rfl⟩
theorem qU:Fd Tryz.prog 37 2 3 35:=⟨_,(match Tryz.prog.underlying 37 with | some (.struct f)=>f | _=>#[])[2]!,cM,by kernel_rfl,by kernel_rfl,by kernel_rfl⟩
theorem aD2:Fd Tryz.prog 39 0 0 3:=⟨_,(match Tryz.prog.underlying 39 with | some (.struct f)=>f | _=>#[])[0]!,cP,by kernel_rfl,by kernel_rfl,by kernel_rfl⟩
theorem aCz:Fd Tryz.prog 39 1 1 3:=⟨_,(match Tryz.prog.underlying 39 with | some (.struct f)=>f | _=>#[])[1]!,cP,by kernel_rfl,by kernel_rfl,by kernel_rfl⟩
theorem aAn:Fd Tryz.prog 39 2 2 3:=⟨_,(match Tryz.prog.underlying 39 with | some (.struct f)=>f | _=>#[])[2]!,cP,by kernel_rfl,by kernel_rfl,by kernel_rfl⟩
theorem aBz:Fd Tryz.prog 39 3 3 3:=⟨_,(match Tryz.prog.underlying 39 with | some (.struct f)=>f | _=>#[])[3]!,cP,by kernel_rfl,by kernel_rfl,by kernel_rfl⟩
theorem aC2:Fd Tryz.prog 39 4 4 37:=⟨_,(match Tryz.prog.underlying 39 with | some (.struct f)=>f | _=>#[])[4]!,cP,by kernel_rfl,by kernel_rfl,by kernel_rfl⟩
theorem kG:Fd Tryz.prog 43 0 0 9:=⟨_,(match Tryz.prog.underlying 43 with | some (.struct f)=>f | _=>#[])[0]!,Qo,by kernel_rfl,by kernel_rfl,by kernel_rfl⟩
theorem aA1:Fd Tryz.prog 43 1 1 3:=⟨_,(match Tryz.prog.underlying 43 with | some (.struct f)=>f | _=>#[])[1]!,Qo,by kernel_rfl,by kernel_rfl,by kernel_rfl⟩
theorem aB9:Fd Tryz.prog 43 2 2 3:=⟨_,(match Tryz.prog.underlying 43 with | some (.struct f)=>f | _=>#[])[2]!,Qo,by kernel_rfl,by kernel_rfl,by kernel_rfl⟩
theorem aCy:Fd Tryz.prog 43 3 3 22:=⟨_,(match Tryz.prog.underlying 43 with | some (.struct f)=>f | _=>#[])[3]!,Qo,by kernel_rfl,by kernel_rfl,by kernel_rfl⟩
theorem aDc:Fd Tryz.prog 43 4 4 4:=⟨_,(match Tryz.prog.underlying 43 with | some (.struct f)=>f | _=>#[])[4]!,Qo,by kernel_rfl,by kernel_rfl,by kernel_rfl⟩
theorem aCq:Fd Tryz.prog 43 5 5 41:=⟨_,(match Tryz.prog.underlying 43 with | some (.struct f)=>f | _=>#[])[5]!,Qo,by kernel_rfl,by kernel_rfl,by kernel_rfl⟩
theorem aCd:Fd Tryz.prog 43 6 6 22:=⟨_,(match Tryz.prog.underlying 43 with | some (.struct f)=>f | _=>#[])[6]!,Qo,by kernel_rfl,by kernel_rfl,by kernel_rfl⟩
theorem aD1:Fd Tryz.prog 43 7 7 22:=⟨_,(match Tryz.prog.underlying 43 with | some (.struct f)=>f | _=>#[])[7]!,Qo,by kernel_rfl,by kernel_rfl,by kernel_rfl⟩
theorem aC7:Fd Tryz.prog 43 8 8 4:=⟨_,(match Tryz.prog.underlying 43 with | some (.struct f)=>f | _=>#[])[8]!,Qo,by kernel_rfl,by kernel_rfl,by kernel_rfl⟩
theorem aB0:Fd Tryz.prog 48 0 0 3:=⟨_,(match Tryz.prog.underlying 48 with | some (.struct f)=>f | _=>#[])[0]!,S7,by kernel_rfl,by kernel_rfl,by kernel_rfl⟩
theorem aCh:Fd Tryz.prog 48 1 1 9:=⟨_,(match Tryz.prog.underlying 48 with | some (.struct f)=>f | _=>#[])[1]!,S7,by kernel_rfl,by kernel_rfl,by kernel_rfl⟩
theorem aDf:Fd Tryz.prog 48 2 2 3:=⟨_,(match Tryz.prog.underlying 48 with | some (.struct f)=>f | _=>#[])[2]!,S7,by kernel_rfl,by kernel_rfl,by kernel_rfl⟩
theorem sP:Fd Tryz.prog 48 3 3 3:=⟨_,(match Tryz.prog.underlying 48 with | some (.struct f)=>f | _=>#[])[3]!,S7,by kernel_rfl,by kernel_rfl,by kernel_rfl⟩
theorem aCv:Fd Tryz.prog 48 4 4 3:=⟨_,(match Tryz.prog.underlying 48 with | some (.struct f)=>f | _=>#[])[4]!,S7,by kernel_rfl,by kernel_rfl,by kernel_rfl⟩
theorem aEa:Fd Tryz.prog 48 5 5 3:=⟨_,(match Tryz.prog.underlying 48 with | some (.struct f)=>f | _=>#[])[5]!,S7,by kernel_rfl,by kernel_rfl,by kernel_rfl⟩
theorem aD0:Fd Tryz.prog 48 6 6 9:=⟨_,(match Tryz.prog.underlying 48 with | some (.struct f)=>f | _=>#[])[6]!,S7,by kernel_rfl,by kernel_rfl,by kernel_rfl⟩
theorem sY:Fd Tryz.prog 48 7 7 34:=⟨_,(match Tryz.prog.underlying 48 with | some (.struct f)=>f | _=>#[])[7]!,S7,by kernel_rfl,by kernel_rfl,by kernel_rfl⟩
theorem uY:Fd Tryz.prog 48 8 9 3:=⟨_,(match Tryz.prog.underlying 48 with | some (.struct f)=>f | _=>#[])[8]!,S7,by kernel_rfl,by kernel_rfl,by kernel_rfl⟩
theorem aDb:Fd Tryz.prog 48 9 10 9:=⟨_,(match Tryz.prog.underlying 48 with | some (.struct f)=>f | _=>#[])[9]!,S7,by kernel_rfl,by kernel_rfl,by kernel_rfl⟩
theorem aEc:Fd Tryz.prog 71 0 0 22:=⟨_,(match Tryz.prog.underlying 71 with | some (.struct f)=>f | _=>#[])[0]!,tO,by kernel_rfl,by kernel_rfl,by kernel_rfl⟩
theorem aEd:Fd Tryz.prog 71 1 1 3:=⟨_,(match Tryz.prog.underlying 71 with | some (.struct f)=>f | _=>#[])[1]!,tO,by kernel_rfl,by kernel_rfl,by kernel_rfl⟩
theorem jY:Fd Tryz.prog 78 0 0 3:=⟨_,(match Tryz.prog.underlying 78 with | some (.struct f)=>f | _=>#[])[0]!,mW,by kernel_rfl,by kernel_rfl,by kernel_rfl⟩
theorem uF:Fd Tryz.prog 78 1 1 3:=⟨_,(match Tryz.prog.underlying 78 with | some (.struct f)=>f | _=>#[])[1]!,mW,by kernel_rfl,by kernel_rfl,by kernel_rfl⟩
theorem aCi:Fd Tryz.prog 81 0 0 9:=⟨_,(match Tryz.prog.underlying 81 with | some (.struct f)=>f | _=>#[])[0]!,dK,by kernel_rfl,by kernel_rfl,by kernel_rfl⟩
theorem aCj:Fd Tryz.prog 81 1 1 3:=⟨_,(match Tryz.prog.underlying 81 with | some (.struct f)=>f | _=>#[])[1]!,dK,by kernel_rfl,by kernel_rfl,by kernel_rfl⟩
theorem aBa:Fd Tryz.prog 81 2 2 3:=⟨_,(match Tryz.prog.underlying 81 with | some (.struct f)=>f | _=>#[])[2]!,dK,by kernel_rfl,by kernel_rfl,by kernel_rfl⟩
theorem aDj:Fd Tryz.prog 81 3 3 79:=⟨_,(match Tryz.prog.underlying 81 with | some (.struct f)=>f | _=>#[])[3]!,dK,by kernel_rfl,by kernel_rfl,by kernel_rfl⟩
theorem aDx:Fd Tryz.prog 81 4 4 3:=⟨_,(match Tryz.prog.underlying 81 with | some (.struct f)=>f | _=>#[])[4]!,dK,by kernel_rfl,by kernel_rfl,by kernel_rfl⟩
theorem aAa:((match Tryz.prog.underlying 109 with | some (.struct f)=>f | _=>#[]):Array Field).toList.map (fun f=>(Tryz.prog.info? f.type).map fun i=>(f.offset,i.size))=[(0,1),(1,1)].map some:=by kernel_rfl
theorem aAi:((match Tryz.prog.underlying 111 with | some (.struct f)=>f | _=>#[]):Array Field).toList.map (fun f=>(Tryz.prog.info? f.type).map fun i=>(f.offset,i.size))=[(0,1),(1,1),(2,1),(3,2),(5,1),(6,2),(8,1),(9,1),(10,1),(11,1),(12,1),(13,2)].map some:=by kernel_rfl
theorem aF1:((match Tryz.prog.underlying 115 with | some (.struct f)=>f | _=>#[]):Array Field).toList.map (fun f=>(Tryz.prog.info? f.type).map fun i=>(f.offset,i.size))=[(0,2),(2,1)].map some:=by kernel_rfl
theorem aGg:((match Tryz.prog.underlying 126 with | some (.struct f)=>f | _=>#[]):Array Field).toList.map (fun f=>(Tryz.prog.info? f.type).map fun i=>(f.offset,i.size))=[(0,11),(11,1)].map some:=by kernel_rfl
theorem Lt:((match Tryz.prog.underlying 152 with | some (.struct f)=>f | _=>#[]):Array Field).toList.map (fun f=>(Tryz.prog.info? f.type).map fun i=>(f.offset,i.size))=[(0,1),(1,1),(2,2),(4,2),(6,2),(8,2),(10,1),(11,1)].map some:=by kernel_rfl
theorem hG:((match Tryz.prog.underlying 170 with | some (.struct f)=>f | _=>#[]):Array Field).toList.map (fun f=>(Tryz.prog.info? f.type).map fun i=>(f.offset,i.size))=[(0,1),(1,1),(2,1),(3,1)].map some:=by kernel_rfl
theorem Ku:((match Tryz.prog.underlying 176 with | some (.struct f)=>f | _=>#[]):Array Field).toList.map (fun f=>(Tryz.prog.info? f.type).map fun i=>(f.offset,i.size))=[(0,1),(1,1)].map some:=by kernel_rfl
theorem Kt:((match Tryz.prog.underlying 215 with | some (.struct f)=>f | _=>#[]):Array Field).toList.map (fun f=>(Tryz.prog.info? f.type).map fun i=>(f.offset,i.size))=[(0,1),(1,1),(2,1),(3,1),(4,1)].map some:=by kernel_rfl
theorem sC:((match Tryz.prog.underlying 31 with | some (.struct f)=>f | _=>#[]):Array Field).toList.map (fun f=>(Tryz.prog.info? f.type).map fun i=>(f.offset,i.size))=[(0,1),(1,1),(2,1)].map some:=by kernel_rfl
theorem Qd:((match Tryz.prog.underlying 34 with | some (.struct f)=>f | _=>#[]):Array Field).toList.map (fun f=>(Tryz.prog.info? f.type).map fun i=>(f.offset,i.size))=[(0,1),(1,1)].map some:=by kernel_rfl
theorem aEh:((match Tryz.prog.underlying 37 with | some (.struct f)=>f | _=>#[]):Array Field).toList.map (fun f=>(Tryz.prog.info? f.type).map fun i=>(f.offset,i.size))=[(0,2),(2,1),(3,1)].map some:=by kernel_rfl
theorem aHv:((match Tryz.prog.underlying 39 with | some (.struct f)=>f | _=>#[]):Array Field).toList.map (fun f=>(Tryz.prog.info? f.type).map fun i=>(f.offset,i.size))=[(0,1),(1,1),(2,1),(3,1),(4,4)].map some:=by kernel_rfl
theorem xB:((match Tryz.prog.underlying 43 with | some (.struct f)=>f | _=>#[]):Array Field).toList.map (fun f=>(Tryz.prog.info? f.type).map fun i=>(f.offset,i.size))=[(0,1),(1,1),(2,1),(3,1),(4,1),(5,1),(6,1),(7,1),(8,1)].map some:=by kernel_rfl
theorem aIr:((match Tryz.prog.underlying 48 with | some (.struct f)=>f | _=>#[]):Array Field).toList.map (fun f=>(Tryz.prog.info? f.type).map fun i=>(f.offset,i.size))=[(0,1),(1,1),(2,1),(3,1),(4,1),(5,1),(6,1),(7,2),(9,1),(10,1)].map some:=by kernel_rfl
theorem aIj:((match Tryz.prog.underlying 71 with | some (.struct f)=>f | _=>#[]):Array Field).toList.map (fun f=>(Tryz.prog.info? f.type).map fun i=>(f.offset,i.size))=[(0,1),(1,1)].map some:=by kernel_rfl
theorem aE3:((match Tryz.prog.underlying 78 with | some (.struct f)=>f | _=>#[]):Array Field).toList.map (fun f=>(Tryz.prog.info? f.type).map fun i=>(f.offset,i.size))=[(0,1),(1,1)].map some:=by kernel_rfl
theorem aI1:((match Tryz.prog.underlying 81 with | some (.struct f)=>f | _=>#[]):Array Field).toList.map (fun f=>(Tryz.prog.info? f.type).map fun i=>(f.offset,i.size))=[(0,1),(1,1),(2,1),(3,1),(4,1)].map some:=by kernel_rfl
theorem aIe:((match Tryz.prog.underlying 91 with | some (.struct f)=>f | _=>#[]):Array Field).toList.map (fun f=>(Tryz.prog.info? f.type).map fun i=>(f.offset,i.size))=[(0,1),(1,1),(2,1),(3,2),(5,1),(6,1)].map some:=by kernel_rfl
theorem L6:Iu Tryz.prog 146 5 1 1:=Iu.mk' (z:=(.int .u8 0)) (by kernel_rfl) (by kernel_rfl) rfl (by decide) (by decide)
theorem bI:Iu Tryz.prog 168 170 4 64:=Iu.mk' (z:=(.agg #[.int .i64 0,.slice none 0 0,.bool false,.slice none 0 0])) (by kernel_rfl) (by kernel_rfl) rfl (by decide) (by decide)
theorem sJ:Iu Tryz.prog 173 152 12 104:=Iu.mk' (z:=(.agg #[.int .i64 0,.string ⟨#[]⟩,.int .i64 0,.int .i64 0,.int .i64 0,.int .i64 0,.int .i64 0,.int .i64 0,.int .i64 0,.int .i64 0,.int .i64 0,.int .i64 0])) (by kernel_rfl) (by kernel_rfl) rfl (by decide) (by decide)
theorem aAe:Iu Tryz.prog 177 176 2 24:=Iu.mk' (z:=(.agg #[.string ⟨#[]⟩,.int .i64 0])) (by kernel_rfl) (by kernel_rfl) rfl (by decide) (by decide)
theorem P2:Iu Tryz.prog 199 194 1 8:=Iu.mk' (z:=(.nilFunc)) (by kernel_rfl) (by kernel_rfl) rfl (by decide) (by decide)
theorem F0:Iu Tryz.prog 22 3 1 8:=Iu.mk' (z:=(.int .i64 0)) (by kernel_rfl) (by kernel_rfl) rfl (by decide) (by decide)
theorem oU:Iu Tryz.prog 27 43 9 144:=Iu.mk' (z:=(.agg #[.string ⟨#[]⟩,.int .i64 0,.int .i64 0,.slice none 0 0,.bool false,.slice none 0 0,.slice none 0 0,.slice none 0 0,.bool false])) (by kernel_rfl) (by kernel_rfl) rfl (by decide) (by decide)
theorem tF:Iu Tryz.prog 28 78 2 16:=Iu.mk' (z:=(.agg #[.int .i64 0,.int .i64 0])) (by kernel_rfl) (by kernel_rfl) rfl (by decide) (by decide)
theorem sH:Iu Tryz.prog 29 81 5 64:=Iu.mk' (z:=(.agg #[.string ⟨#[]⟩,.int .i64 0,.int .i64 0,.slice none 0 0,.int .i64 0])) (by kernel_rfl) (by kernel_rfl) rfl (by decide) (by decide)
theorem yN:Iu Tryz.prog 35 111 15 152:=Iu.mk' (z:=(.agg #[.int .i64 0,.string ⟨#[]⟩,.string ⟨#[]⟩,.int .i64 0,.int .i64 0,.int .i64 0,.int .i64 0,.int .i64 0,.int .i64 0,.int .i64 0,.bool false,.int .i64 0,.slice none 0 0,.int .i64 0,.int .i64 0])) (by kernel_rfl) (by kernel_rfl) rfl (by decide) (by decide)
theorem Vu:Iu Tryz.prog 41 37 4 48:=Iu.mk' (z:=(.agg #[.int .i64 0,.int .i64 0,.int .i64 0,.slice none 0 0])) (by kernel_rfl) (by kernel_rfl) rfl (by decide) (by decide)
theorem Ue:Iu Tryz.prog 50 48 11 112:=Iu.mk' (z:=(.agg #[.int .i64 0,.string ⟨#[]⟩,.int .i64 0,.int .i64 0,.int .i64 0,.int .i64 0,.string ⟨#[]⟩,.int .i64 0,.int .i64 0,.int .i64 0,.string ⟨#[]⟩])) (by kernel_rfl) (by kernel_rfl) rfl (by decide) (by decide)
theorem Yd:Iu Tryz.prog 72 9 1 16:=Iu.mk' (z:=(.string ⟨#[]⟩)) (by kernel_rfl) (by kernel_rfl) rfl (by decide) (by decide)
theorem aFe:Iu Tryz.prog 74 22 1 24:=Iu.mk' (z:=(.slice none 0 0)) (by kernel_rfl) (by kernel_rfl) rfl (by decide) (by decide)
theorem wO:Iu Tryz.prog 79 115 3 24:=Iu.mk' (z:=(.agg #[.int .i64 0,.int .i64 0,.int .i64 0])) (by kernel_rfl) (by kernel_rfl) rfl (by decide) (by decide)
theorem aA8:Iu Tryz.prog 84 34 2 16:=Iu.mk' (z:=(.agg #[.int .i64 0,.int .i64 0])) (by kernel_rfl) (by kernel_rfl) rfl (by decide) (by decide)
theorem aGu:Ty Tryz.prog 109 true 2:=⟨by kernel_rfl,by kernel_rfl⟩
theorem aFx:Ty Tryz.prog 111 true 15:=⟨by kernel_rfl,by kernel_rfl⟩
theorem aGz:Ty Tryz.prog 146 false 1:=⟨by kernel_rfl,by kernel_rfl⟩
theorem aGa:Ty Tryz.prog 152 true 12:=⟨by kernel_rfl,by kernel_rfl⟩
theorem aEv:Ty Tryz.prog 168 false 1:=⟨by kernel_rfl,by kernel_rfl⟩
theorem gR:Ty Tryz.prog 170 true 4:=⟨by kernel_rfl,by kernel_rfl⟩
theorem M5:Ty Tryz.prog 193 false 1:=⟨by kernel_rfl,by kernel_rfl⟩
theorem Sd:Ty Tryz.prog 194 false 1:=⟨by kernel_rfl,by kernel_rfl⟩
theorem Zo:Ty Tryz.prog 196 false 1:=⟨by kernel_rfl,by kernel_rfl⟩
theorem zV:Ty Tryz.prog 215 true 5:=⟨by kernel_rfl,by kernel_rfl⟩
theorem aGr:Ty Tryz.prog 22 false 1:=⟨by kernel_rfl,by kernel_rfl⟩
theorem aGd:Ty Tryz.prog 233 true 115:=⟨by kernel_rfl,by kernel_rfl⟩
theorem aE8:Ty Tryz.prog 237 false 1:=⟨by kernel_rfl,by kernel_rfl⟩
theorem zS:Ty Tryz.prog 243 true 2:=⟨by kernel_rfl,by kernel_rfl⟩
theorem aI5:Ty Tryz.prog 27 false 1:=⟨by kernel_rfl,by kernel_rfl⟩
theorem aHq:Ty Tryz.prog 28 false 1:=⟨by kernel_rfl,by kernel_rfl⟩
theorem aHz:Ty Tryz.prog 29 false 1:=⟨by kernel_rfl,by kernel_rfl⟩
theorem Sq:Ty Tryz.prog 3 false 1:=⟨by kernel_rfl,by kernel_rfl⟩
theorem aI2:Ty Tryz.prog 31 true 3:=⟨by kernel_rfl,by kernel_rfl⟩
theorem Zy:Ty Tryz.prog 34 true 2:=⟨by kernel_rfl,by kernel_rfl⟩
theorem aDp:Ty Tryz.prog 35 false 1:=⟨by kernel_rfl,by kernel_rfl⟩
theorem aH1:Ty Tryz.prog 37 true 4:=⟨by kernel_rfl,by kernel_rfl⟩
theorem aIg:Ty Tryz.prog 39 true 8:=⟨by kernel_rfl,by kernel_rfl⟩
theorem ty4:Ty Tryz.prog 4 false 1:=⟨by kernel_rfl,by kernel_rfl⟩
theorem aH8:Ty Tryz.prog 41 false 1:=⟨by kernel_rfl,by kernel_rfl⟩
theorem aE4:Ty Tryz.prog 43 true 9:=⟨by kernel_rfl,by kernel_rfl⟩
theorem My:Ty Tryz.prog 48 true 11:=⟨by kernel_rfl,by kernel_rfl⟩
theorem ty5:Ty Tryz.prog 5 false 1:=⟨by kernel_rfl,by kernel_rfl⟩
theorem aH7:Ty Tryz.prog 50 false 1:=⟨by kernel_rfl,by kernel_rfl⟩
theorem aEg:Ty Tryz.prog 58 false 1:=⟨by kernel_rfl,by kernel_rfl⟩
theorem aIw:Ty Tryz.prog 72 false 1:=⟨by kernel_rfl,by kernel_rfl⟩
theorem aH5:Ty Tryz.prog 78 true 2:=⟨by kernel_rfl,by kernel_rfl⟩
theorem aIx:Ty Tryz.prog 79 false 1:=⟨by kernel_rfl,by kernel_rfl⟩
theorem aIu:Ty Tryz.prog 81 true 5:=⟨by kernel_rfl,by kernel_rfl⟩
theorem aEt:Ty Tryz.prog 89 false 1:=⟨by kernel_rfl,by kernel_rfl⟩
theorem ty9:Ty Tryz.prog 9 false 1:=⟨by kernel_rfl,by kernel_rfl⟩
theorem aH3:Ty Tryz.prog 91 true 7:=⟨by kernel_rfl,by kernel_rfl⟩
theorem aA0:Zt Tryz.prog 109 [.int .i64 0,.int .i64 0]:=⟨(.agg #[.int .i64 0,.int .i64 0]),by kernel_rfl,rfl,by decide⟩
theorem rI:Zt Tryz.prog 111 [.int .i64 0,.string ⟨#[]⟩,.string ⟨#[]⟩,.int .i64 0,.int .i64 0,.int .i64 0,.int .i64 0,.int .i64 0,.int .i64 0,.int .i64 0,.bool false,.int .i64 0,.slice none 0 0,.int .i64 0,.int .i64 0]:=⟨(.agg #[.int .i64 0,.string ⟨#[]⟩,.string ⟨#[]⟩,.int .i64 0,.int .i64 0,.int .i64 0,.int .i64 0,.int .i64 0,.int .i64 0,.int .i64 0,.bool false,.int .i64 0,.slice none 0 0,.int .i64 0,.int .i64 0]),by kernel_rfl,rfl,by decide⟩
theorem aAr:Zt Tryz.prog 115 [.int .i64 0,.int .i64 0,.int .i64 0]:=⟨(.agg #[.int .i64 0,.int .i64 0,.int .i64 0]),by kernel_rfl,rfl,by decide⟩
theorem aFg:Zt Tryz.prog 126 [.int .i64 0,.string ⟨#[]⟩,.int .i64 0,.int .i64 0,.int .i64 0,.int .i64 0,.string ⟨#[]⟩,.int .i64 0,.int .i64 0,.int .i64 0,.string ⟨#[]⟩,.slice none 0 0]:=⟨(.agg #[.int .i64 0,.string ⟨#[]⟩,.int .i64 0,.int .i64 0,.int .i64 0,.int .i64 0,.string ⟨#[]⟩,.int .i64 0,.int .i64 0,.int .i64 0,.string ⟨#[]⟩,.slice none 0 0]),by kernel_rfl,rfl,by decide⟩
theorem Pv:Zt Tryz.prog 152 [.int .i64 0,.string ⟨#[]⟩,.int .i64 0,.int .i64 0,.int .i64 0,.int .i64 0,.int .i64 0,.int .i64 0,.int .i64 0,.int .i64 0,.int .i64 0,.int .i64 0]:=⟨(.agg #[.int .i64 0,.string ⟨#[]⟩,.int .i64 0,.int .i64 0,.int .i64 0,.int .i64 0,.int .i64 0,.int .i64 0,.int .i64 0,.int .i64 0,.int .i64 0,.int .i64 0]),by kernel_rfl,rfl,by decide⟩
theorem bN:Zt Tryz.prog 170 [.int .i64 0,.slice none 0 0,.bool false,.slice none 0 0]:=⟨(.agg #[.int .i64 0,.slice none 0 0,.bool false,.slice none 0 0]),by kernel_rfl,rfl,by decide⟩
theorem Nj:Zt Tryz.prog 176 [.string ⟨#[]⟩,.int .i64 0]:=⟨(.agg #[.string ⟨#[]⟩,.int .i64 0]),by kernel_rfl,rfl,by decide⟩
theorem aFk:Zt Tryz.prog 194 [.nilFunc]:=⟨(.nilFunc),by kernel_rfl,rfl,by decide⟩
theorem Nz:Zt Tryz.prog 215 [.string ⟨#[]⟩,.int .i64 0,.int .i64 0,.slice none 0 0,.slice none 0 0]:=⟨(.agg #[.string ⟨#[]⟩,.int .i64 0,.int .i64 0,.slice none 0 0,.slice none 0 0]),by kernel_rfl,rfl,by decide⟩
theorem z22:Zt Tryz.prog 22 [.slice none 0 0]:=⟨(.slice none 0 0),by kernel_rfl,rfl,by decide⟩
theorem aGs:Zt Tryz.prog 233 [.string ⟨#[]⟩,.int .i64 0,.int .i64 0,.slice none 0 0,.slice none 0 0,.string ⟨#[]⟩,.int .i64 0,.int .i64 0,.slice none 0 0,.slice none 0 0,.string ⟨#[]⟩,.int .i64 0,.int .i64 0,.slice none 0 0,.slice none 0 0,.string ⟨#[]⟩,.int .i64 0,.int .i64 0,.slice none 0 0,.slice none 0 0,.string ⟨#[]⟩,.int .i64 0,.int .i64 0,.slice none 0 0,.slice none 0 0,.string ⟨#[]⟩,.int .i64 0,.int .i64 0,.slice none 0 0,.slice none 0 0,.string ⟨#[]⟩,.int .i64 0,.int .i64 0,.slice none 0 0,.slice none 0 0,.string ⟨#[]⟩,.int .i64 0,.int .i64 0,.slice none 0 0,.slice none 0 0,.string ⟨#[]⟩,.int .i64 0,.int .i64 0,.slice none 0 0,.slice none 0 0,.string ⟨#[]⟩,.int .i64 0,.int .i64 0,.slice none 0 0,.slice none 0 0,.string ⟨#[]⟩,.int .i64 0,.int .i64 0,.slice none 0 0,.slice none 0 0,.string ⟨#[]⟩,.int .i64 0,.int .i64 0,.slice none 0 0,.slice none 0 0,.string ⟨#[]⟩,.int .i64 0,.int .i64 0,.slice none 0 0,.slice none 0 0,.string ⟨#[]⟩,.int .i64 0,.int .i64 0,.slice none 0 0,.slice none 0 0,.string ⟨#[]⟩,.int .i64 0,.int .i64 0,.slice none 0 0,.slice none 0 0,.string ⟨#[]⟩,.int .i64 0,.int .i64 0,.slice none 0 0,.slice none 0 0,.string ⟨#[]⟩,.int .i64 0,.int .i64 0,.slice none 0 0,.slice none 0 0,.string ⟨#[]⟩,.int .i64 0,.int .i64 0,.slice none 0 0,.slice none 0 0,.string ⟨#[]⟩,.int .i64 0,.int .i64 0,.slice none 0 0,.slice none 0 0,.string ⟨#[]⟩,.int .i64 0,.int .i64 0,.slice none 0 0,.slice none 0 0,.string ⟨#[]⟩,.int .i64 0,.int .i64 0,.slice none 0 0,.slice none 0 0,.string ⟨#[]⟩,.int .i64 0,.int .i64 0,.slice none 0 0,.slice none 0 0,.string ⟨#[]⟩,.int .i64 0,.int .i64 0,.slice none 0 0,.slice none 0 0]:=⟨(.agg #[.string ⟨#[]⟩,.int .i64 0,.int .i64 0,.slice none 0 0,.slice none 0 0,.string ⟨#[]⟩,.int .i64 0,.int .i64 0,.slice none 0 0,.slice none 0 0,.string ⟨#[]⟩,.int .i64 0,.int .i64 0,.slice none 0 0,.slice none 0 0,.string ⟨#[]⟩,.int .i64 0,.int .i64 0,.slice none 0 0,.slice none 0 0,.string ⟨#[]⟩,.int .i64 0,.int .i64 0,.slice none 0 0,.slice none 0 0,.string ⟨#[]⟩,.int .i64 0,.int .i64 0,.slice none 0 0,.slice none 0 0,.string ⟨#[]⟩,.int .i64 0,.int .i64 0,.slice none 0 0,.slice none 0 0,.string ⟨#[]⟩,.int .i64 0,.int .i64 0,.slice none 0 0,.slice none 0 0,.string ⟨#[]⟩,.int .i64 0,.int .i64 0,.slice none 0 0,.slice none 0 0,.string ⟨#[]⟩,.int .i64 0,.int .i64 0,.slice none 0 0,.slice none 0 0,.string ⟨#[]⟩,.int .i64 0,.int .i64 0,.slice none 0 0,.slice none 0 0,.string ⟨#[]⟩,.int .i64 0,.int .i64 0,.slice none 0 0,.slice none 0 0,.string ⟨#[]⟩,.int .i64 0,.int .i64 0,.slice none 0 0,.slice none 0 0,.string ⟨#[]⟩,.int .i64 0,.int .i64 0,.slice none 0 0,.slice none 0 0,.string ⟨#[]⟩,.int .i64 0,.int .i64 0,.slice none 0 0,.slice none 0 0,.string ⟨#[]⟩,.int .i64 0,.int .i64 0,.slice none 0 0,.slice none 0 0,.string ⟨#[]⟩,.int .i64 0,.int .i64 0,.slice none 0 0,.slice none 0 0,.string ⟨#[]⟩,.int .i64 0,.int .i64 0,.slice none 0 0,.slice none 0 0,.string ⟨#[]⟩,.int .i64 0,.int .i64 0,.slice none 0 0,.slice none 0 0,.string ⟨#[]⟩,.int .i64 0,.int .i64 0,.slice none 0 0,.slice none 0 0,.string ⟨#[]⟩,.int .i64 0,.int .i64 0,.slice none 0 0,.slice none 0 0,.string ⟨#[]⟩,.int .i64 0,.int .i64 0,.slice none 0 0,.slice none 0 0,.string ⟨#[]⟩,.int .i64 0,.int .i64 0,.slice none 0 0,.slice none 0 0]),by kernel_rfl,rfl,by decide⟩
theorem aHs:Zt Tryz.prog 237 [.int .u64 0]:=⟨(.int .u64 0),by kernel_rfl,rfl,by decide⟩
theorem pV:Zt Tryz.prog 243 [.int .i64 0,.int .i64 0]:=⟨(.agg #[.int .i64 0,.int .i64 0]),by kernel_rfl,rfl,by decide⟩
theorem aFz:Zt Tryz.prog 244 [.int .i64 0,.int .i64 0,.int .i64 0,.int .i64 0,.int .i64 0,.int .i64 0,.int .i64 0,.int .i64 0,.int .i64 0,.int .i64 0]:=⟨(.agg #[.int .i64 0,.int .i64 0,.int .i64 0,.int .i64 0,.int .i64 0,.int .i64 0,.int .i64 0,.int .i64 0,.int .i64 0,.int .i64 0]),by kernel_rfl,rfl,by decide⟩
theorem z3:Zt Tryz.prog 3 [.int .i64 0]:=⟨(.int .i64 0),by kernel_rfl,rfl,by decide⟩
theorem z31:Zt Tryz.prog 31 [.slice none 0 0,.slice none 0 0,.slice none 0 0]:=⟨(.agg #[.slice none 0 0,.slice none 0 0,.slice none 0 0]),by kernel_rfl,rfl,by decide⟩
theorem X1:Zt Tryz.prog 34 [.int .i64 0,.int .i64 0]:=⟨(.agg #[.int .i64 0,.int .i64 0]),by kernel_rfl,rfl,by decide⟩
theorem z37:Zt Tryz.prog 37 [.int .i64 0,.int .i64 0,.int .i64 0,.slice none 0 0]:=⟨(.agg #[.int .i64 0,.int .i64 0,.int .i64 0,.slice none 0 0]),by kernel_rfl,rfl,by decide⟩
theorem z39:Zt Tryz.prog 39 [.int .i64 0,.int .i64 0,.int .i64 0,.int .i64 0,.int .i64 0,.int .i64 0,.int .i64 0,.slice none 0 0]:=⟨(.agg #[.int .i64 0,.int .i64 0,.int .i64 0,.int .i64 0,.int .i64 0,.int .i64 0,.int .i64 0,.slice none 0 0]),by kernel_rfl,rfl,by decide⟩
theorem z43:Zt Tryz.prog 43 [.string ⟨#[]⟩,.int .i64 0,.int .i64 0,.slice none 0 0,.bool false,.slice none 0 0,.slice none 0 0,.slice none 0 0,.bool false]:=⟨(.agg #[.string ⟨#[]⟩,.int .i64 0,.int .i64 0,.slice none 0 0,.bool false,.slice none 0 0,.slice none 0 0,.slice none 0 0,.bool false]),by kernel_rfl,rfl,by decide⟩
theorem z48:Zt Tryz.prog 48 [.int .i64 0,.string ⟨#[]⟩,.int .i64 0,.int .i64 0,.int .i64 0,.int .i64 0,.string ⟨#[]⟩,.int .i64 0,.int .i64 0,.int .i64 0,.string ⟨#[]⟩]:=⟨(.agg #[.int .i64 0,.string ⟨#[]⟩,.int .i64 0,.int .i64 0,.int .i64 0,.int .i64 0,.string ⟨#[]⟩,.int .i64 0,.int .i64 0,.int .i64 0,.string ⟨#[]⟩]),by kernel_rfl,rfl,by decide⟩
theorem z5:Zt Tryz.prog 5 [.int .u8 0]:=⟨(.int .u8 0),by kernel_rfl,rfl,by decide⟩
theorem z71:Zt Tryz.prog 71 [.slice none 0 0,.int .i64 0]:=⟨(.agg #[.slice none 0 0,.int .i64 0]),by kernel_rfl,rfl,by decide⟩
theorem z78:Zt Tryz.prog 78 [.int .i64 0,.int .i64 0]:=⟨(.agg #[.int .i64 0,.int .i64 0]),by kernel_rfl,rfl,by decide⟩
theorem z81:Zt Tryz.prog 81 [.string ⟨#[]⟩,.int .i64 0,.int .i64 0,.slice none 0 0,.int .i64 0]:=⟨(.agg #[.string ⟨#[]⟩,.int .i64 0,.int .i64 0,.slice none 0 0,.int .i64 0]),by kernel_rfl,rfl,by decide⟩
theorem z89:Zt Tryz.prog 89 [.map none]:=⟨(.map none),by kernel_rfl,rfl,by decide⟩
theorem z9:Zt Tryz.prog 9 [.string ⟨#[]⟩]:=⟨(.string ⟨#[]⟩),by kernel_rfl,rfl,by decide⟩
theorem z91:Zt Tryz.prog 91 [.string ⟨#[]⟩,.int .i64 0,.int .i64 0,.int .i64 0,.int .i64 0,.int .i64 0,.string ⟨#[]⟩]:=⟨(.agg #[.string ⟨#[]⟩,.int .i64 0,.int .i64 0,.int .i64 0,.int .i64 0,.int .i64 0,.string ⟨#[]⟩]),by kernel_rfl,rfl,by decide⟩
theorem aAd:Jz Tryz.prog 20 111=[none,none,none,none,none,none,none,none,none,none,none,none,some 1,none,none]:=by kernel_rfl
theorem aGk:Jz Tryz.prog 20 115=[none,none,none]:=by kernel_rfl
theorem zY:Jz Tryz.prog 20 152=[none,none,none,none,none,none,none,none,none,none,none,none]:=by kernel_rfl
theorem mP:Jz Tryz.prog 20 170=[none,some 1,none,some 4]:=by kernel_rfl
theorem aGi:Jz Tryz.prog 20 176=[none,none]:=by kernel_rfl
theorem aIs:Jz Tryz.prog 20 22=[some 1]:=by kernel_rfl
theorem Oq:Jz Tryz.prog 20 3=[none]:=by kernel_rfl
theorem aFo:Jz Tryz.prog 20 34=[none,none]:=by kernel_rfl
theorem aBo:Jz Tryz.prog 20 37=[none,none,none,some 15]:=by kernel_rfl
theorem aBv:Jz Tryz.prog 20 43=[none,none,none,some 1,none,some 4,some 1,some 1,none]:=by kernel_rfl
theorem K1:Jz Tryz.prog 20 48=[none,none,none,none,none,none,none,none,none,none,none]:=by kernel_rfl
theorem vI:Jz Tryz.prog 20 5=[none]:=by kernel_rfl
theorem aF4:Jz Tryz.prog 20 78=[none,none]:=by kernel_rfl
theorem aE0:Jz Tryz.prog 20 81=[none,none,none,some 3,none]:=by kernel_rfl
theorem ck9:Jz Tryz.prog 20 9=[none]:=by kernel_rfl
theorem aIt (s:ByteArray) (c:UInt8) (w:World):(callFunc 212 [.string s,.int .u8 (c.toNat:Int)].toArray).run Tryz.prog w=.ok (.value (.int .i64 (dS s c))) w:=vG Tryz.func212 rfl rfl (by kernel_rfl) (by kernel_rfl) s c w
theorem aH2 (a b:ByteArray) (w:World):(callFunc 211 [.string a,.string b].toArray).run Tryz.prog w=.ok (.value (.int .i64 (pU a b))) w:=uJ Tryz.func211 rfl rfl (by kernel_rfl) (by kernel_rfl) a b w
theorem aFy:Tryz.prog.eqGuardType Tryz.prog.depth 109=false:=by kernel_rfl
theorem aFv:Tryz.prog.underlying 109=some (.struct (Tryz.prog.fieldsOf 109)):=by kernel_rfl
theorem aGf:Tryz.prog.stoodInHeld 109=false:=by kernel_rfl
theorem aHc (x y:Er) (w:World):(Op.equalIn 10000 109 (.agg #[.int .i64 x.Key,.int .i64 x.Sum]) (.agg #[.int .i64 y.Key,.int .i64 y.Sum])).run Tryz.prog w=.ok (decide (x=y)) w:=by
 have u3:=Tryz.underlying3
 have a3:=Tryz.isAgg3
 have z3:=Tryz.sizeOf3
 rw [show (10000:Nat)=9999 + 1 from rfl,run_equalIn_agg w 9999 109 _ _ aFv aGf]
 simp only [Program.fieldsOf,Tryz.underlying109]
 go_simp
 rcases x with ⟨x0,x1⟩
 rcases y with ⟨y0,y1⟩
 by_cases h0:x0=y0 <;> by_cases h1:x1=y1 <;> simp [h0,h1]
theorem jP (x y:Er) {X Y:Operand} {tk:Nat} {yt ty:TypeId} {b1 b2:Option LB}:Ft Tryz.prog tk (.binOp .neq 109 X Y yt) ty [(.agg [.val (.int .i64 x.Key),.val (.int .i64 x.Sum)],b1),(.agg [.val (.int .i64 y.Key),.val (.int .i64 y.Sum)],b2)] [] (v0 (.val (.bool (!decide (x=y))))):=
 .binOpA rfl rfl (fun _ _=>rfl) (fun w=>by
  rw [Sem.run_bind,run_eqGuard_agg w _ 109 X Y _ _ aFy]
  simp only [Result.andThen_ok,run_neq_struct]
  exact congrArg (fun r=>Result.andThen r _) (aHc x y w))
theorem aFd:Tryz.prog.eqGuardType Tryz.prog.depth 34=false:=by kernel_rfl
theorem aBw:Tryz.prog.underlying 34=some (.struct (Tryz.prog.fieldsOf 34)):=by kernel_rfl
theorem aB6:Tryz.prog.stoodInHeld 34=false:=by kernel_rfl
theorem aHd (x y:Ar) (w:World):(Op.equalIn 10000 34 (.agg #[.int .i64 x.Alg,.int .i64 x.Bits]) (.agg #[.int .i64 y.Alg,.int .i64 y.Bits])).run Tryz.prog w=.ok (decide (x=y)) w:=by
 have u3:=Tryz.underlying3
 have a3:=Tryz.isAgg3
 have z3:=Tryz.sizeOf3
 rw [show (10000:Nat)=9999 + 1 from rfl,run_equalIn_agg w 9999 34 _ _ aBw aB6]
 simp only [Program.fieldsOf,Tryz.underlying34]
 go_simp
 rcases x with ⟨x0,x1⟩
 rcases y with ⟨y0,y1⟩
 by_cases h0:x0=y0 <;> by_cases h1:x1=y1 <;> simp [h0,h1]
theorem Pl (x y:Ar) {X Y:Operand} {tk:Nat} {yt ty:TypeId} {b1 b2:Option LB}:Ft Tryz.prog tk (.binOp .eql 34 X Y yt) ty [(.agg [.val (.int .i64 x.Alg),.val (.int .i64 x.Bits)],b1),(.agg [.val (.int .i64 y.Alg),.val (.int .i64 y.Bits)],b2)] [] (v0 (.val (.bool (decide (x=y))))):=
 .binOpA rfl rfl (fun _ _=>rfl) (fun w=>by
  rw [Sem.run_bind,run_eqGuard_agg w _ 34 X Y _ _ aFd]
  simp only [Result.andThen_ok,run_eql_struct]
  exact congrArg (fun r=>Result.andThen r _) (aHd x y w))
theorem U9 (x y:Ar) {X Y:Operand} {tk:Nat} {yt ty:TypeId} {b1 b2:Option LB}:Ft Tryz.prog tk (.binOp .neq 34 X Y yt) ty [(.agg [.val (.int .i64 x.Alg),.val (.int .i64 x.Bits)],b1),(.agg [.val (.int .i64 y.Alg),.val (.int .i64 y.Bits)],b2)] [] (v0 (.val (.bool (!decide (x=y))))):=
 .binOpA rfl rfl (fun _ _=>rfl) (fun w=>by
  rw [Sem.run_bind,run_eqGuard_agg w _ 34 X Y _ _ aFd]
  simp only [Result.andThen_ok,run_neq_struct]
  exact congrArg (fun r=>Result.andThen r _) (aHd x y w))
theorem aF2:Tryz.prog.eqGuardType Tryz.prog.depth 48=false:=by kernel_rfl
theorem aIf:Tryz.prog.underlying 48=some (.struct (Tryz.prog.fieldsOf 48)):=by kernel_rfl
theorem aHw:Tryz.prog.stoodInHeld 48=false:=by kernel_rfl
theorem aFc (x y:Aa) (w:World):(Op.equalIn 10000 48 (.agg #[.int .i64 x.Source,.string x.Host,.int .i64 x.Machine,.int .i64 x.Day,.int .i64 x.Confidence,.int .i64 x.Kind,.string x.Subject,.int .i64 x.Use.Alg,.int .i64 x.Use.Bits,.int .i64 x.Number,.string x.Text]) (.agg #[.int .i64 y.Source,.string y.Host,.int .i64 y.Machine,.int .i64 y.Day,.int .i64 y.Confidence,.int .i64 y.Kind,.string y.Subject,.int .i64 y.Use.Alg,.int .i64 y.Use.Bits,.int .i64 y.Number,.string y.Text])).run Tryz.prog w=.ok (decide (x=y)) w:=by
 have u3:=Tryz.underlying3
 have a3:=Tryz.isAgg3
 have z3:=Tryz.sizeOf3
 have u9:=Tryz.underlying9
 have a9:=Tryz.isAgg9
 have z9:=Tryz.sizeOf9
 have u34:=Tryz.underlying34
 have a34:=Tryz.isAgg34
 have X1:=Tryz.sizeOf34
 have f34:=aBw
 have h34:=aB6
 rw [show (10000:Nat)=9999 + 1 from rfl,run_equalIn_agg w 9999 48 _ _ aIf aHw]
 simp only [Program.fieldsOf,Tryz.underlying48]
 go_simp
 rcases x with ⟨x0,x1,x2,x3,x4,x5,x6,⟨x7,x8⟩,x9,x10⟩
 rcases y with ⟨y0,y1,y2,y3,y4,y5,y6,⟨y7,y8⟩,y9,y10⟩
 simp only [Z1]
 by_cases q0:¬ x0=y0
 ·simp [q0]
 rw [aIl] at q0
 subst q0
 by_cases q1:¬ x1=y1
 ·simp [q1]
 rw [aIl] at q1
 subst q1
 by_cases q2:¬ x2=y2
 ·simp [q2]
 rw [aIl] at q2
 subst q2
 by_cases q3:¬ x3=y3
 ·simp [q3]
 rw [aIl] at q3
 subst q3
 by_cases q4:¬ x4=y4
 ·simp [q4]
 rw [aIl] at q4
 subst q4
 by_cases q5:¬ x5=y5
 ·simp [q5]
 rw [aIl] at q5
 subst q5
 by_cases q6:¬ x6=y6
 ·simp [q6]
 rw [aIl] at q6
 subst q6
 by_cases q7:¬ x7=y7
 ·simp [q7]
 rw [aIl] at q7
 subst q7
 by_cases q8:¬ x8=y8
 ·simp [q8]
 rw [aIl] at q8
 subst q8
 by_cases q9:¬ x9=y9
 ·simp [q9]
 rw [aIl] at q9
 subst q9
 by_cases q10:¬ x10=y10
 ·simp [q10]
 rw [aIl] at q10
 subst q10
 simp
theorem lD (x y:Aa) {X Y:Operand} {tk:Nat} {yt ty:TypeId} {b1 b2:Option LB}:Ft Tryz.prog tk (.binOp .eql 48 X Y yt) ty [(.agg [.val (.int .i64 x.Source),.val (.string x.Host),.val (.int .i64 x.Machine),.val (.int .i64 x.Day),.val (.int .i64 x.Confidence),.val (.int .i64 x.Kind),.val (.string x.Subject),.val (.int .i64 x.Use.Alg),.val (.int .i64 x.Use.Bits),.val (.int .i64 x.Number),.val (.string x.Text)],b1),(.agg [.val (.int .i64 y.Source),.val (.string y.Host),.val (.int .i64 y.Machine),.val (.int .i64 y.Day),.val (.int .i64 y.Confidence),.val (.int .i64 y.Kind),.val (.string y.Subject),.val (.int .i64 y.Use.Alg),.val (.int .i64 y.Use.Bits),.val (.int .i64 y.Number),.val (.string y.Text)],b2)] [] (v0 (.val (.bool (decide (x=y))))):=
 .binOpA rfl rfl (fun _ _=>rfl) (fun w=>by
  rw [Sem.run_bind,run_eqGuard_agg w _ 48 X Y _ _ aF2]
  simp only [Result.andThen_ok,run_eql_struct]
  exact congrArg (fun r=>Result.andThen r _) (aFc x y w))
theorem kD (x y:Aa) {X Y:Operand} {tk:Nat} {yt ty:TypeId} {b1 b2:Option LB}:Ft Tryz.prog tk (.binOp .neq 48 X Y yt) ty [(.agg [.val (.int .i64 x.Source),.val (.string x.Host),.val (.int .i64 x.Machine),.val (.int .i64 x.Day),.val (.int .i64 x.Confidence),.val (.int .i64 x.Kind),.val (.string x.Subject),.val (.int .i64 x.Use.Alg),.val (.int .i64 x.Use.Bits),.val (.int .i64 x.Number),.val (.string x.Text)],b1),(.agg [.val (.int .i64 y.Source),.val (.string y.Host),.val (.int .i64 y.Machine),.val (.int .i64 y.Day),.val (.int .i64 y.Confidence),.val (.int .i64 y.Kind),.val (.string y.Subject),.val (.int .i64 y.Use.Alg),.val (.int .i64 y.Use.Bits),.val (.int .i64 y.Number),.val (.string y.Text)],b2)] [] (v0 (.val (.bool (!decide (x=y))))):=
 .binOpA rfl rfl (fun _ _=>rfl) (fun w=>by
  rw [Sem.run_bind,run_eqGuard_agg w _ 48 X Y _ _ aF2]
  simp only [Result.andThen_ok,run_neq_struct]
  exact congrArg (fun r=>Result.andThen r _) (aFc x y w))
theorem aG8:Tryz.prog.underlying 91=some (.struct (Tryz.prog.fieldsOf 91)):=by kernel_rfl
theorem aIv:Tryz.prog.stoodInHeld 91=false:=by kernel_rfl
theorem aIo (x y:Dq) (w:World):(Op.equalIn 10000 91 (.agg #[.string x.host,.int .i64 x.day,.int .i64 x.kind,.int .i64 x.use.Alg,.int .i64 x.use.Bits,.int .i64 x.number,.string x.text]) (.agg #[.string y.host,.int .i64 y.day,.int .i64 y.kind,.int .i64 y.use.Alg,.int .i64 y.use.Bits,.int .i64 y.number,.string y.text])).run Tryz.prog w=.ok (decide (x=y)) w:=by
 have u3:=Tryz.underlying3
 have a3:=Tryz.isAgg3
 have z3:=Tryz.sizeOf3
 have u9:=Tryz.underlying9
 have a9:=Tryz.isAgg9
 have z9:=Tryz.sizeOf9
 have u34:=Tryz.underlying34
 have a34:=Tryz.isAgg34
 have X1:=Tryz.sizeOf34
 have f34:=aBw
 have h34:=aB6
 rw [show (10000:Nat)=9999 + 1 from rfl,run_equalIn_agg w 9999 91 _ _ aG8 aIv]
 simp only [Program.fieldsOf,Tryz.underlying91]
 go_simp
 rcases x with ⟨x0,x1,x2,⟨x3,x4⟩,x5,x6⟩
 rcases y with ⟨y0,y1,y2,⟨y3,y4⟩,y5,y6⟩
 simp only [Z1]
 by_cases q0:¬ x0=y0
 ·simp [q0]
 rw [aIl] at q0
 subst q0
 by_cases q1:¬ x1=y1
 ·simp [q1]
 rw [aIl] at q1
 subst q1
 by_cases q2:¬ x2=y2
 ·simp [q2]
 rw [aIl] at q2
 subst q2
 by_cases q3:¬ x3=y3
 ·simp [q3]
 rw [aIl] at q3
 subst q3
 by_cases q4:¬ x4=y4
 ·simp [q4]
 rw [aIl] at q4
 subst q4
 by_cases q5:¬ x5=y5
 ·simp [q5]
 rw [aIl] at q5
 subst q5
 by_cases q6:¬ x6=y6
 ·simp [q6]
 rw [aIl] at q6
 subst q6
 simp
theorem uM:Tryz.prog.underlying 89=some (.map 91 4):=by kernel_rfl
abbrev Va (x:Dq):Value:=.agg #[.string x.host,.int .i64 x.day,.int .i64 x.kind,.int .i64 x.use.Alg,.int .i64 x.use.Bits,.int .i64 x.number,.string x.text]
theorem zv4 (w:World):(zeroValue 4).run Tryz.prog w=.ok (.bool false) w:=aEs (by kernel_rfl) w
theorem rL:gF Tryz.prog 91 Va:=aIh (by kernel_rfl) (fun x=>⟨_,rfl⟩) (fun e x w=>sO aG8 (by
 simp only [Program.fieldsOf,Tryz.underlying91]
 intro f hf
 simp at hf
 rcases hf with rfl | rfl | rfl | rfl | rfl | rfl
 ·exact .inl ⟨by kernel_rfl,_,rfl⟩
 ·exact .inl ⟨by kernel_rfl,_,rfl⟩
 ·exact .inl ⟨by kernel_rfl,_,rfl⟩
 ·exact .inr ⟨_,2,Tryz.underlying34,by kernel_rfl,by kernel_rfl,by intro g G; simp at G; rcases G with rfl | rfl <;> exact⟨by kernel_rfl,_,rfl⟩⟩
 ·exact .inl ⟨by kernel_rfl,_,rfl⟩
 ·exact .inl ⟨by kernel_rfl,_,rfl⟩)) (fun x y w=>aIo x y w) (fun x=>by simp [Instr.sameBits,aFb])
instance:Kl Tryz.prog 109 0 0 3:=⟨xP⟩
instance:Kl Tryz.prog 109 1 1 3:=⟨wT⟩
instance:Kl Tryz.prog 111 0 0 3:=⟨xK⟩
instance:Kl Tryz.prog 111 1 1 9:=⟨wB⟩
instance:Kl Tryz.prog 111 10 12 72:=⟨tK⟩
instance:Kl Tryz.prog 111 11 13 109:=⟨tI⟩
instance:Kl Tryz.prog 111 2 2 9:=⟨xS⟩
instance:Kl Tryz.prog 111 3 3 34:=⟨eQ⟩
instance:Kl Tryz.prog 111 4 5 3:=⟨dP⟩
instance:Kl Tryz.prog 111 5 6 34:=⟨vR⟩
instance:Kl Tryz.prog 111 6 8 3:=⟨yG⟩
instance:Kl Tryz.prog 111 7 9 3:=⟨xO⟩
instance:Kl Tryz.prog 111 8 10 4:=⟨vT⟩
instance:Kl Tryz.prog 111 9 11 3:=⟨wZ⟩
instance:Kl Tryz.prog 115 0 0 34:=⟨mJ⟩
instance:Kl Tryz.prog 115 1 2 3:=⟨Ru⟩
instance:Kl Tryz.prog 126 0 0 48:=⟨wL⟩
instance:Kl Tryz.prog 126 1 11 50:=⟨yE⟩
instance:Kl Tryz.prog 152 0 0 3:=⟨xU⟩
instance:Kl Tryz.prog 170 0 0 3:=⟨vV⟩
instance:Kl Tryz.prog 170 1 1 146:=⟨wJ⟩
instance:Kl Tryz.prog 170 2 2 4:=⟨wF⟩
instance:Kl Tryz.prog 170 3 3 168:=⟨wQ⟩
instance:Kl Tryz.prog 176 1 1 3:=⟨nQ⟩
instance:Kl Tryz.prog 215 1 1 3:=⟨yC⟩
instance:Kl Tryz.prog 215 2 2 3:=⟨vO⟩
instance:Kl Tryz.prog 215 3 3 22:=⟨wY⟩
instance:Kl Tryz.prog 215 4 4 22:=⟨yZ⟩
instance:Kl Tryz.prog 31 0 0 27:=⟨aAz⟩
instance:Kl Tryz.prog 31 1 1 28:=⟨aAx⟩
instance:Kl Tryz.prog 31 2 2 29:=⟨aCp⟩
instance:Kl Tryz.prog 34 0 0 3:=⟨aC5⟩
instance:Kl Tryz.prog 34 1 1 3:=⟨aBf⟩
instance:Kl Tryz.prog 37 0 0 34:=⟨rZ⟩
instance:Kl Tryz.prog 37 1 2 3:=⟨lX⟩
instance:Kl Tryz.prog 37 2 3 35:=⟨qU⟩
instance:Kl Tryz.prog 39 0 0 3:=⟨aD2⟩
instance:Kl Tryz.prog 39 1 1 3:=⟨aCz⟩
instance:Kl Tryz.prog 39 2 2 3:=⟨aAn⟩
instance:Kl Tryz.prog 39 3 3 3:=⟨aBz⟩
instance:Kl Tryz.prog 39 4 4 37:=⟨aC2⟩
instance:Kl Tryz.prog 43 0 0 9:=⟨kG⟩
instance:Kl Tryz.prog 43 1 1 3:=⟨aA1⟩
instance:Kl Tryz.prog 43 2 2 3:=⟨aB9⟩
instance:Kl Tryz.prog 43 3 3 22:=⟨aCy⟩
instance:Kl Tryz.prog 43 4 4 4:=⟨aDc⟩
instance:Kl Tryz.prog 43 5 5 41:=⟨aCq⟩
instance:Kl Tryz.prog 43 6 6 22:=⟨aCd⟩
instance:Kl Tryz.prog 43 7 7 22:=⟨aD1⟩
instance:Kl Tryz.prog 43 8 8 4:=⟨aC7⟩
instance:Kl Tryz.prog 48 0 0 3:=⟨aB0⟩
instance:Kl Tryz.prog 48 1 1 9:=⟨aCh⟩
instance:Kl Tryz.prog 48 2 2 3:=⟨aDf⟩
instance:Kl Tryz.prog 48 3 3 3:=⟨sP⟩
instance:Kl Tryz.prog 48 4 4 3:=⟨aCv⟩
instance:Kl Tryz.prog 48 5 5 3:=⟨aEa⟩
instance:Kl Tryz.prog 48 6 6 9:=⟨aD0⟩
instance:Kl Tryz.prog 48 7 7 34:=⟨sY⟩
instance:Kl Tryz.prog 48 8 9 3:=⟨uY⟩
instance:Kl Tryz.prog 48 9 10 9:=⟨aDb⟩
instance:Kl Tryz.prog 71 0 0 22:=⟨aEc⟩
instance:Kl Tryz.prog 71 1 1 3:=⟨aEd⟩
instance:Kl Tryz.prog 78 0 0 3:=⟨jY⟩
instance:Kl Tryz.prog 78 1 1 3:=⟨uF⟩
instance:Kl Tryz.prog 81 0 0 9:=⟨aCi⟩
instance:Kl Tryz.prog 81 1 1 3:=⟨aCj⟩
instance:Kl Tryz.prog 81 2 2 3:=⟨aBa⟩
instance:Kl Tryz.prog 81 3 3 79:=⟨aDj⟩
instance:Kl Tryz.prog 81 4 4 3:=⟨aDx⟩
instance:dL Tryz.prog 146 5 1 1:=⟨L6⟩
instance:dL Tryz.prog 168 170 4 64:=⟨bI⟩
instance:dL Tryz.prog 173 152 12 104:=⟨sJ⟩
instance:dL Tryz.prog 177 176 2 24:=⟨aAe⟩
instance:dL Tryz.prog 199 194 1 8:=⟨P2⟩
instance:dL Tryz.prog 22 3 1 8:=⟨F0⟩
instance:dL Tryz.prog 27 43 9 144:=⟨oU⟩
instance:dL Tryz.prog 28 78 2 16:=⟨tF⟩
instance:dL Tryz.prog 29 81 5 64:=⟨sH⟩
instance:dL Tryz.prog 35 111 15 152:=⟨yN⟩
instance:dL Tryz.prog 41 37 4 48:=⟨Vu⟩
instance:dL Tryz.prog 50 48 11 112:=⟨Ue⟩
instance:dL Tryz.prog 72 9 1 16:=⟨Yd⟩
instance:dL Tryz.prog 74 22 1 24:=⟨aFe⟩
instance:dL Tryz.prog 79 115 3 24:=⟨wO⟩
instance:dL Tryz.prog 84 34 2 16:=⟨aA8⟩
instance:Nw Tryz.prog 109 true 2:=⟨aGu⟩
instance:Nw Tryz.prog 111 true 15:=⟨aFx⟩
instance:Nw Tryz.prog 146 false 1:=⟨aGz⟩
instance:Nw Tryz.prog 152 true 12:=⟨aGa⟩
instance:Nw Tryz.prog 168 false 1:=⟨aEv⟩
instance:Nw Tryz.prog 170 true 4:=⟨gR⟩
instance:Nw Tryz.prog 193 false 1:=⟨M5⟩
instance:Nw Tryz.prog 194 false 1:=⟨Sd⟩
instance:Nw Tryz.prog 196 false 1:=⟨Zo⟩
instance:Nw Tryz.prog 215 true 5:=⟨zV⟩
instance:Nw Tryz.prog 22 false 1:=⟨aGr⟩
instance:Nw Tryz.prog 233 true 115:=⟨aGd⟩
instance:Nw Tryz.prog 237 false 1:=⟨aE8⟩
instance:Nw Tryz.prog 243 true 2:=⟨zS⟩
instance:Nw Tryz.prog 27 false 1:=⟨aI5⟩
instance:Nw Tryz.prog 28 false 1:=⟨aHq⟩
instance:Nw Tryz.prog 29 false 1:=⟨aHz⟩
instance:Nw Tryz.prog 3 false 1:=⟨Sq⟩
instance:Nw Tryz.prog 31 true 3:=⟨aI2⟩
instance:Nw Tryz.prog 34 true 2:=⟨Zy⟩
instance:Nw Tryz.prog 35 false 1:=⟨aDp⟩
instance:Nw Tryz.prog 37 true 4:=⟨aH1⟩
instance:Nw Tryz.prog 39 true 8:=⟨aIg⟩
instance:Nw Tryz.prog 4 false 1:=⟨ty4⟩
instance:Nw Tryz.prog 41 false 1:=⟨aH8⟩
instance:Nw Tryz.prog 43 true 9:=⟨aE4⟩
instance:Nw Tryz.prog 48 true 11:=⟨My⟩
instance:Nw Tryz.prog 5 false 1:=⟨ty5⟩
instance:Nw Tryz.prog 50 false 1:=⟨aH7⟩
instance:Nw Tryz.prog 58 false 1:=⟨aEg⟩
instance:Nw Tryz.prog 72 false 1:=⟨aIw⟩
instance:Nw Tryz.prog 78 true 2:=⟨aH5⟩
instance:Nw Tryz.prog 79 false 1:=⟨aIx⟩
instance:Nw Tryz.prog 81 true 5:=⟨aIu⟩
instance:Nw Tryz.prog 89 false 1:=⟨aEt⟩
instance:Nw Tryz.prog 9 false 1:=⟨ty9⟩
instance:Nw Tryz.prog 91 true 7:=⟨aH3⟩
instance:Vz Tryz.prog 109 [.int .i64 0,.int .i64 0]:=⟨aA0⟩
instance:Vz Tryz.prog 111 [.int .i64 0,.string ⟨#[]⟩,.string ⟨#[]⟩,.int .i64 0,.int .i64 0,.int .i64 0,.int .i64 0,.int .i64 0,.int .i64 0,.int .i64 0,.bool false,.int .i64 0,.slice none 0 0,.int .i64 0,.int .i64 0]:=⟨rI⟩
instance:Vz Tryz.prog 115 [.int .i64 0,.int .i64 0,.int .i64 0]:=⟨aAr⟩
instance:Vz Tryz.prog 126 [.int .i64 0,.string ⟨#[]⟩,.int .i64 0,.int .i64 0,.int .i64 0,.int .i64 0,.string ⟨#[]⟩,.int .i64 0,.int .i64 0,.int .i64 0,.string ⟨#[]⟩,.slice none 0 0]:=⟨aFg⟩
instance:Vz Tryz.prog 152 [.int .i64 0,.string ⟨#[]⟩,.int .i64 0,.int .i64 0,.int .i64 0,.int .i64 0,.int .i64 0,.int .i64 0,.int .i64 0,.int .i64 0,.int .i64 0,.int .i64 0]:=⟨Pv⟩
instance:Vz Tryz.prog 170 [.int .i64 0,.slice none 0 0,.bool false,.slice none 0 0]:=⟨bN⟩
instance:Vz Tryz.prog 176 [.string ⟨#[]⟩,.int .i64 0]:=⟨Nj⟩
instance:Vz Tryz.prog 194 [.nilFunc]:=⟨aFk⟩
instance:Vz Tryz.prog 215 [.string ⟨#[]⟩,.int .i64 0,.int .i64 0,.slice none 0 0,.slice none 0 0]:=⟨Nz⟩
instance:Vz Tryz.prog 22 [.slice none 0 0]:=⟨z22⟩
instance:Vz Tryz.prog 233 [.string ⟨#[]⟩,.int .i64 0,.int .i64 0,.slice none 0 0,.slice none 0 0,.string ⟨#[]⟩,.int .i64 0,.int .i64 0,.slice none 0 0,.slice none 0 0,.string ⟨#[]⟩,.int .i64 0,.int .i64 0,.slice none 0 0,.slice none 0 0,.string ⟨#[]⟩,.int .i64 0,.int .i64 0,.slice none 0 0,.slice none 0 0,.string ⟨#[]⟩,.int .i64 0,.int .i64 0,.slice none 0 0,.slice none 0 0,.string ⟨#[]⟩,.int .i64 0,.int .i64 0,.slice none 0 0,.slice none 0 0,.string ⟨#[]⟩,.int .i64 0,.int .i64 0,.slice none 0 0,.slice none 0 0,.string ⟨#[]⟩,.int .i64 0,.int .i64 0,.slice none 0 0,.slice none 0 0,.string ⟨#[]⟩,.int .i64 0,.int .i64 0,.slice none 0 0,.slice none 0 0,.string ⟨#[]⟩,.int .i64 0,.int .i64 0,.slice none 0 0,.slice none 0 0,.string ⟨#[]⟩,.int .i64 0,.int .i64 0,.slice none 0 0,.slice none 0 0,.string ⟨#[]⟩,.int .i64 0,.int .i64 0,.slice none 0 0,.slice none 0 0,.string ⟨#[]⟩,.int .i64 0,.int .i64 0,.slice none 0 0,.slice none 0 0,.string ⟨#[]⟩,.int .i64 0,.int .i64 0,.slice none 0 0,.slice none 0 0,.string ⟨#[]⟩,.int .i64 0,.int .i64 0,.slice none 0 0,.slice none 0 0,.string ⟨#[]⟩,.int .i64 0,.int .i64 0,.slice none 0 0,.slice none 0 0,.string ⟨#[]⟩,.int .i64 0,.int .i64 0,.slice none 0 0,.slice none 0 0,.string ⟨#[]⟩,.int .i64 0,.int .i64 0,.slice none 0 0,.slice none 0 0,.string ⟨#[]⟩,.int .i64 0,.int .i64 0,.slice none 0 0,.slice none 0 0,.string ⟨#[]⟩,.int .i64 0,.int .i64 0,.slice none 0 0,.slice none 0 0,.string ⟨#[]⟩,.int .i64 0,.int .i64 0,.slice none 0 0,.slice none 0 0,.string ⟨#[]⟩,.int .i64 0,.int .i64 0,.slice none 0 0,.slice none 0 0,.string ⟨#[]⟩,.int .i64 0,.int .i64 0,.slice none 0 0,.slice none 0 0]:=⟨aGs⟩
instance:Vz Tryz.prog 237 [.int .u64 0]:=⟨aHs⟩
instance:Vz Tryz.prog 243 [.int .i64 0,.int .i64 0]:=⟨pV⟩
instance:Vz Tryz.prog 244 [.int .i64 0,.int .i64 0,.int .i64 0,.int .i64 0,.int .i64 0,.int .i64 0,.int .i64 0,.int .i64 0,.int .i64 0,.int .i64 0]:=⟨aFz⟩
instance:Vz Tryz.prog 3 [.int .i64 0]:=⟨z3⟩
instance:Vz Tryz.prog 31 [.slice none 0 0,.slice none 0 0,.slice none 0 0]:=⟨z31⟩
instance:Vz Tryz.prog 34 [.int .i64 0,.int .i64 0]:=⟨X1⟩
instance:Vz Tryz.prog 37 [.int .i64 0,.int .i64 0,.int .i64 0,.slice none 0 0]:=⟨z37⟩
instance:Vz Tryz.prog 39 [.int .i64 0,.int .i64 0,.int .i64 0,.int .i64 0,.int .i64 0,.int .i64 0,.int .i64 0,.slice none 0 0]:=⟨z39⟩
instance:Vz Tryz.prog 43 [.string ⟨#[]⟩,.int .i64 0,.int .i64 0,.slice none 0 0,.bool false,.slice none 0 0,.slice none 0 0,.slice none 0 0,.bool false]:=⟨z43⟩
instance:Vz Tryz.prog 48 [.int .i64 0,.string ⟨#[]⟩,.int .i64 0,.int .i64 0,.int .i64 0,.int .i64 0,.string ⟨#[]⟩,.int .i64 0,.int .i64 0,.int .i64 0,.string ⟨#[]⟩]:=⟨z48⟩
instance:Vz Tryz.prog 5 [.int .u8 0]:=⟨z5⟩
instance:Vz Tryz.prog 71 [.slice none 0 0,.int .i64 0]:=⟨z71⟩
instance:Vz Tryz.prog 78 [.int .i64 0,.int .i64 0]:=⟨z78⟩
instance:Vz Tryz.prog 81 [.string ⟨#[]⟩,.int .i64 0,.int .i64 0,.slice none 0 0,.int .i64 0]:=⟨z81⟩
instance:Vz Tryz.prog 89 [.map none]:=⟨z89⟩
instance:Vz Tryz.prog 9 [.string ⟨#[]⟩]:=⟨z9⟩
instance:Vz Tryz.prog 91 [.string ⟨#[]⟩,.int .i64 0,.int .i64 0,.int .i64 0,.int .i64 0,.int .i64 0,.string ⟨#[]⟩]:=⟨z91⟩
instance:Uv Ah.enc 2:=⟨Ah.enc_len⟩
instance:Uv Ar.enc 2:=⟨Ar.enc_len⟩
instance:Uv Er.enc 2:=⟨Er.enc_len⟩
instance:Uv Ae.enc 15:=⟨Ae.enc_len⟩
instance:Uv Am.enc 4:=⟨Am.enc_len⟩
instance:Uv Af.enc 9:=⟨Af.enc_len⟩
instance:Uv Bq.enc 2:=⟨Bq.enc_len⟩
instance:Uv Co.enc 3:=⟨Co.enc_len⟩
instance:Uv Cf.enc 5:=⟨Cf.enc_len⟩
instance:Uv Bb.enc 3:=⟨Bb.enc_len⟩
instance:Uv A7.enc 8:=⟨A7.enc_len⟩
instance:Uv Aa.enc 11:=⟨Aa.enc_len⟩
instance:Uv Au.enc 2:=⟨Au.enc_len⟩
instance:Uv Ai.enc 4:=⟨Ai.enc_len⟩
instance:Uv A4.enc 12:=⟨A4.enc_len⟩
instance:Uv D1.enc 12:=⟨D1.enc_len⟩
instance:Uv Cc.enc 5:=⟨Cc.enc_len⟩
instance:Uv Dq.enc 7:=⟨Dq.enc_len⟩
instance:vJ Ar.enc:=⟨fun x c hc=>by simp only [Ar.enc,aDv,aFr,aJh] at hc; rcases hc with rfl | rfl <;> rfl⟩
instance:vJ Er.enc:=⟨fun x c hc=>by simp only [Er.enc,aDv,aFr,aJh] at hc; rcases hc with rfl | rfl <;> rfl⟩
instance:vJ Bq.enc:=⟨fun x c hc=>by simp only [Bq.enc,aDv,aFr,aJh] at hc; rcases hc with rfl | rfl <;> rfl⟩
instance:vJ Co.enc:=⟨fun x c hc=>by simp only [Co.enc,aDv,aFr,aJh] at hc; rcases hc with rfl | rfl | rfl <;> rfl⟩
instance:vJ Aa.enc:=⟨fun x c hc=>by simp only [Aa.enc,aDv,aFr,aJh] at hc; rcases hc with rfl | rfl | rfl | rfl | rfl | rfl | rfl | rfl | rfl | rfl | rfl <;> rfl⟩
instance:vJ Au.enc:=⟨fun x c hc=>by simp only [Au.enc,aDv,aFr,aJh] at hc; rcases hc with rfl | rfl <;> rfl⟩
instance:vJ A4.enc:=⟨fun x c hc=>by simp only [A4.enc,aDv,aFr,aJh] at hc; rcases hc with rfl | rfl | rfl | rfl | rfl | rfl | rfl | rfl | rfl | rfl | rfl | rfl <;> rfl⟩
instance:vJ Dq.enc:=⟨fun x c hc=>by simp only [Dq.enc,aDv,aFr,aJh] at hc; rcases hc with rfl | rfl | rfl | rfl | rfl | rfl | rfl <;> rfl⟩
end Go.Proofs.YtkoflhimdenjaaaGreat
