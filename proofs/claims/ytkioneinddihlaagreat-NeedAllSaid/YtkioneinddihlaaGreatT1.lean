import Derived.Test.YtkioneinddihlaaGreatEG
import Derived.Test.YtkioneinddihlaaGreatP1
import Derived.Test.YtkioneinddihlaaGreatProg
set_option linter.unusedVariables false
set_option linter.unusedSimpArgs false
set_option maxRecDepth 100000
set_option maxHeartbeats 1600000
namespace Go.Proofs.YtkioneinddihlaaGreat
open Go.RowKit
abbrev Ac.dv (x:Ac):List DV:=[.val (.int .i64 x.First),.val (.int .i64 x.Then)]
def Ac.enc (x:Ac):List C:=[.int .i64 x.First,.int .i64 x.Then]
theorem Ac.enc_len (x:Ac):(Ac.enc x).length=2:=rfl
abbrev Ab.dv (x:Ab):List DV:=[.sl 1 (Ak eI x.L),.val (.int .i64 x.At)]
def Ab.enc (x:Ab):List C:=[.sl 1 (Ak eI x.L),.int .i64 x.At]
theorem Ab.enc_len (x:Ab):(Ab.enc x).length=2:=rfl
abbrev Av.dv (x:Av):List DV:=[.val (.int .i64 x.Alg),.val (.int .i64 x.Bits)]
def Av.enc (x:Av):List C:=[.int .i64 x.Alg,.int .i64 x.Bits]
theorem Av.enc_len (x:Av):(Av.enc x).length=2:=rfl
abbrev Eb.dv (x:Eb):List DV:=[.val (.int .i64 x.Key),.val (.int .i64 x.Sum)]
def Eb.enc (x:Eb):List C:=[.int .i64 x.Key,.int .i64 x.Sum]
theorem Eb.enc_len (x:Eb):(Eb.enc x).length=2:=rfl
abbrev Ah.dv (x:Ah):List DV:=[.val (.int .i64 x.Serial),.val (.string x.Issuer),.val (.string x.Subject),.val (.int .i64 x.Key.Alg),.val (.int .i64 x.Key.Bits),.val (.int .i64 x.KeyId),.val (.int .i64 x.Hash.Alg),.val (.int .i64 x.Hash.Bits),.val (.int .i64 x.From),.val (.int .i64 x.To),.val (.bool x.Authority),.val (.int .i64 x.Path),.sl 1 (Ak eS x.Names),.val (.int .i64 x.Seal.Key),.val (.int .i64 x.Seal.Sum)]
def Ah.enc (x:Ah):List C:=[.int .i64 x.Serial,.str x.Issuer,.str x.Subject,.int .i64 x.Key.Alg,.int .i64 x.Key.Bits,.int .i64 x.KeyId,.int .i64 x.Hash.Alg,.int .i64 x.Hash.Bits,.int .i64 x.From,.int .i64 x.To,.bool x.Authority,.int .i64 x.Path,.sl 1 (Ak eS x.Names),.int .i64 x.Seal.Key,.int .i64 x.Seal.Sum]
theorem Ah.enc_len (x:Ah):(Ah.enc x).length=15:=rfl
abbrev A4.dv (x:A4):List DV:=[.val (.int .i64 x.Key.Alg),.val (.int .i64 x.Key.Bits),.val (.int .i64 x.KeyId),.sl 15 (Ak Ah.enc x.Chain)]
def A4.enc (x:A4):List C:=[.int .i64 x.Key.Alg,.int .i64 x.Key.Bits,.int .i64 x.KeyId,.sl 15 (Ak Ah.enc x.Chain)]
theorem A4.enc_len (x:A4):(A4.enc x).length=4:=rfl
abbrev Al.dv (x:Al):List DV:=[.val (.string x.Name),.val (.int .i64 x.Least),.val (.int .i64 x.Most),.sl 1 (Ak eI x.Suites),.val (.bool x.OwnOrder),.sl 4 (Ak A4.enc x.Identities),.sl 1 (Ak eI x.Anchors),.sl 1 (Ak eI x.Hashes),.val (.bool x.Fallback)]
def Al.enc (x:Al):List C:=[.str x.Name,.int .i64 x.Least,.int .i64 x.Most,.sl 1 (Ak eI x.Suites),.bool x.OwnOrder,.sl 4 (Ak A4.enc x.Identities),.sl 1 (Ak eI x.Anchors),.sl 1 (Ak eI x.Hashes),.bool x.Fallback]
theorem Al.enc_len (x:Al):(Al.enc x).length=9:=rfl
abbrev Aw.dv (x:Aw):List DV:=[.val (.int .i64 x.Client),.val (.int .i64 x.Server)]
def Aw.enc (x:Aw):List C:=[.int .i64 x.Client,.int .i64 x.Server]
theorem Aw.enc_len (x:Aw):(Aw.enc x).length=2:=rfl
abbrev Dy.dv (x:Dy):List DV:=[.val (.int .i64 x.Use.Alg),.val (.int .i64 x.Use.Bits),.val (.int .i64 x.Day)]
def Dy.enc (x:Dy):List C:=[.int .i64 x.Use.Alg,.int .i64 x.Use.Bits,.int .i64 x.Day]
theorem Dy.enc_len (x:Dy):(Dy.enc x).length=3:=rfl
abbrev Bp.dv (x:Bp):List DV:=[.val (.string x.Name),.val (.int .i64 x.Kind),.val (.int .i64 x.Purpose),.sl 3 (Ak Dy.enc x.Links),.val (.int .i64 x.Until)]
def Bp.enc (x:Bp):List C:=[.str x.Name,.int .i64 x.Kind,.int .i64 x.Purpose,.sl 3 (Ak Dy.enc x.Links),.int .i64 x.Until]
theorem Bp.enc_len (x:Bp):(Bp.enc x).length=5:=rfl
abbrev An.dv (x:An):List DV:=[.sl 9 (Ak Al.enc x.Endpoints),.sl 2 (Ak Aw.enc x.Edges),.sl 5 (Ak Bp.enc x.Items)]
def An.enc (x:An):List C:=[.sl 9 (Ak Al.enc x.Endpoints),.sl 2 (Ak Aw.enc x.Edges),.sl 5 (Ak Bp.enc x.Items)]
abbrev An.ec (x:An):List C:=[.sl 9 (Ak Al.enc x.Endpoints),.sl 2 (Ak Aw.enc x.Edges),.sl 5 (Ak Bp.enc x.Items)]
theorem An.enc_len (x:An):(An.enc x).length=3:=rfl
abbrev Ae.dv (x:Ae):List DV:=[.val (.int .i64 x.Endpoint),.val (.int .i64 x.Kind),.val (.int .i64 x.Number),.val (.int .i64 x.At),.val (.int .i64 x.Identity.Key.Alg),.val (.int .i64 x.Identity.Key.Bits),.val (.int .i64 x.Identity.KeyId),.sl 15 (Ak Ah.enc x.Identity.Chain)]
def Ae.enc (x:Ae):List C:=[.int .i64 x.Endpoint,.int .i64 x.Kind,.int .i64 x.Number,.int .i64 x.At,.int .i64 x.Identity.Key.Alg,.int .i64 x.Identity.Key.Bits,.int .i64 x.Identity.KeyId,.sl 15 (Ak Ah.enc x.Identity.Chain)]
theorem Ae.enc_len (x:Ae):(Ae.enc x).length=8:=rfl
abbrev Aa.dv (x:Aa):List DV:=[.val (.int .i64 x.First),.val (.int .i64 x.Then)]
def Aa.enc (x:Aa):List C:=[.int .i64 x.First,.int .i64 x.Then]
theorem Aa.enc_len (x:Aa):(Aa.enc x).length=2:=rfl
abbrev As.dv (x:As):List DV:=[.val (.string x.name),.val (.int .i64 x.kind)]
def As.enc (x:As):List C:=[.str x.name,.int .i64 x.kind]
theorem As.enc_len (x:As):(As.enc x).length=2:=rfl
mutual
def Ai.enc:Ai->List C
 | ⟨Tag,Bytes,Nested,Elements⟩=>[.int .i64 Tag,.sl 1 (Ak e8 Bytes),.bool Nested,.sl 4 (Ai.encs Elements)]
def Ai.encs:List Ai->List C
 | []=>[]
 | x :: l=>Ai.enc x ++ Ai.encs l
end
theorem Ai.encs_eq:∀ (l:List Ai),Ai.encs l=Ak Ai.enc l
 | []=>rfl
 | x :: l=>by
  show Ai.enc x ++ Ai.encs l=Ai.enc x ++ Ak Ai.enc l
  rw [Ai.encs_eq l]
theorem Ai.enc_eq (x:Ai):Ai.enc x=[.int .i64 x.Tag,.sl 1 (Ak e8 x.Bytes),.bool x.Nested,.sl 4 (Ak Ai.enc x.Elements)]:=by
 cases x
 simp only [Ai.enc,Ai.encs_eq]
theorem Ai.enc_len (x:Ai):(Ai.enc x).length=4:=by rw [Ai.enc_eq]; rfl
abbrev Ai.dv (x:Ai):List DV:=[.val (.int .i64 x.Tag),.sl 1 (Ak e8 x.Bytes),.val (.bool x.Nested),.sl 4 (Ak Ai.enc x.Elements)]
abbrev A7.dv (x:A7):List DV:=[.val (.int .i64 x.Code),.val (.string x.Name),.val (.int .i64 x.Exchange.Alg),.val (.int .i64 x.Exchange.Bits),.val (.int .i64 x.Sign.Alg),.val (.int .i64 x.Sign.Bits),.val (.int .i64 x.Cipher.Alg),.val (.int .i64 x.Cipher.Bits),.val (.int .i64 x.Mac.Alg),.val (.int .i64 x.Mac.Bits),.val (.int .i64 x.Least),.val (.int .i64 x.Most)]
def A7.enc (x:A7):List C:=[.int .i64 x.Code,.str x.Name,.int .i64 x.Exchange.Alg,.int .i64 x.Exchange.Bits,.int .i64 x.Sign.Alg,.int .i64 x.Sign.Bits,.int .i64 x.Cipher.Alg,.int .i64 x.Cipher.Bits,.int .i64 x.Mac.Alg,.int .i64 x.Mac.Bits,.int .i64 x.Least,.int .i64 x.Most]
theorem A7.enc_len (x:A7):(A7.enc x).length=12:=rfl
abbrev Cg.dv (x:Cg):List DV:=[.val (.string x.name),.val (.int .i64 x.kind),.val (.int .i64 x.way),.sl 1 (Ak eI x.sizes),.sl 1 (Ak eI x.strengths)]
def Cg.enc (x:Cg):List C:=[.str x.name,.int .i64 x.kind,.int .i64 x.way,.sl 1 (Ak eI x.sizes),.sl 1 (Ak eI x.strengths)]
theorem Cg.enc_len (x:Cg):(Cg.enc x).length=5:=rfl
theorem aEy:Tryz.prog.underlying 3=some (.int .i64):=by kernel_rfl
theorem aIf:Tryz.prog.underlying 4=some (.bool):=by kernel_rfl
theorem aA5:Tryz.prog.underlying 5=some (.int .u8):=by kernel_rfl
theorem aEz:Tryz.prog.underlying 9=some (.string):=by kernel_rfl
theorem aAh:Tryz.prog.underlying 23=some (.slice 25):=by kernel_rfl
theorem Pb:Tryz.prog.underlying 25=some (.struct ((match Tryz.prog.underlying 25 with | some (.struct f)=>f | _=>#[]))):=by kernel_rfl
theorem sC:Tryz.prog.underlying 34=some (.struct ((match Tryz.prog.underlying 34 with | some (.struct f)=>f | _=>#[]))):=by kernel_rfl
theorem Lm:Tryz.prog.underlying 40=some (.struct ((match Tryz.prog.underlying 40 with | some (.struct f)=>f | _=>#[]))):=by kernel_rfl
theorem iU:Tryz.prog.underlying 43=some (.struct ((match Tryz.prog.underlying 43 with | some (.struct f)=>f | _=>#[]))):=by kernel_rfl
theorem Ou:Tryz.prog.underlying 45=some (.struct ((match Tryz.prog.underlying 45 with | some (.struct f)=>f | _=>#[]))):=by kernel_rfl
theorem Ri:Tryz.prog.underlying 59=some (.struct ((match Tryz.prog.underlying 59 with | some (.struct f)=>f | _=>#[]))):=by kernel_rfl
theorem qW:Tryz.prog.underlying 68=some (.struct ((match Tryz.prog.underlying 68 with | some (.struct f)=>f | _=>#[]))):=by kernel_rfl
theorem Vd:Tryz.prog.underlying 76=some (.struct ((match Tryz.prog.underlying 76 with | some (.struct f)=>f | _=>#[]))):=by kernel_rfl
theorem cQ:Tryz.prog.underlying 79=some (.struct ((match Tryz.prog.underlying 79 with | some (.struct f)=>f | _=>#[]))):=by kernel_rfl
theorem dQ:Tryz.prog.underlying 101=some (.struct ((match Tryz.prog.underlying 101 with | some (.struct f)=>f | _=>#[]))):=by kernel_rfl
theorem K6:Tryz.prog.underlying 103=some (.struct ((match Tryz.prog.underlying 103 with | some (.struct f)=>f | _=>#[]))):=by kernel_rfl
theorem kH:Tryz.prog.underlying 107=some (.struct ((match Tryz.prog.underlying 107 with | some (.struct f)=>f | _=>#[]))):=by kernel_rfl
theorem uE:Tryz.prog.underlying 120=some (.struct ((match Tryz.prog.underlying 120 with | some (.struct f)=>f | _=>#[]))):=by kernel_rfl
theorem aDa:Tryz.prog.underlying 129=some (.slice 5):=by kernel_rfl
theorem aDh:Tryz.prog.underlying 144=some (.int .u64):=by kernel_rfl
theorem Ir:Tryz.prog.underlying 146=some (.struct ((match Tryz.prog.underlying 146 with | some (.struct f)=>f | _=>#[]))):=by kernel_rfl
theorem Qa:Tryz.prog.underlying 152=some (.struct ((match Tryz.prog.underlying 152 with | some (.struct f)=>f | _=>#[]))):=by kernel_rfl
theorem aA2:Tryz.prog.underlying 154=some (.int .u32):=by kernel_rfl
theorem rE:Tryz.prog.underlying 168=some (.int .u64):=by kernel_rfl
theorem Hm:Tryz.prog.underlying 172=some (.struct ((match Tryz.prog.underlying 172 with | some (.struct f)=>f | _=>#[]))):=by kernel_rfl
theorem G0:Tryz.prog.underlying 186=some (.struct ((match Tryz.prog.underlying 186 with | some (.struct f)=>f | _=>#[]))):=by kernel_rfl
theorem aA7:Tryz.prog.underlying 190=some (.int .u64):=by kernel_rfl
theorem lC:Tryz.prog.underlying 201=some (.array 23 186):=by kernel_rfl
theorem R1:Tryz.prog.underlying 205=some (.array 2 3):=by kernel_rfl
theorem lM:Tryz.prog.underlying 206=some (.array 5 205):=by kernel_rfl
theorem yK:Fd Tryz.prog 101 0 0 3:=⟨_,(match Tryz.prog.underlying 101 with | some (.struct f)=>f | _=>#[])[0]!,dQ,by kernel_rfl,by kernel_rfl,by kernel_rfl⟩
theorem xL:Fd Tryz.prog 101 1 1 3:=⟨_,(match Tryz.prog.underlying 101 with | some (.struct f)=>f | _=>#[])[1]!,dQ,by kernel_rfl,by kernel_rfl,by kernel_rfl⟩
theorem xC:Fd Tryz.prog 103 0 0 3:=⟨_,(match Tryz.prog.underlying 103 with | some (.struct f)=>f | _=>#[])[0]!,K6,by kernel_rfl,by kernel_rfl,by kernel_rfl⟩
theorem wQ:Fd Tryz.prog 103 1 1 9:=⟨_,(match Tryz.prog.underlying 103 with | some (.struct f)=>f | _=>#[])[1]!,K6,by kernel_rfl,by kernel_rfl,by kernel_rfl⟩
theorem uP:Fd Tryz.prog 103 10 12 69:=⟨_,(match Tryz.prog.underlying 103 with | some (.struct f)=>f | _=>#[])[10]!,K6,by kernel_rfl,by kernel_rfl,by kernel_rfl⟩
theorem uC:Fd Tryz.prog 103 11 13 101:=⟨_,(match Tryz.prog.underlying 103 with | some (.struct f)=>f | _=>#[])[11]!,K6,by kernel_rfl,by kernel_rfl,by kernel_rfl⟩
theorem xH:Fd Tryz.prog 103 2 2 9:=⟨_,(match Tryz.prog.underlying 103 with | some (.struct f)=>f | _=>#[])[2]!,K6,by kernel_rfl,by kernel_rfl,by kernel_rfl⟩
theorem vZ:Fd Tryz.prog 103 3 3 40:=⟨_,(match Tryz.prog.underlying 103 with | some (.struct f)=>f | _=>#[])[3]!,K6,by kernel_rfl,by kernel_rfl,by kernel_rfl⟩
theorem xV:Fd Tryz.prog 103 4 5 3:=⟨_,(match Tryz.prog.underlying 103 with | some (.struct f)=>f | _=>#[])[4]!,K6,by kernel_rfl,by kernel_rfl,by kernel_rfl⟩
theorem yW:Fd Tryz.prog 103 5 6 40:=⟨_,(match Tryz.prog.underlying 103 with | some (.struct f)=>f | _=>#[])[5]!,K6,by kernel_rfl,by kernel_rfl,by kernel_rfl⟩
theorem vV:Fd Tryz.prog 103 6 8 3:=⟨_,(match Tryz.prog.underlying 103 with | some (.struct f)=>f | _=>#[])[6]!,K6,by kernel_rfl,by kernel_rfl,by kernel_rfl⟩
theorem wV:Fd Tryz.prog 103 7 9 3:=⟨_,(match Tryz.prog.underlying 103 with | some (.struct f)=>f | _=>#[])[7]!,K6,by kernel_rfl,by kernel_rfl,by kernel_rfl⟩
theorem wC:Fd Tryz.prog 103 8 10 4:=⟨_,(match Tryz.prog.underlying 103 with | some (.struct f)=>f | _=>#[])[8]!,K6,by kernel_rfl,by kernel_rfl,by kernel_rfl⟩
theorem yT:Fd Tryz.prog 103 9 11 3:=⟨_,(match Tryz.prog.underlying 103 with | some (.struct f)=>f | _=>#[])[9]!,K6,by kernel_rfl,by kernel_rfl,by kernel_rfl⟩
theorem wU:Fd Tryz.prog 107 0 0 40:=⟨_,(match Tryz.prog.underlying 107 with | some (.struct f)=>f | _=>#[])[0]!,kH,by kernel_rfl,by kernel_rfl,by kernel_rfl⟩
theorem wR:Fd Tryz.prog 107 1 2 3:=⟨_,(match Tryz.prog.underlying 107 with | some (.struct f)=>f | _=>#[])[1]!,kH,by kernel_rfl,by kernel_rfl,by kernel_rfl⟩
theorem wJ:Fd Tryz.prog 120 0 0 3:=⟨_,(match Tryz.prog.underlying 120 with | some (.struct f)=>f | _=>#[])[0]!,uE,by kernel_rfl,by kernel_rfl,by kernel_rfl⟩
theorem xF:Fd Tryz.prog 120 1 1 3:=⟨_,(match Tryz.prog.underlying 120 with | some (.struct f)=>f | _=>#[])[1]!,uE,by kernel_rfl,by kernel_rfl,by kernel_rfl⟩
theorem yB:Fd Tryz.prog 146 0 0 3:=⟨_,(match Tryz.prog.underlying 146 with | some (.struct f)=>f | _=>#[])[0]!,Ir,by kernel_rfl,by kernel_rfl,by kernel_rfl⟩
theorem zC:Fd Tryz.prog 146 4 6 40:=⟨_,(match Tryz.prog.underlying 146 with | some (.struct f)=>f | _=>#[])[4]!,Ir,by kernel_rfl,by kernel_rfl,by kernel_rfl⟩
theorem wF:Fd Tryz.prog 152 0 0 3:=⟨_,(match Tryz.prog.underlying 152 with | some (.struct f)=>f | _=>#[])[0]!,Qa,by kernel_rfl,by kernel_rfl,by kernel_rfl⟩
theorem yO:Fd Tryz.prog 152 1 1 129:=⟨_,(match Tryz.prog.underlying 152 with | some (.struct f)=>f | _=>#[])[1]!,Qa,by kernel_rfl,by kernel_rfl,by kernel_rfl⟩
theorem wG:Fd Tryz.prog 152 2 2 4:=⟨_,(match Tryz.prog.underlying 152 with | some (.struct f)=>f | _=>#[])[2]!,Qa,by kernel_rfl,by kernel_rfl,by kernel_rfl⟩
theorem xZ:Fd Tryz.prog 152 3 3 150:=⟨_,(match Tryz.prog.underlying 152 with | some (.struct f)=>f | _=>#[])[3]!,Qa,by kernel_rfl,by kernel_rfl,by kernel_rfl⟩
theorem yC:Fd Tryz.prog 172 1 1 3:=⟨_,(match Tryz.prog.underlying 172 with | some (.struct f)=>f | _=>#[])[1]!,Hm,by kernel_rfl,by kernel_rfl,by kernel_rfl⟩
theorem wA:Fd Tryz.prog 186 1 1 3:=⟨_,(match Tryz.prog.underlying 186 with | some (.struct f)=>f | _=>#[])[1]!,G0,by kernel_rfl,by kernel_rfl,by kernel_rfl⟩
theorem yD:Fd Tryz.prog 186 2 2 3:=⟨_,(match Tryz.prog.underlying 186 with | some (.struct f)=>f | _=>#[])[2]!,G0,by kernel_rfl,by kernel_rfl,by kernel_rfl⟩
theorem xB:Fd Tryz.prog 186 3 3 22:=⟨_,(match Tryz.prog.underlying 186 with | some (.struct f)=>f | _=>#[])[3]!,G0,by kernel_rfl,by kernel_rfl,by kernel_rfl⟩
theorem yJ:Fd Tryz.prog 186 4 4 22:=⟨_,(match Tryz.prog.underlying 186 with | some (.struct f)=>f | _=>#[])[4]!,G0,by kernel_rfl,by kernel_rfl,by kernel_rfl⟩
theorem aBn:Fd Tryz.prog 25 0 0 3:=⟨_,(match Tryz.prog.underlying 25 with | some (.struct f)=>f | _=>#[])[0]!,Pb,by kernel_rfl,by kernel_rfl,by kernel_rfl⟩
theorem aC3:Fd Tryz.prog 25 1 1 3:=⟨_,(match Tryz.prog.underlying 25 with | some (.struct f)=>f | _=>#[])[1]!,Pb,by kernel_rfl,by kernel_rfl,by kernel_rfl⟩
theorem lI:Fd Tryz.prog 34 0 0 30:=⟨_,(match Tryz.prog.underlying 34 with | some (.struct f)=>f | _=>#[])[0]!,sC,by kernel_rfl,by kernel_rfl,by kernel_rfl⟩
theorem aBi:Fd Tryz.prog 34 1 1 31:=⟨_,(match Tryz.prog.underlying 34 with | some (.struct f)=>f | _=>#[])[1]!,sC,by kernel_rfl,by kernel_rfl,by kernel_rfl⟩
theorem aCm:Fd Tryz.prog 34 2 2 32:=⟨_,(match Tryz.prog.underlying 34 with | some (.struct f)=>f | _=>#[])[2]!,sC,by kernel_rfl,by kernel_rfl,by kernel_rfl⟩
theorem aA8:Fd Tryz.prog 40 0 0 3:=⟨_,(match Tryz.prog.underlying 40 with | some (.struct f)=>f | _=>#[])[0]!,Lm,by kernel_rfl,by kernel_rfl,by kernel_rfl⟩
theorem aBc:Fd Tryz.prog 40 1 1 3:=⟨_,(match Tryz.prog.underlying 40 with | some (.struct f)=>f | _=>#[])[1]!,Lm,by kernel_rfl,by kernel_rfl,by kernel_rfl⟩
theorem aAu:Fd Tryz.prog 43 0 0 40:=⟨_,(match Tryz.prog.underlying 43 with | some (.struct f)=>f | _=>#[])[0]!,iU,by kernel_rfl,by kernel_rfl,by kernel_rfl⟩
theorem aBv:Fd Tryz.prog 43 1 2 3:=⟨_,(match Tryz.prog.underlying 43 with | some (.struct f)=>f | _=>#[])[1]!,iU,by kernel_rfl,by kernel_rfl,by kernel_rfl⟩
theorem aDz:Fd Tryz.prog 43 2 3 41:=⟨_,(match Tryz.prog.underlying 43 with | some (.struct f)=>f | _=>#[])[2]!,iU,by kernel_rfl,by kernel_rfl,by kernel_rfl⟩
theorem aCn:Fd Tryz.prog 45 0 0 3:=⟨_,(match Tryz.prog.underlying 45 with | some (.struct f)=>f | _=>#[])[0]!,Ou,by kernel_rfl,by kernel_rfl,by kernel_rfl⟩
theorem aBt:Fd Tryz.prog 45 1 1 3:=⟨_,(match Tryz.prog.underlying 45 with | some (.struct f)=>f | _=>#[])[1]!,Ou,by kernel_rfl,by kernel_rfl,by kernel_rfl⟩
theorem aB6:Fd Tryz.prog 45 2 2 3:=⟨_,(match Tryz.prog.underlying 45 with | some (.struct f)=>f | _=>#[])[2]!,Ou,by kernel_rfl,by kernel_rfl,by kernel_rfl⟩
theorem aBu:Fd Tryz.prog 45 3 3 3:=⟨_,(match Tryz.prog.underlying 45 with | some (.struct f)=>f | _=>#[])[3]!,Ou,by kernel_rfl,by kernel_rfl,by kernel_rfl⟩
theorem aA4:Fd Tryz.prog 45 4 4 43:=⟨_,(match Tryz.prog.underlying 45 with | some (.struct f)=>f | _=>#[])[4]!,Ou,by kernel_rfl,by kernel_rfl,by kernel_rfl⟩
theorem aCv:Fd Tryz.prog 59 0 0 9:=⟨_,(match Tryz.prog.underlying 59 with | some (.struct f)=>f | _=>#[])[0]!,Ri,by kernel_rfl,by kernel_rfl,by kernel_rfl⟩
theorem aBx:Fd Tryz.prog 59 1 1 3:=⟨_,(match Tryz.prog.underlying 59 with | some (.struct f)=>f | _=>#[])[1]!,Ri,by kernel_rfl,by kernel_rfl,by kernel_rfl⟩
theorem aBm:Fd Tryz.prog 59 2 2 3:=⟨_,(match Tryz.prog.underlying 59 with | some (.struct f)=>f | _=>#[])[2]!,Ri,by kernel_rfl,by kernel_rfl,by kernel_rfl⟩
theorem aDp:Fd Tryz.prog 59 3 3 22:=⟨_,(match Tryz.prog.underlying 59 with | some (.struct f)=>f | _=>#[])[3]!,Ri,by kernel_rfl,by kernel_rfl,by kernel_rfl⟩
theorem aBk:Fd Tryz.prog 59 5 5 57:=⟨_,(match Tryz.prog.underlying 59 with | some (.struct f)=>f | _=>#[])[5]!,Ri,by kernel_rfl,by kernel_rfl,by kernel_rfl⟩
theorem aBz:Fd Tryz.prog 59 6 6 22:=⟨_,(match Tryz.prog.underlying 59 with | some (.struct f)=>f | _=>#[])[6]!,Ri,by kernel_rfl,by kernel_rfl,by kernel_rfl⟩
theorem aB2:Fd Tryz.prog 59 7 7 22:=⟨_,(match Tryz.prog.underlying 59 with | some (.struct f)=>f | _=>#[])[7]!,Ri,by kernel_rfl,by kernel_rfl,by kernel_rfl⟩
theorem aC9:Fd Tryz.prog 68 0 0 22:=⟨_,(match Tryz.prog.underlying 68 with | some (.struct f)=>f | _=>#[])[0]!,qW,by kernel_rfl,by kernel_rfl,by kernel_rfl⟩
theorem aA3:Fd Tryz.prog 68 1 1 3:=⟨_,(match Tryz.prog.underlying 68 with | some (.struct f)=>f | _=>#[])[1]!,qW,by kernel_rfl,by kernel_rfl,by kernel_rfl⟩
theorem aCo:Fd Tryz.prog 76 0 0 3:=⟨_,(match Tryz.prog.underlying 76 with | some (.struct f)=>f | _=>#[])[0]!,Vd,by kernel_rfl,by kernel_rfl,by kernel_rfl⟩
theorem aBf:Fd Tryz.prog 76 1 1 3:=⟨_,(match Tryz.prog.underlying 76 with | some (.struct f)=>f | _=>#[])[1]!,Vd,by kernel_rfl,by kernel_rfl,by kernel_rfl⟩
theorem aB7:Fd Tryz.prog 79 0 0 9:=⟨_,(match Tryz.prog.underlying 79 with | some (.struct f)=>f | _=>#[])[0]!,cQ,by kernel_rfl,by kernel_rfl,by kernel_rfl⟩
theorem aCc:Fd Tryz.prog 79 1 1 3:=⟨_,(match Tryz.prog.underlying 79 with | some (.struct f)=>f | _=>#[])[1]!,cQ,by kernel_rfl,by kernel_rfl,by kernel_rfl⟩
theorem aD7:Fd Tryz.prog 79 2 2 3:=⟨_,(match Tryz.prog.underlying 79 with | some (.struct f)=>f | _=>#[])[2]!,cQ,by kernel_rfl,by kernel_rfl,by kernel_rfl⟩
theorem aCk:Fd Tryz.prog 79 3 3 77:=⟨_,(match Tryz.prog.underlying 79 with | some (.struct f)=>f | _=>#[])[3]!,cQ,by kernel_rfl,by kernel_rfl,by kernel_rfl⟩
theorem aD2:Fd Tryz.prog 79 4 4 3:=⟨_,(match Tryz.prog.underlying 79 with | some (.struct f)=>f | _=>#[])[4]!,cQ,by kernel_rfl,by kernel_rfl,by kernel_rfl⟩
theorem aAf:((match Tryz.prog.underlying 101 with | some (.struct f)=>f | _=>#[]):Array Field).toList.map (fun f=>(Tryz.prog.info? f.type).map fun i=>(f.offset,i.size))=[(0,1),(1,1)].map some:=by kernel_rfl
theorem qQ:((match Tryz.prog.underlying 103 with | some (.struct f)=>f | _=>#[]):Array Field).toList.map (fun f=>(Tryz.prog.info? f.type).map fun i=>(f.offset,i.size))=[(0,1),(1,1),(2,1),(3,2),(5,1),(6,2),(8,1),(9,1),(10,1),(11,1),(12,1),(13,2)].map some:=by kernel_rfl
theorem aGz:((match Tryz.prog.underlying 107 with | some (.struct f)=>f | _=>#[]):Array Field).toList.map (fun f=>(Tryz.prog.info? f.type).map fun i=>(f.offset,i.size))=[(0,2),(2,1)].map some:=by kernel_rfl
theorem Lu:((match Tryz.prog.underlying 146 with | some (.struct f)=>f | _=>#[]):Array Field).toList.map (fun f=>(Tryz.prog.info? f.type).map fun i=>(f.offset,i.size))=[(0,1),(1,1),(2,2),(4,2),(6,2),(8,2),(10,1),(11,1)].map some:=by kernel_rfl
theorem gY:((match Tryz.prog.underlying 152 with | some (.struct f)=>f | _=>#[]):Array Field).toList.map (fun f=>(Tryz.prog.info? f.type).map fun i=>(f.offset,i.size))=[(0,1),(1,1),(2,1),(3,1)].map some:=by kernel_rfl
theorem Kd:((match Tryz.prog.underlying 172 with | some (.struct f)=>f | _=>#[]):Array Field).toList.map (fun f=>(Tryz.prog.info? f.type).map fun i=>(f.offset,i.size))=[(0,1),(1,1)].map some:=by kernel_rfl
theorem Jz:((match Tryz.prog.underlying 186 with | some (.struct f)=>f | _=>#[]):Array Field).toList.map (fun f=>(Tryz.prog.info? f.type).map fun i=>(f.offset,i.size))=[(0,1),(1,1),(2,1),(3,1),(4,1)].map some:=by kernel_rfl
theorem Yt:((match Tryz.prog.underlying 25 with | some (.struct f)=>f | _=>#[]):Array Field).toList.map (fun f=>(Tryz.prog.info? f.type).map fun i=>(f.offset,i.size))=[(0,1),(1,1)].map some:=by kernel_rfl
theorem Q9:((match Tryz.prog.underlying 40 with | some (.struct f)=>f | _=>#[]):Array Field).toList.map (fun f=>(Tryz.prog.info? f.type).map fun i=>(f.offset,i.size))=[(0,1),(1,1)].map some:=by kernel_rfl
theorem aEx:((match Tryz.prog.underlying 43 with | some (.struct f)=>f | _=>#[]):Array Field).toList.map (fun f=>(Tryz.prog.info? f.type).map fun i=>(f.offset,i.size))=[(0,2),(2,1),(3,1)].map some:=by kernel_rfl
theorem eG:((match Tryz.prog.underlying 45 with | some (.struct f)=>f | _=>#[]):Array Field).toList.map (fun f=>(Tryz.prog.info? f.type).map fun i=>(f.offset,i.size))=[(0,1),(1,1),(2,1),(3,1),(4,4)].map some:=by kernel_rfl
theorem xW:((match Tryz.prog.underlying 59 with | some (.struct f)=>f | _=>#[]):Array Field).toList.map (fun f=>(Tryz.prog.info? f.type).map fun i=>(f.offset,i.size))=[(0,1),(1,1),(2,1),(3,1),(4,1),(5,1),(6,1),(7,1),(8,1)].map some:=by kernel_rfl
theorem aJw:((match Tryz.prog.underlying 68 with | some (.struct f)=>f | _=>#[]):Array Field).toList.map (fun f=>(Tryz.prog.info? f.type).map fun i=>(f.offset,i.size))=[(0,1),(1,1)].map some:=by kernel_rfl
theorem jU:((match Tryz.prog.underlying 76 with | some (.struct f)=>f | _=>#[]):Array Field).toList.map (fun f=>(Tryz.prog.info? f.type).map fun i=>(f.offset,i.size))=[(0,1),(1,1)].map some:=by kernel_rfl
theorem aJg:((match Tryz.prog.underlying 79 with | some (.struct f)=>f | _=>#[]):Array Field).toList.map (fun f=>(Tryz.prog.info? f.type).map fun i=>(f.offset,i.size))=[(0,1),(1,1),(2,1),(3,1),(4,1)].map some:=by kernel_rfl
theorem Yj:Gl Tryz.prog 119 120 2 16:=Gl.mk' (z:=(.agg #[.int .i64 0,.int .i64 0])) (by kernel_rfl) (by kernel_rfl) rfl (by decide) (by decide)
theorem Rx:Gl Tryz.prog 129 5 1 1:=Gl.mk' (z:=(.int .u8 0)) (by kernel_rfl) (by kernel_rfl) rfl (by decide) (by decide)
theorem gW:Gl Tryz.prog 150 152 4 64:=Gl.mk' (z:=(.agg #[.int .i64 0,.slice none 0 0,.bool false,.slice none 0 0])) (by kernel_rfl) (by kernel_rfl) rfl (by decide) (by decide)
theorem qI:Gl Tryz.prog 169 146 12 104:=Gl.mk' (z:=(.agg #[.int .i64 0,.string ⟨#[]⟩,.int .i64 0,.int .i64 0,.int .i64 0,.int .i64 0,.int .i64 0,.int .i64 0,.int .i64 0,.int .i64 0,.int .i64 0,.int .i64 0])) (by kernel_rfl) (by kernel_rfl) rfl (by decide) (by decide)
theorem aAl:Gl Tryz.prog 173 172 2 24:=Gl.mk' (z:=(.agg #[.string ⟨#[]⟩,.int .i64 0])) (by kernel_rfl) (by kernel_rfl) rfl (by decide) (by decide)
theorem Es:Gl Tryz.prog 22 3 1 8:=Gl.mk' (z:=(.int .i64 0)) (by kernel_rfl) (by kernel_rfl) rfl (by decide) (by decide)
theorem W9:Gl Tryz.prog 23 25 2 16:=Gl.mk' (z:=(.agg #[.int .i64 0,.int .i64 0])) (by kernel_rfl) (by kernel_rfl) rfl (by decide) (by decide)
theorem xO:Gl Tryz.prog 30 59 9 144:=Gl.mk' (z:=(.agg #[.string ⟨#[]⟩,.int .i64 0,.int .i64 0,.slice none 0 0,.bool false,.slice none 0 0,.slice none 0 0,.slice none 0 0,.bool false])) (by kernel_rfl) (by kernel_rfl) rfl (by decide) (by decide)
theorem tZ:Gl Tryz.prog 31 76 2 16:=Gl.mk' (z:=(.agg #[.int .i64 0,.int .i64 0])) (by kernel_rfl) (by kernel_rfl) rfl (by decide) (by decide)
theorem vP:Gl Tryz.prog 32 79 5 64:=Gl.mk' (z:=(.agg #[.string ⟨#[]⟩,.int .i64 0,.int .i64 0,.slice none 0 0,.int .i64 0])) (by kernel_rfl) (by kernel_rfl) rfl (by decide) (by decide)
theorem jN:Gl Tryz.prog 36 45 8 80:=Gl.mk' (z:=(.agg #[.int .i64 0,.int .i64 0,.int .i64 0,.int .i64 0,.int .i64 0,.int .i64 0,.int .i64 0,.slice none 0 0])) (by kernel_rfl) (by kernel_rfl) rfl (by decide) (by decide)
theorem wE:Gl Tryz.prog 41 103 15 152:=Gl.mk' (z:=(.agg #[.int .i64 0,.string ⟨#[]⟩,.string ⟨#[]⟩,.int .i64 0,.int .i64 0,.int .i64 0,.int .i64 0,.int .i64 0,.int .i64 0,.int .i64 0,.bool false,.int .i64 0,.slice none 0 0,.int .i64 0,.int .i64 0])) (by kernel_rfl) (by kernel_rfl) rfl (by decide) (by decide)
theorem aGw:Gl Tryz.prog 48 34 3 72:=Gl.mk' (z:=(.agg #[.slice none 0 0,.slice none 0 0,.slice none 0 0])) (by kernel_rfl) (by kernel_rfl) rfl (by decide) (by decide)
theorem xE:Gl Tryz.prog 57 43 4 48:=Gl.mk' (z:=(.agg #[.int .i64 0,.int .i64 0,.int .i64 0,.slice none 0 0])) (by kernel_rfl) (by kernel_rfl) rfl (by decide) (by decide)
theorem aFg:Gl Tryz.prog 63 23 1 24:=Gl.mk' (z:=(.slice none 0 0)) (by kernel_rfl) (by kernel_rfl) rfl (by decide) (by decide)
theorem Qh:Gl Tryz.prog 69 9 1 16:=Gl.mk' (z:=(.string ⟨#[]⟩)) (by kernel_rfl) (by kernel_rfl) rfl (by decide) (by decide)
theorem yS:Gl Tryz.prog 72 22 1 24:=Gl.mk' (z:=(.slice none 0 0)) (by kernel_rfl) (by kernel_rfl) rfl (by decide) (by decide)
theorem aGd:Gl Tryz.prog 77 107 3 24:=Gl.mk' (z:=(.agg #[.int .i64 0,.int .i64 0,.int .i64 0])) (by kernel_rfl) (by kernel_rfl) rfl (by decide) (by decide)
theorem aDv:Gl Tryz.prog 83 40 2 16:=Gl.mk' (z:=(.agg #[.int .i64 0,.int .i64 0])) (by kernel_rfl) (by kernel_rfl) rfl (by decide) (by decide)
theorem lE:Gl Tryz.prog 97 99 1 24:=Gl.mk' (z:=(.slice none 0 0)) (by kernel_rfl) (by kernel_rfl) rfl (by decide) (by decide)
theorem pR:Gl Tryz.prog 99 4 1 1:=Gl.mk' (z:=(.bool false)) (by kernel_rfl) (by kernel_rfl) rfl (by decide) (by decide)
theorem aHr:Ty Tryz.prog 101 true 2:=⟨by kernel_rfl,by kernel_rfl⟩
theorem aE3:Ty Tryz.prog 103 true 15:=⟨by kernel_rfl,by kernel_rfl⟩
theorem aGo:Ty Tryz.prog 107 true 3:=⟨by kernel_rfl,by kernel_rfl⟩
theorem mU:Ty Tryz.prog 120 true 2:=⟨by kernel_rfl,by kernel_rfl⟩
theorem aG8:Ty Tryz.prog 129 false 1:=⟨by kernel_rfl,by kernel_rfl⟩
theorem aFw:Ty Tryz.prog 146 true 12:=⟨by kernel_rfl,by kernel_rfl⟩
theorem aEv:Ty Tryz.prog 150 false 1:=⟨by kernel_rfl,by kernel_rfl⟩
theorem iX:Ty Tryz.prog 152 true 4:=⟨by kernel_rfl,by kernel_rfl⟩
theorem zX:Ty Tryz.prog 186 true 5:=⟨by kernel_rfl,by kernel_rfl⟩
theorem aE9:Ty Tryz.prog 190 false 1:=⟨by kernel_rfl,by kernel_rfl⟩
theorem aG6:Ty Tryz.prog 201 true 115:=⟨by kernel_rfl,by kernel_rfl⟩
theorem zN:Ty Tryz.prog 205 true 2:=⟨by kernel_rfl,by kernel_rfl⟩
theorem wD:Ty Tryz.prog 22 false 1:=⟨by kernel_rfl,by kernel_rfl⟩
theorem aFi:Ty Tryz.prog 23 false 1:=⟨by kernel_rfl,by kernel_rfl⟩
theorem aId:Ty Tryz.prog 25 true 2:=⟨by kernel_rfl,by kernel_rfl⟩
theorem sF:Ty Tryz.prog 3 false 1:=⟨by kernel_rfl,by kernel_rfl⟩
theorem tL:Ty Tryz.prog 30 false 1:=⟨by kernel_rfl,by kernel_rfl⟩
theorem aIy:Ty Tryz.prog 31 false 1:=⟨by kernel_rfl,by kernel_rfl⟩
theorem aJk:Ty Tryz.prog 32 false 1:=⟨by kernel_rfl,by kernel_rfl⟩
theorem aCu:Ty Tryz.prog 34 true 3:=⟨by kernel_rfl,by kernel_rfl⟩
theorem kW:Ty Tryz.prog 36 false 1:=⟨by kernel_rfl,by kernel_rfl⟩
theorem aDr:Ty Tryz.prog 38 false 1:=⟨by kernel_rfl,by kernel_rfl⟩
theorem ty4:Ty Tryz.prog 4 false 1:=⟨by kernel_rfl,by kernel_rfl⟩
theorem aIh:Ty Tryz.prog 40 true 2:=⟨by kernel_rfl,by kernel_rfl⟩
theorem aIs:Ty Tryz.prog 41 false 1:=⟨by kernel_rfl,by kernel_rfl⟩
theorem aI7:Ty Tryz.prog 43 true 4:=⟨by kernel_rfl,by kernel_rfl⟩
theorem aIr:Ty Tryz.prog 45 true 8:=⟨by kernel_rfl,by kernel_rfl⟩
theorem ty5:Ty Tryz.prog 5 false 1:=⟨by kernel_rfl,by kernel_rfl⟩
theorem aJr:Ty Tryz.prog 57 false 1:=⟨by kernel_rfl,by kernel_rfl⟩
theorem aIg:Ty Tryz.prog 59 true 9:=⟨by kernel_rfl,by kernel_rfl⟩
theorem aJx:Ty Tryz.prog 69 false 1:=⟨by kernel_rfl,by kernel_rfl⟩
theorem aIa:Ty Tryz.prog 76 true 2:=⟨by kernel_rfl,by kernel_rfl⟩
theorem aI1:Ty Tryz.prog 77 false 1:=⟨by kernel_rfl,by kernel_rfl⟩
theorem aJl:Ty Tryz.prog 79 true 5:=⟨by kernel_rfl,by kernel_rfl⟩
theorem ty9:Ty Tryz.prog 9 false 1:=⟨by kernel_rfl,by kernel_rfl⟩
theorem jB:Ty Tryz.prog 99 false 1:=⟨by kernel_rfl,by kernel_rfl⟩
theorem aC8:Zt Tryz.prog 101 [.int .i64 0,.int .i64 0]:=⟨(.agg #[.int .i64 0,.int .i64 0]),by kernel_rfl,rfl,by decide⟩
theorem jR:Zt Tryz.prog 103 [.int .i64 0,.string ⟨#[]⟩,.string ⟨#[]⟩,.int .i64 0,.int .i64 0,.int .i64 0,.int .i64 0,.int .i64 0,.int .i64 0,.int .i64 0,.bool false,.int .i64 0,.slice none 0 0,.int .i64 0,.int .i64 0]:=⟨(.agg #[.int .i64 0,.string ⟨#[]⟩,.string ⟨#[]⟩,.int .i64 0,.int .i64 0,.int .i64 0,.int .i64 0,.int .i64 0,.int .i64 0,.int .i64 0,.bool false,.int .i64 0,.slice none 0 0,.int .i64 0,.int .i64 0]),by kernel_rfl,rfl,by decide⟩
theorem aBl:Zt Tryz.prog 107 [.int .i64 0,.int .i64 0,.int .i64 0]:=⟨(.agg #[.int .i64 0,.int .i64 0,.int .i64 0]),by kernel_rfl,rfl,by decide⟩
theorem aA6:Zt Tryz.prog 120 [.int .i64 0,.int .i64 0]:=⟨(.agg #[.int .i64 0,.int .i64 0]),by kernel_rfl,rfl,by decide⟩
theorem Oi:Zt Tryz.prog 146 [.int .i64 0,.string ⟨#[]⟩,.int .i64 0,.int .i64 0,.int .i64 0,.int .i64 0,.int .i64 0,.int .i64 0,.int .i64 0,.int .i64 0,.int .i64 0,.int .i64 0]:=⟨(.agg #[.int .i64 0,.string ⟨#[]⟩,.int .i64 0,.int .i64 0,.int .i64 0,.int .i64 0,.int .i64 0,.int .i64 0,.int .i64 0,.int .i64 0,.int .i64 0,.int .i64 0]),by kernel_rfl,rfl,by decide⟩
theorem bE:Zt Tryz.prog 152 [.int .i64 0,.slice none 0 0,.bool false,.slice none 0 0]:=⟨(.agg #[.int .i64 0,.slice none 0 0,.bool false,.slice none 0 0]),by kernel_rfl,rfl,by decide⟩
theorem Mz:Zt Tryz.prog 172 [.string ⟨#[]⟩,.int .i64 0]:=⟨(.agg #[.string ⟨#[]⟩,.int .i64 0]),by kernel_rfl,rfl,by decide⟩
theorem Nd:Zt Tryz.prog 186 [.string ⟨#[]⟩,.int .i64 0,.int .i64 0,.slice none 0 0,.slice none 0 0]:=⟨(.agg #[.string ⟨#[]⟩,.int .i64 0,.int .i64 0,.slice none 0 0,.slice none 0 0]),by kernel_rfl,rfl,by decide⟩
theorem aIo:Zt Tryz.prog 190 [.int .u64 0]:=⟨(.int .u64 0),by kernel_rfl,rfl,by decide⟩
theorem aHo:Zt Tryz.prog 201 [.string ⟨#[]⟩,.int .i64 0,.int .i64 0,.slice none 0 0,.slice none 0 0,.string ⟨#[]⟩,.int .i64 0,.int .i64 0,.slice none 0 0,.slice none 0 0,.string ⟨#[]⟩,.int .i64 0,.int .i64 0,.slice none 0 0,.slice none 0 0,.string ⟨#[]⟩,.int .i64 0,.int .i64 0,.slice none 0 0,.slice none 0 0,.string ⟨#[]⟩,.int .i64 0,.int .i64 0,.slice none 0 0,.slice none 0 0,.string ⟨#[]⟩,.int .i64 0,.int .i64 0,.slice none 0 0,.slice none 0 0,.string ⟨#[]⟩,.int .i64 0,.int .i64 0,.slice none 0 0,.slice none 0 0,.string ⟨#[]⟩,.int .i64 0,.int .i64 0,.slice none 0 0,.slice none 0 0,.string ⟨#[]⟩,.int .i64 0,.int .i64 0,.slice none 0 0,.slice none 0 0,.string ⟨#[]⟩,.int .i64 0,.int .i64 0,.slice none 0 0,.slice none 0 0,.string ⟨#[]⟩,.int .i64 0,.int .i64 0,.slice none 0 0,.slice none 0 0,.string ⟨#[]⟩,.int .i64 0,.int .i64 0,.slice none 0 0,.slice none 0 0,.string ⟨#[]⟩,.int .i64 0,.int .i64 0,.slice none 0 0,.slice none 0 0,.string ⟨#[]⟩,.int .i64 0,.int .i64 0,.slice none 0 0,.slice none 0 0,.string ⟨#[]⟩,.int .i64 0,.int .i64 0,.slice none 0 0,.slice none 0 0,.string ⟨#[]⟩,.int .i64 0,.int .i64 0,.slice none 0 0,.slice none 0 0,.string ⟨#[]⟩,.int .i64 0,.int .i64 0,.slice none 0 0,.slice none 0 0,.string ⟨#[]⟩,.int .i64 0,.int .i64 0,.slice none 0 0,.slice none 0 0,.string ⟨#[]⟩,.int .i64 0,.int .i64 0,.slice none 0 0,.slice none 0 0,.string ⟨#[]⟩,.int .i64 0,.int .i64 0,.slice none 0 0,.slice none 0 0,.string ⟨#[]⟩,.int .i64 0,.int .i64 0,.slice none 0 0,.slice none 0 0,.string ⟨#[]⟩,.int .i64 0,.int .i64 0,.slice none 0 0,.slice none 0 0,.string ⟨#[]⟩,.int .i64 0,.int .i64 0,.slice none 0 0,.slice none 0 0]:=⟨(.agg #[.string ⟨#[]⟩,.int .i64 0,.int .i64 0,.slice none 0 0,.slice none 0 0,.string ⟨#[]⟩,.int .i64 0,.int .i64 0,.slice none 0 0,.slice none 0 0,.string ⟨#[]⟩,.int .i64 0,.int .i64 0,.slice none 0 0,.slice none 0 0,.string ⟨#[]⟩,.int .i64 0,.int .i64 0,.slice none 0 0,.slice none 0 0,.string ⟨#[]⟩,.int .i64 0,.int .i64 0,.slice none 0 0,.slice none 0 0,.string ⟨#[]⟩,.int .i64 0,.int .i64 0,.slice none 0 0,.slice none 0 0,.string ⟨#[]⟩,.int .i64 0,.int .i64 0,.slice none 0 0,.slice none 0 0,.string ⟨#[]⟩,.int .i64 0,.int .i64 0,.slice none 0 0,.slice none 0 0,.string ⟨#[]⟩,.int .i64 0,.int .i64 0,.slice none 0 0,.slice none 0 0,.string ⟨#[]⟩,.int .i64 0,.int .i64 0,.slice none 0 0,.slice none 0 0,.string ⟨#[]⟩,.int .i64 0,.int .i64 0,.slice none 0 0,.slice none 0 0,.string ⟨#[]⟩,.int .i64 0,.int .i64 0,.slice none 0 0,.slice none 0 0,.string ⟨#[]⟩,.int .i64 0,.int .i64 0,.slice none 0 0,.slice none 0 0,.string ⟨#[]⟩,.int .i64 0,.int .i64 0,.slice none 0 0,.slice none 0 0,.string ⟨#[]⟩,.int .i64 0,.int .i64 0,.slice none 0 0,.slice none 0 0,.string ⟨#[]⟩,.int .i64 0,.int .i64 0,.slice none 0 0,.slice none 0 0,.string ⟨#[]⟩,.int .i64 0,.int .i64 0,.slice none 0 0,.slice none 0 0,.string ⟨#[]⟩,.int .i64 0,.int .i64 0,.slice none 0 0,.slice none 0 0,.string ⟨#[]⟩,.int .i64 0,.int .i64 0,.slice none 0 0,.slice none 0 0,.string ⟨#[]⟩,.int .i64 0,.int .i64 0,.slice none 0 0,.slice none 0 0,.string ⟨#[]⟩,.int .i64 0,.int .i64 0,.slice none 0 0,.slice none 0 0,.string ⟨#[]⟩,.int .i64 0,.int .i64 0,.slice none 0 0,.slice none 0 0,.string ⟨#[]⟩,.int .i64 0,.int .i64 0,.slice none 0 0,.slice none 0 0]),by kernel_rfl,rfl,by decide⟩
theorem pF:Zt Tryz.prog 205 [.int .i64 0,.int .i64 0]:=⟨(.agg #[.int .i64 0,.int .i64 0]),by kernel_rfl,rfl,by decide⟩
theorem aFa:Zt Tryz.prog 206 [.int .i64 0,.int .i64 0,.int .i64 0,.int .i64 0,.int .i64 0,.int .i64 0,.int .i64 0,.int .i64 0,.int .i64 0,.int .i64 0]:=⟨(.agg #[.int .i64 0,.int .i64 0,.int .i64 0,.int .i64 0,.int .i64 0,.int .i64 0,.int .i64 0,.int .i64 0,.int .i64 0,.int .i64 0]),by kernel_rfl,rfl,by decide⟩
theorem z22:Zt Tryz.prog 22 [.slice none 0 0]:=⟨(.slice none 0 0),by kernel_rfl,rfl,by decide⟩
theorem z23:Zt Tryz.prog 23 [.slice none 0 0]:=⟨(.slice none 0 0),by kernel_rfl,rfl,by decide⟩
theorem Z9:Zt Tryz.prog 25 [.int .i64 0,.int .i64 0]:=⟨(.agg #[.int .i64 0,.int .i64 0]),by kernel_rfl,rfl,by decide⟩
theorem z3:Zt Tryz.prog 3 [.int .i64 0]:=⟨(.int .i64 0),by kernel_rfl,rfl,by decide⟩
theorem z34:Zt Tryz.prog 34 [.slice none 0 0,.slice none 0 0,.slice none 0 0]:=⟨(.agg #[.slice none 0 0,.slice none 0 0,.slice none 0 0]),by kernel_rfl,rfl,by decide⟩
theorem z4:Zt Tryz.prog 4 [.bool false]:=⟨(.bool false),by kernel_rfl,rfl,by decide⟩
theorem bN:Zt Tryz.prog 40 [.int .i64 0,.int .i64 0]:=⟨(.agg #[.int .i64 0,.int .i64 0]),by kernel_rfl,rfl,by decide⟩
theorem z43:Zt Tryz.prog 43 [.int .i64 0,.int .i64 0,.int .i64 0,.slice none 0 0]:=⟨(.agg #[.int .i64 0,.int .i64 0,.int .i64 0,.slice none 0 0]),by kernel_rfl,rfl,by decide⟩
theorem jK:Zt Tryz.prog 45 [.int .i64 0,.int .i64 0,.int .i64 0,.int .i64 0,.int .i64 0,.int .i64 0,.int .i64 0,.slice none 0 0]:=⟨(.agg #[.int .i64 0,.int .i64 0,.int .i64 0,.int .i64 0,.int .i64 0,.int .i64 0,.int .i64 0,.slice none 0 0]),by kernel_rfl,rfl,by decide⟩
theorem z5:Zt Tryz.prog 5 [.int .u8 0]:=⟨(.int .u8 0),by kernel_rfl,rfl,by decide⟩
theorem z59:Zt Tryz.prog 59 [.string ⟨#[]⟩,.int .i64 0,.int .i64 0,.slice none 0 0,.bool false,.slice none 0 0,.slice none 0 0,.slice none 0 0,.bool false]:=⟨(.agg #[.string ⟨#[]⟩,.int .i64 0,.int .i64 0,.slice none 0 0,.bool false,.slice none 0 0,.slice none 0 0,.slice none 0 0,.bool false]),by kernel_rfl,rfl,by decide⟩
theorem z68:Zt Tryz.prog 68 [.slice none 0 0,.int .i64 0]:=⟨(.agg #[.slice none 0 0,.int .i64 0]),by kernel_rfl,rfl,by decide⟩
theorem rB:Zt Tryz.prog 76 [.int .i64 0,.int .i64 0]:=⟨(.agg #[.int .i64 0,.int .i64 0]),by kernel_rfl,rfl,by decide⟩
theorem z79:Zt Tryz.prog 79 [.string ⟨#[]⟩,.int .i64 0,.int .i64 0,.slice none 0 0,.int .i64 0]:=⟨(.agg #[.string ⟨#[]⟩,.int .i64 0,.int .i64 0,.slice none 0 0,.int .i64 0]),by kernel_rfl,rfl,by decide⟩
theorem z9:Zt Tryz.prog 9 [.string ⟨#[]⟩]:=⟨(.string ⟨#[]⟩),by kernel_rfl,rfl,by decide⟩
theorem z99:Zt Tryz.prog 99 [.slice none 0 0]:=⟨(.slice none 0 0),by kernel_rfl,rfl,by decide⟩
theorem tO:H1 Tryz.prog 20 103=[none,none,none,none,none,none,none,none,none,none,none,none,some 1,none,none]:=by kernel_rfl
theorem aHj:H1 Tryz.prog 20 107=[none,none,none]:=by kernel_rfl
theorem Hs:H1 Tryz.prog 20 120=[none,none]:=by kernel_rfl
theorem zV:H1 Tryz.prog 20 146=[none,none,none,none,none,none,none,none,none,none,none,none]:=by kernel_rfl
theorem mW:H1 Tryz.prog 20 152=[none,some 1,none,some 4]:=by kernel_rfl
theorem aHc:H1 Tryz.prog 20 172=[none,none]:=by kernel_rfl
theorem aCl:H1 Tryz.prog 20 22=[some 1]:=by kernel_rfl
theorem aJ1:H1 Tryz.prog 20 23=[some 2]:=by kernel_rfl
theorem aU:H1 Tryz.prog 20 25=[none,none]:=by kernel_rfl
theorem I6:H1 Tryz.prog 20 3=[none]:=by kernel_rfl
theorem aH9:H1 Tryz.prog 20 34=[some 9,some 2,some 5]:=by kernel_rfl
theorem ck4:H1 Tryz.prog 20 4=[none]:=by kernel_rfl
theorem aF7:H1 Tryz.prog 20 40=[none,none]:=by kernel_rfl
theorem aE2:H1 Tryz.prog 20 43=[none,none,none,some 15]:=by kernel_rfl
theorem gQ:H1 Tryz.prog 20 45=[none,none,none,none,none,none,none,some 15]:=by kernel_rfl
theorem vJ:H1 Tryz.prog 20 5=[none]:=by kernel_rfl
theorem aHu:H1 Tryz.prog 20 59=[none,none,none,some 1,none,some 4,some 1,some 1,none]:=by kernel_rfl
theorem aD4:H1 Tryz.prog 20 76=[none,none]:=by kernel_rfl
theorem aGe:H1 Tryz.prog 20 79=[none,none,none,some 3,none]:=by kernel_rfl
theorem vW:H1 Tryz.prog 20 9=[none]:=by kernel_rfl
theorem aIl (s:ByteArray) (c:UInt8) (w:World):(callFunc 162 [.string s,.int .u8 (c.toNat:Int)].toArray).run Tryz.prog w=.ok (.value (.int .i64 (eO s c))) w:=sN Tryz.func162 rfl rfl (by kernel_rfl) (by kernel_rfl) s c w
theorem zP:Tryz.prog.eqGuardType Tryz.prog.depth 120=false:=by kernel_rfl
theorem aGt:Tryz.prog.underlying 120=some (.struct (Tryz.prog.fieldsOf 120)):=by kernel_rfl
theorem aGk:Tryz.prog.stoodInHeld 120=false:=by kernel_rfl
theorem zR (x y:Aa) (w:World):(Op.equalIn 10000 120 (.agg #[.int .i64 x.First,.int .i64 x.Then]) (.agg #[.int .i64 y.First,.int .i64 y.Then])).run Tryz.prog w=.ok (decide (x=y)) w:=by
 have u3:=Tryz.underlying3
 have a3:=Tryz.isAgg3
 have z3:=Tryz.sizeOf3
 rw [show (10000:Nat)=9999 + 1 from rfl,run_equalIn_agg w 9999 120 _ _ aGt aGk]
 simp only [Program.fieldsOf,Tryz.underlying120]
 go_simp
 rcases x with ⟨x0,x1⟩
 rcases y with ⟨y0,y1⟩
 by_cases h0:x0=y0 <;> by_cases h1:x1=y1 <;> simp [h0,h1]
theorem jJ (x y:Aa) {X Y:Operand} {tk:Nat} {yt ty:TypeId} {b1 b2:Option LB}:Fi Tryz.prog tk (.binOp .eql 120 X Y yt) ty [(.agg [.val (.int .i64 x.First),.val (.int .i64 x.Then)],b1),(.agg [.val (.int .i64 y.First),.val (.int .i64 y.Then)],b2)] [] (v0 (.val (.bool (decide (x=y))))):=
 .binOpA rfl rfl (fun _ _=>rfl) (fun w=>by
  rw [Sem.run_bind,run_eqGuard_agg w _ 120 X Y _ _ zP]
  simp only [Result.andThen_ok,run_eql_struct]
  exact congrArg (fun r=>Result.andThen r _) (zR x y w))
theorem jA (x y:Aa) {X Y:Operand} {tk:Nat} {yt ty:TypeId} {b1 b2:Option LB}:Fi Tryz.prog tk (.binOp .neq 120 X Y yt) ty [(.agg [.val (.int .i64 x.First),.val (.int .i64 x.Then)],b1),(.agg [.val (.int .i64 y.First),.val (.int .i64 y.Then)],b2)] [] (v0 (.val (.bool (!decide (x=y))))):=
 .binOpA rfl rfl (fun _ _=>rfl) (fun w=>by
  rw [Sem.run_bind,run_eqGuard_agg w _ 120 X Y _ _ zP]
  simp only [Result.andThen_ok,run_neq_struct]
  exact congrArg (fun r=>Result.andThen r _) (zR x y w))
theorem aHk:Tryz.prog.eqGuardType Tryz.prog.depth 25=false:=by kernel_rfl
theorem aE5:Tryz.prog.underlying 25=some (.struct (Tryz.prog.fieldsOf 25)):=by kernel_rfl
theorem aI9:Tryz.prog.stoodInHeld 25=false:=by kernel_rfl
theorem aDg (x y:Ac) (w:World):(Op.equalIn 10000 25 (.agg #[.int .i64 x.First,.int .i64 x.Then]) (.agg #[.int .i64 y.First,.int .i64 y.Then])).run Tryz.prog w=.ok (decide (x=y)) w:=by
 have u3:=Tryz.underlying3
 have a3:=Tryz.isAgg3
 have z3:=Tryz.sizeOf3
 rw [show (10000:Nat)=9999 + 1 from rfl,run_equalIn_agg w 9999 25 _ _ aE5 aI9]
 simp only [Program.fieldsOf,Tryz.underlying25]
 go_simp
 rcases x with ⟨x0,x1⟩
 rcases y with ⟨y0,y1⟩
 by_cases h0:x0=y0 <;> by_cases h1:x1=y1 <;> simp [h0,h1]
theorem kV (x y:Ac) {X Y:Operand} {tk:Nat} {yt ty:TypeId} {b1 b2:Option LB}:Fi Tryz.prog tk (.binOp .eql 25 X Y yt) ty [(.agg [.val (.int .i64 x.First),.val (.int .i64 x.Then)],b1),(.agg [.val (.int .i64 y.First),.val (.int .i64 y.Then)],b2)] [] (v0 (.val (.bool (decide (x=y))))):=
 .binOpA rfl rfl (fun _ _=>rfl) (fun w=>by
  rw [Sem.run_bind,run_eqGuard_agg w _ 25 X Y _ _ aHk]
  simp only [Result.andThen_ok,run_eql_struct]
  exact congrArg (fun r=>Result.andThen r _) (aDg x y w))
theorem Z4 (x y:Ac) {X Y:Operand} {tk:Nat} {yt ty:TypeId} {b1 b2:Option LB}:Fi Tryz.prog tk (.binOp .neq 25 X Y yt) ty [(.agg [.val (.int .i64 x.First),.val (.int .i64 x.Then)],b1),(.agg [.val (.int .i64 y.First),.val (.int .i64 y.Then)],b2)] [] (v0 (.val (.bool (!decide (x=y))))):=
 .binOpA rfl rfl (fun _ _=>rfl) (fun w=>by
  rw [Sem.run_bind,run_eqGuard_agg w _ 25 X Y _ _ aHk]
  simp only [Result.andThen_ok,run_neq_struct]
  exact congrArg (fun r=>Result.andThen r _) (aDg x y w))
theorem aJs:Tryz.prog.eqGuardType Tryz.prog.depth 40=false:=by kernel_rfl
theorem aH8:Tryz.prog.underlying 40=some (.struct (Tryz.prog.fieldsOf 40)):=by kernel_rfl
theorem aJp:Tryz.prog.stoodInHeld 40=false:=by kernel_rfl
theorem aIp (x y:Av) (w:World):(Op.equalIn 10000 40 (.agg #[.int .i64 x.Alg,.int .i64 x.Bits]) (.agg #[.int .i64 y.Alg,.int .i64 y.Bits])).run Tryz.prog w=.ok (decide (x=y)) w:=by
 have u3:=Tryz.underlying3
 have a3:=Tryz.isAgg3
 have z3:=Tryz.sizeOf3
 rw [show (10000:Nat)=9999 + 1 from rfl,run_equalIn_agg w 9999 40 _ _ aH8 aJp]
 simp only [Program.fieldsOf,Tryz.underlying40]
 go_simp
 rcases x with ⟨x0,x1⟩
 rcases y with ⟨y0,y1⟩
 by_cases h0:x0=y0 <;> by_cases h1:x1=y1 <;> simp [h0,h1]
theorem Za (x y:Av) {X Y:Operand} {tk:Nat} {yt ty:TypeId} {b1 b2:Option LB}:Fi Tryz.prog tk (.binOp .eql 40 X Y yt) ty [(.agg [.val (.int .i64 x.Alg),.val (.int .i64 x.Bits)],b1),(.agg [.val (.int .i64 y.Alg),.val (.int .i64 y.Bits)],b2)] [] (v0 (.val (.bool (decide (x=y))))):=
 .binOpA rfl rfl (fun _ _=>rfl) (fun w=>by
  rw [Sem.run_bind,run_eqGuard_agg w _ 40 X Y _ _ aJs]
  simp only [Result.andThen_ok,run_eql_struct]
  exact congrArg (fun r=>Result.andThen r _) (aIp x y w))
theorem aJ0:Tryz.prog.eqGuardType Tryz.prog.depth 76=false:=by kernel_rfl
theorem aIn:Tryz.prog.underlying 76=some (.struct (Tryz.prog.fieldsOf 76)):=by kernel_rfl
theorem aIq:Tryz.prog.stoodInHeld 76=false:=by kernel_rfl
theorem aJe (x y:Aw) (w:World):(Op.equalIn 10000 76 (.agg #[.int .i64 x.Client,.int .i64 x.Server]) (.agg #[.int .i64 y.Client,.int .i64 y.Server])).run Tryz.prog w=.ok (decide (x=y)) w:=by
 have u3:=Tryz.underlying3
 have a3:=Tryz.isAgg3
 have z3:=Tryz.sizeOf3
 rw [show (10000:Nat)=9999 + 1 from rfl,run_equalIn_agg w 9999 76 _ _ aIn aIq]
 simp only [Program.fieldsOf,Tryz.underlying76]
 go_simp
 rcases x with ⟨x0,x1⟩
 rcases y with ⟨y0,y1⟩
 by_cases h0:x0=y0 <;> by_cases h1:x1=y1 <;> simp [h0,h1]
theorem Tk (x y:Aw) {X Y:Operand} {tk:Nat} {yt ty:TypeId} {b1 b2:Option LB}:Fi Tryz.prog tk (.binOp .eql 76 X Y yt) ty [(.agg [.val (.int .i64 x.Client),.val (.int .i64 x.Server)],b1),(.agg [.val (.int .i64 y.Client),.val (.int .i64 y.Server)],b2)] [] (v0 (.val (.bool (decide (x=y))))):=
 .binOpA rfl rfl (fun _ _=>rfl) (fun w=>by
  rw [Sem.run_bind,run_eqGuard_agg w _ 76 X Y _ _ aJ0]
  simp only [Result.andThen_ok,run_eql_struct]
  exact congrArg (fun r=>Result.andThen r _) (aJe x y w))
theorem Ti:Tryz.prog.underlying 94=some (.map 25 4):=by kernel_rfl
abbrev Pk (x:Ac):Value:=.agg #[.int .i64 x.First,.int .i64 x.Then]
theorem zv4 (w:World):(zeroValue 4).run Tryz.prog w=.ok (.bool false) w:=aE1 (by kernel_rfl) w
theorem Tj:aB Tryz.prog 25 Pk:=aI3 (by kernel_rfl) (fun x=>⟨_,rfl⟩) (fun e x w=>jV aE5 (by simp only [Program.fieldsOf,Tryz.underlying25]; intro f hf; simp at hf; rcases hf with rfl | rfl <;> exact⟨by kernel_rfl,_,rfl⟩)) (fun x y w=>aDg x y w) (fun x=>by simp [Instr.sameBits])
instance:Kz Tryz.prog 101 0 0 3:=⟨yK⟩
instance:Kz Tryz.prog 101 1 1 3:=⟨xL⟩
instance:Kz Tryz.prog 103 0 0 3:=⟨xC⟩
instance:Kz Tryz.prog 103 1 1 9:=⟨wQ⟩
instance:Kz Tryz.prog 103 10 12 69:=⟨uP⟩
instance:Kz Tryz.prog 103 11 13 101:=⟨uC⟩
instance:Kz Tryz.prog 103 2 2 9:=⟨xH⟩
instance:Kz Tryz.prog 103 3 3 40:=⟨vZ⟩
instance:Kz Tryz.prog 103 4 5 3:=⟨xV⟩
instance:Kz Tryz.prog 103 5 6 40:=⟨yW⟩
instance:Kz Tryz.prog 103 6 8 3:=⟨vV⟩
instance:Kz Tryz.prog 103 7 9 3:=⟨wV⟩
instance:Kz Tryz.prog 103 8 10 4:=⟨wC⟩
instance:Kz Tryz.prog 103 9 11 3:=⟨yT⟩
instance:Kz Tryz.prog 107 0 0 40:=⟨wU⟩
instance:Kz Tryz.prog 107 1 2 3:=⟨wR⟩
instance:Kz Tryz.prog 120 0 0 3:=⟨wJ⟩
instance:Kz Tryz.prog 120 1 1 3:=⟨xF⟩
instance:Kz Tryz.prog 146 0 0 3:=⟨yB⟩
instance:Kz Tryz.prog 146 4 6 40:=⟨zC⟩
instance:Kz Tryz.prog 152 0 0 3:=⟨wF⟩
instance:Kz Tryz.prog 152 1 1 129:=⟨yO⟩
instance:Kz Tryz.prog 152 2 2 4:=⟨wG⟩
instance:Kz Tryz.prog 152 3 3 150:=⟨xZ⟩
instance:Kz Tryz.prog 172 1 1 3:=⟨yC⟩
instance:Kz Tryz.prog 186 1 1 3:=⟨wA⟩
instance:Kz Tryz.prog 186 2 2 3:=⟨yD⟩
instance:Kz Tryz.prog 186 3 3 22:=⟨xB⟩
instance:Kz Tryz.prog 186 4 4 22:=⟨yJ⟩
instance:Kz Tryz.prog 25 0 0 3:=⟨aBn⟩
instance:Kz Tryz.prog 25 1 1 3:=⟨aC3⟩
instance:Kz Tryz.prog 34 0 0 30:=⟨lI⟩
instance:Kz Tryz.prog 34 1 1 31:=⟨aBi⟩
instance:Kz Tryz.prog 34 2 2 32:=⟨aCm⟩
instance:Kz Tryz.prog 40 0 0 3:=⟨aA8⟩
instance:Kz Tryz.prog 40 1 1 3:=⟨aBc⟩
instance:Kz Tryz.prog 43 0 0 40:=⟨aAu⟩
instance:Kz Tryz.prog 43 1 2 3:=⟨aBv⟩
instance:Kz Tryz.prog 43 2 3 41:=⟨aDz⟩
instance:Kz Tryz.prog 45 0 0 3:=⟨aCn⟩
instance:Kz Tryz.prog 45 1 1 3:=⟨aBt⟩
instance:Kz Tryz.prog 45 2 2 3:=⟨aB6⟩
instance:Kz Tryz.prog 45 3 3 3:=⟨aBu⟩
instance:Kz Tryz.prog 45 4 4 43:=⟨aA4⟩
instance:Kz Tryz.prog 59 0 0 9:=⟨aCv⟩
instance:Kz Tryz.prog 59 1 1 3:=⟨aBx⟩
instance:Kz Tryz.prog 59 2 2 3:=⟨aBm⟩
instance:Kz Tryz.prog 59 3 3 22:=⟨aDp⟩
instance:Kz Tryz.prog 59 5 5 57:=⟨aBk⟩
instance:Kz Tryz.prog 59 6 6 22:=⟨aBz⟩
instance:Kz Tryz.prog 59 7 7 22:=⟨aB2⟩
instance:Kz Tryz.prog 68 0 0 22:=⟨aC9⟩
instance:Kz Tryz.prog 68 1 1 3:=⟨aA3⟩
instance:Kz Tryz.prog 76 0 0 3:=⟨aCo⟩
instance:Kz Tryz.prog 76 1 1 3:=⟨aBf⟩
instance:Kz Tryz.prog 79 0 0 9:=⟨aB7⟩
instance:Kz Tryz.prog 79 1 1 3:=⟨aCc⟩
instance:Kz Tryz.prog 79 2 2 3:=⟨aD7⟩
instance:Kz Tryz.prog 79 3 3 77:=⟨aCk⟩
instance:Kz Tryz.prog 79 4 4 3:=⟨aD2⟩
instance:Sg Tryz.prog 119 120 2 16:=⟨Yj⟩
instance:Sg Tryz.prog 129 5 1 1:=⟨Rx⟩
instance:Sg Tryz.prog 150 152 4 64:=⟨gW⟩
instance:Sg Tryz.prog 169 146 12 104:=⟨qI⟩
instance:Sg Tryz.prog 173 172 2 24:=⟨aAl⟩
instance:Sg Tryz.prog 22 3 1 8:=⟨Es⟩
instance:Sg Tryz.prog 23 25 2 16:=⟨W9⟩
instance:Sg Tryz.prog 30 59 9 144:=⟨xO⟩
instance:Sg Tryz.prog 31 76 2 16:=⟨tZ⟩
instance:Sg Tryz.prog 32 79 5 64:=⟨vP⟩
instance:Sg Tryz.prog 36 45 8 80:=⟨jN⟩
instance:Sg Tryz.prog 41 103 15 152:=⟨wE⟩
instance:Sg Tryz.prog 48 34 3 72:=⟨aGw⟩
instance:Sg Tryz.prog 57 43 4 48:=⟨xE⟩
instance:Sg Tryz.prog 63 23 1 24:=⟨aFg⟩
instance:Sg Tryz.prog 69 9 1 16:=⟨Qh⟩
instance:Sg Tryz.prog 72 22 1 24:=⟨yS⟩
instance:Sg Tryz.prog 77 107 3 24:=⟨aGd⟩
instance:Sg Tryz.prog 83 40 2 16:=⟨aDv⟩
instance:Sg Tryz.prog 97 99 1 24:=⟨lE⟩
instance:Sg Tryz.prog 99 4 1 1:=⟨pR⟩
instance:L1 Tryz.prog 101 true 2:=⟨aHr⟩
instance:L1 Tryz.prog 103 true 15:=⟨aE3⟩
instance:L1 Tryz.prog 107 true 3:=⟨aGo⟩
instance:L1 Tryz.prog 120 true 2:=⟨mU⟩
instance:L1 Tryz.prog 129 false 1:=⟨aG8⟩
instance:L1 Tryz.prog 146 true 12:=⟨aFw⟩
instance:L1 Tryz.prog 150 false 1:=⟨aEv⟩
instance:L1 Tryz.prog 152 true 4:=⟨iX⟩
instance:L1 Tryz.prog 186 true 5:=⟨zX⟩
instance:L1 Tryz.prog 190 false 1:=⟨aE9⟩
instance:L1 Tryz.prog 201 true 115:=⟨aG6⟩
instance:L1 Tryz.prog 205 true 2:=⟨zN⟩
instance:L1 Tryz.prog 22 false 1:=⟨wD⟩
instance:L1 Tryz.prog 23 false 1:=⟨aFi⟩
instance:L1 Tryz.prog 25 true 2:=⟨aId⟩
instance:L1 Tryz.prog 3 false 1:=⟨sF⟩
instance:L1 Tryz.prog 30 false 1:=⟨tL⟩
instance:L1 Tryz.prog 31 false 1:=⟨aIy⟩
instance:L1 Tryz.prog 32 false 1:=⟨aJk⟩
instance:L1 Tryz.prog 34 true 3:=⟨aCu⟩
instance:L1 Tryz.prog 36 false 1:=⟨kW⟩
instance:L1 Tryz.prog 38 false 1:=⟨aDr⟩
instance:L1 Tryz.prog 4 false 1:=⟨ty4⟩
instance:L1 Tryz.prog 40 true 2:=⟨aIh⟩
instance:L1 Tryz.prog 41 false 1:=⟨aIs⟩
instance:L1 Tryz.prog 43 true 4:=⟨aI7⟩
instance:L1 Tryz.prog 45 true 8:=⟨aIr⟩
instance:L1 Tryz.prog 5 false 1:=⟨ty5⟩
instance:L1 Tryz.prog 57 false 1:=⟨aJr⟩
instance:L1 Tryz.prog 59 true 9:=⟨aIg⟩
instance:L1 Tryz.prog 69 false 1:=⟨aJx⟩
instance:L1 Tryz.prog 76 true 2:=⟨aIa⟩
instance:L1 Tryz.prog 77 false 1:=⟨aI1⟩
instance:L1 Tryz.prog 79 true 5:=⟨aJl⟩
instance:L1 Tryz.prog 9 false 1:=⟨ty9⟩
instance:L1 Tryz.prog 99 false 1:=⟨jB⟩
instance:T8 Tryz.prog 101 [.int .i64 0,.int .i64 0]:=⟨aC8⟩
instance:T8 Tryz.prog 103 [.int .i64 0,.string ⟨#[]⟩,.string ⟨#[]⟩,.int .i64 0,.int .i64 0,.int .i64 0,.int .i64 0,.int .i64 0,.int .i64 0,.int .i64 0,.bool false,.int .i64 0,.slice none 0 0,.int .i64 0,.int .i64 0]:=⟨jR⟩
instance:T8 Tryz.prog 107 [.int .i64 0,.int .i64 0,.int .i64 0]:=⟨aBl⟩
instance:T8 Tryz.prog 120 [.int .i64 0,.int .i64 0]:=⟨aA6⟩
instance:T8 Tryz.prog 146 [.int .i64 0,.string ⟨#[]⟩,.int .i64 0,.int .i64 0,.int .i64 0,.int .i64 0,.int .i64 0,.int .i64 0,.int .i64 0,.int .i64 0,.int .i64 0,.int .i64 0]:=⟨Oi⟩
instance:T8 Tryz.prog 152 [.int .i64 0,.slice none 0 0,.bool false,.slice none 0 0]:=⟨bE⟩
instance:T8 Tryz.prog 172 [.string ⟨#[]⟩,.int .i64 0]:=⟨Mz⟩
instance:T8 Tryz.prog 186 [.string ⟨#[]⟩,.int .i64 0,.int .i64 0,.slice none 0 0,.slice none 0 0]:=⟨Nd⟩
instance:T8 Tryz.prog 190 [.int .u64 0]:=⟨aIo⟩
instance:T8 Tryz.prog 201 [.string ⟨#[]⟩,.int .i64 0,.int .i64 0,.slice none 0 0,.slice none 0 0,.string ⟨#[]⟩,.int .i64 0,.int .i64 0,.slice none 0 0,.slice none 0 0,.string ⟨#[]⟩,.int .i64 0,.int .i64 0,.slice none 0 0,.slice none 0 0,.string ⟨#[]⟩,.int .i64 0,.int .i64 0,.slice none 0 0,.slice none 0 0,.string ⟨#[]⟩,.int .i64 0,.int .i64 0,.slice none 0 0,.slice none 0 0,.string ⟨#[]⟩,.int .i64 0,.int .i64 0,.slice none 0 0,.slice none 0 0,.string ⟨#[]⟩,.int .i64 0,.int .i64 0,.slice none 0 0,.slice none 0 0,.string ⟨#[]⟩,.int .i64 0,.int .i64 0,.slice none 0 0,.slice none 0 0,.string ⟨#[]⟩,.int .i64 0,.int .i64 0,.slice none 0 0,.slice none 0 0,.string ⟨#[]⟩,.int .i64 0,.int .i64 0,.slice none 0 0,.slice none 0 0,.string ⟨#[]⟩,.int .i64 0,.int .i64 0,.slice none 0 0,.slice none 0 0,.string ⟨#[]⟩,.int .i64 0,.int .i64 0,.slice none 0 0,.slice none 0 0,.string ⟨#[]⟩,.int .i64 0,.int .i64 0,.slice none 0 0,.slice none 0 0,.string ⟨#[]⟩,.int .i64 0,.int .i64 0,.slice none 0 0,.slice none 0 0,.string ⟨#[]⟩,.int .i64 0,.int .i64 0,.slice none 0 0,.slice none 0 0,.string ⟨#[]⟩,.int .i64 0,.int .i64 0,.slice none 0 0,.slice none 0 0,.string ⟨#[]⟩,.int .i64 0,.int .i64 0,.slice none 0 0,.slice none 0 0,.string ⟨#[]⟩,.int .i64 0,.int .i64 0,.slice none 0 0,.slice none 0 0,.string ⟨#[]⟩,.int .i64 0,.int .i64 0,.slice none 0 0,.slice none 0 0,.string ⟨#[]⟩,.int .i64 0,.int .i64 0,.slice none 0 0,.slice none 0 0,.string ⟨#[]⟩,.int .i64 0,.int .i64 0,.slice none 0 0,.slice none 0 0,.string ⟨#[]⟩,.int .i64 0,.int .i64 0,.slice none 0 0,.slice none 0 0,.string ⟨#[]⟩,.int .i64 0,.int .i64 0,.slice none 0 0,.slice none 0 0]:=⟨aHo⟩
instance:T8 Tryz.prog 205 [.int .i64 0,.int .i64 0]:=⟨pF⟩
instance:T8 Tryz.prog 206 [.int .i64 0,.int .i64 0,.int .i64 0,.int .i64 0,.int .i64 0,.int .i64 0,.int .i64 0,.int .i64 0,.int .i64 0,.int .i64 0]:=⟨aFa⟩
instance:T8 Tryz.prog 22 [.slice none 0 0]:=⟨z22⟩
instance:T8 Tryz.prog 23 [.slice none 0 0]:=⟨z23⟩
instance:T8 Tryz.prog 25 [.int .i64 0,.int .i64 0]:=⟨Z9⟩
instance:T8 Tryz.prog 3 [.int .i64 0]:=⟨z3⟩
instance:T8 Tryz.prog 34 [.slice none 0 0,.slice none 0 0,.slice none 0 0]:=⟨z34⟩
instance:T8 Tryz.prog 4 [.bool false]:=⟨z4⟩
instance:T8 Tryz.prog 40 [.int .i64 0,.int .i64 0]:=⟨bN⟩
instance:T8 Tryz.prog 43 [.int .i64 0,.int .i64 0,.int .i64 0,.slice none 0 0]:=⟨z43⟩
instance:T8 Tryz.prog 45 [.int .i64 0,.int .i64 0,.int .i64 0,.int .i64 0,.int .i64 0,.int .i64 0,.int .i64 0,.slice none 0 0]:=⟨jK⟩
instance:T8 Tryz.prog 5 [.int .u8 0]:=⟨z5⟩
instance:T8 Tryz.prog 59 [.string ⟨#[]⟩,.int .i64 0,.int .i64 0,.slice none 0 0,.bool false,.slice none 0 0,.slice none 0 0,.slice none 0 0,.bool false]:=⟨z59⟩
instance:T8 Tryz.prog 68 [.slice none 0 0,.int .i64 0]:=⟨z68⟩
instance:T8 Tryz.prog 76 [.int .i64 0,.int .i64 0]:=⟨rB⟩
instance:T8 Tryz.prog 79 [.string ⟨#[]⟩,.int .i64 0,.int .i64 0,.slice none 0 0,.int .i64 0]:=⟨z79⟩
instance:T8 Tryz.prog 9 [.string ⟨#[]⟩]:=⟨z9⟩
instance:T8 Tryz.prog 99 [.slice none 0 0]:=⟨z99⟩
instance:Nc Ac.enc 2:=⟨Ac.enc_len⟩
instance:Nc Ab.enc 2:=⟨Ab.enc_len⟩
instance:Nc Av.enc 2:=⟨Av.enc_len⟩
instance:Nc Eb.enc 2:=⟨Eb.enc_len⟩
instance:Nc Ah.enc 15:=⟨Ah.enc_len⟩
instance:Nc A4.enc 4:=⟨A4.enc_len⟩
instance:Nc Al.enc 9:=⟨Al.enc_len⟩
instance:Nc Aw.enc 2:=⟨Aw.enc_len⟩
instance:Nc Dy.enc 3:=⟨Dy.enc_len⟩
instance:Nc Bp.enc 5:=⟨Bp.enc_len⟩
instance:Nc An.enc 3:=⟨An.enc_len⟩
instance:Nc Ae.enc 8:=⟨Ae.enc_len⟩
instance:Nc Aa.enc 2:=⟨Aa.enc_len⟩
instance:Nc As.enc 2:=⟨As.enc_len⟩
instance:Nc Ai.enc 4:=⟨Ai.enc_len⟩
instance:Nc A7.enc 12:=⟨A7.enc_len⟩
instance:Nc Cg.enc 5:=⟨Cg.enc_len⟩
instance:V6 Tryz.prog 3 (.int .i64):=⟨aEy⟩
instance:V6 Tryz.prog 4 (.bool):=⟨aIf⟩
instance:V6 Tryz.prog 5 (.int .u8):=⟨aA5⟩
instance:V6 Tryz.prog 9 (.string):=⟨aEz⟩
instance:V6 Tryz.prog 23 (.slice 25):=⟨aAh⟩
instance:V6 Tryz.prog 129 (.slice 5):=⟨aDa⟩
instance:V6 Tryz.prog 144 (.int .u64):=⟨aDh⟩
instance:V6 Tryz.prog 154 (.int .u32):=⟨aA2⟩
instance:V6 Tryz.prog 168 (.int .u64):=⟨rE⟩
instance:V6 Tryz.prog 190 (.int .u64):=⟨aA7⟩
instance:V6 Tryz.prog 201 (.array 23 186):=⟨lC⟩
instance:V6 Tryz.prog 205 (.array 2 3):=⟨R1⟩
instance:V6 Tryz.prog 206 (.array 5 205):=⟨lM⟩
end Go.Proofs.YtkioneinddihlaaGreat
