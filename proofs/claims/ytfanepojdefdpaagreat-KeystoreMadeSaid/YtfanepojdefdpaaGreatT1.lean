import Derived.Test.YtfanepojdefdpaaGreatEG
import Derived.Test.YtfanepojdefdpaaGreatP1
import Derived.Test.YtfanepojdefdpaaGreatProg
set_option linter.unusedVariables false
set_option linter.unusedSimpArgs false
set_option maxRecDepth 100000
set_option maxHeartbeats 1600000
namespace Go.Proofs.YtfanepojdefdpaaGreat
open Go.RowKit
abbrev Af.dv (x:Af):List DV:=[.sl 1 (Al eI x.L),.val (.int .i64 x.At)]
def Af.enc (x:Af):List C:=[.sl 1 (Al eI x.L),.int .i64 x.At]
theorem Af.enc_len (x:Af):(Af.enc x).length=2:=rfl
abbrev Ax.dv (x:Ax):List DV:=[.val (.int .i64 x.Alg),.val (.int .i64 x.Bits)]
def Ax.enc (x:Ax):List C:=[.int .i64 x.Alg,.int .i64 x.Bits]
theorem Ax.enc_len (x:Ax):(Ax.enc x).length=2:=rfl
abbrev C7.dv (x:C7):List DV:=[.val (.int .i64 x.Key),.val (.int .i64 x.Sum)]
def C7.enc (x:C7):List C:=[.int .i64 x.Key,.int .i64 x.Sum]
theorem C7.enc_len (x:C7):(C7.enc x).length=2:=rfl
abbrev Ab.dv (x:Ab):List DV:=[.val (.int .i64 x.Serial),.val (.string x.Issuer),.val (.string x.Subject),.val (.int .i64 x.Key.Alg),.val (.int .i64 x.Key.Bits),.val (.int .i64 x.KeyId),.val (.int .i64 x.Hash.Alg),.val (.int .i64 x.Hash.Bits),.val (.int .i64 x.From),.val (.int .i64 x.To),.val (.bool x.Authority),.val (.int .i64 x.Path),.sl 1 (Al eS x.Names),.val (.int .i64 x.Seal.Key),.val (.int .i64 x.Seal.Sum)]
def Ab.enc (x:Ab):List C:=[.int .i64 x.Serial,.str x.Issuer,.str x.Subject,.int .i64 x.Key.Alg,.int .i64 x.Key.Bits,.int .i64 x.KeyId,.int .i64 x.Hash.Alg,.int .i64 x.Hash.Bits,.int .i64 x.From,.int .i64 x.To,.bool x.Authority,.int .i64 x.Path,.sl 1 (Al eS x.Names),.int .i64 x.Seal.Key,.int .i64 x.Seal.Sum]
abbrev Ab.ec (x:Ab):List C:=[.int .i64 x.Serial,.str x.Issuer,.str x.Subject,.int .i64 x.Key.Alg,.int .i64 x.Key.Bits,.int .i64 x.KeyId,.int .i64 x.Hash.Alg,.int .i64 x.Hash.Bits,.int .i64 x.From,.int .i64 x.To,.bool x.Authority,.int .i64 x.Path,.sl 1 (Al eS x.Names),.int .i64 x.Seal.Key,.int .i64 x.Seal.Sum]
theorem Ab.enc_len (x:Ab):(Ab.enc x).length=15:=rfl
abbrev Ac.dv (x:Ac):List DV:=[.val (.string x.Alias),.val (.int .i64 x.Key.Alg),.val (.int .i64 x.Key.Bits),.val (.int .i64 x.KeyId),.val (.bool x.Secret),.sl 15 (Al Ab.enc x.Chain)]
def Ac.enc (x:Ac):List C:=[.str x.Alias,.int .i64 x.Key.Alg,.int .i64 x.Key.Bits,.int .i64 x.KeyId,.bool x.Secret,.sl 15 (Al Ab.enc x.Chain)]
abbrev Ac.ec (x:Ac):List C:=[.str x.Alias,.int .i64 x.Key.Alg,.int .i64 x.Key.Bits,.int .i64 x.KeyId,.bool x.Secret,.sl 15 (Al Ab.enc x.Chain)]
theorem Ac.enc_len (x:Ac):(Ac.enc x).length=6:=rfl
abbrev Bi.dv (x:Bi):List DV:=[.val (.string x.name),.val (.int .i64 x.kind),.val (.int .i64 x.way),.sl 1 (Al eI x.sizes),.sl 1 (Al eI x.strengths)]
def Bi.enc (x:Bi):List C:=[.str x.name,.int .i64 x.kind,.int .i64 x.way,.sl 1 (Al eI x.sizes),.sl 1 (Al eI x.strengths)]
theorem Bi.enc_len (x:Bi):(Bi.enc x).length=5:=rfl
abbrev Am.dv (x:Am):List DV:=[.val (.string x.name),.val (.int .i64 x.kind)]
def Am.enc (x:Am):List C:=[.str x.name,.int .i64 x.kind]
theorem Am.enc_len (x:Am):(Am.enc x).length=2:=rfl
mutual
def Aa.enc:Aa->List C
 | ⟨Tag,Bytes,Nested,Elements⟩=>[.int .i64 Tag,.sl 1 (Al e8 Bytes),.bool Nested,.sl 4 (Aa.encs Elements)]
def Aa.encs:List Aa->List C
 | []=>[]
 | x :: l=>Aa.enc x ++ Aa.encs l
end
theorem Aa.encs_eq:∀ (l:List Aa),Aa.encs l=Al Aa.enc l
 | []=>rfl
 | x :: l=>by
  show Aa.enc x ++ Aa.encs l=Aa.enc x ++ Al Aa.enc l
  rw [Aa.encs_eq l]
theorem Aa.enc_eq (x:Aa):Aa.enc x=[.int .i64 x.Tag,.sl 1 (Al e8 x.Bytes),.bool x.Nested,.sl 4 (Al Aa.enc x.Elements)]:=by
 cases x
 simp only [Aa.enc,Aa.encs_eq]
theorem Aa.enc_len (x:Aa):(Aa.enc x).length=4:=by rw [Aa.enc_eq]; rfl
abbrev Aa.dv (x:Aa):List DV:=[.val (.int .i64 x.Tag),.sl 1 (Al e8 x.Bytes),.val (.bool x.Nested),.sl 4 (Al Aa.enc x.Elements)]
theorem O6:Tryz.prog.underlying 3=some (.int .i64):=by kernel_rfl
theorem Xq:Tryz.prog.underlying 4=some (.bool):=by kernel_rfl
theorem L1:Tryz.prog.underlying 5=some (.int .u8):=by kernel_rfl
theorem P3:Tryz.prog.underlying 9=some (.string):=by kernel_rfl
theorem Vp:Tryz.prog.underlying 29=some (.slice 5):=by kernel_rfl
theorem Ul:Tryz.prog.underlying 37=some (.struct ((match Tryz.prog.underlying 37 with | some (.struct f)=>f | _=>#[]))):=by kernel_rfl
theorem Mr:Tryz.prog.underlying 40=some (.struct ((match Tryz.prog.underlying 40 with | some (.struct f)=>f | _=>#[]))):=by kernel_rfl
theorem K3:Tryz.prog.underlying 50=some (.struct ((match Tryz.prog.underlying 50 with | some (.struct f)=>f | _=>#[]))):=by kernel_rfl
theorem gB:Tryz.prog.underlying 59=some (.struct ((match Tryz.prog.underlying 59 with | some (.struct f)=>f | _=>#[]))):=by kernel_rfl
theorem sT:Tryz.prog.underlying 63=some (.slice 9):=by kernel_rfl
theorem aV:Tryz.prog.underlying 65=some (.struct ((match Tryz.prog.underlying 65 with | some (.struct f)=>f | _=>#[]))):=by kernel_rfl
theorem K5:Tryz.prog.underlying 67=some (.struct ((match Tryz.prog.underlying 67 with | some (.struct f)=>f | _=>#[]))):=by kernel_rfl
theorem sP:Tryz.prog.underlying 87=some (.int .u64):=by kernel_rfl
theorem aI:Tryz.prog.underlying 141=some (.int .u64):=by kernel_rfl
theorem gH:Tryz.prog.underlying 153=some (.int .u32):=by kernel_rfl
theorem Fc:Tryz.prog.underlying 158=some (.struct ((match Tryz.prog.underlying 158 with | some (.struct f)=>f | _=>#[]))):=by kernel_rfl
theorem fG:Tryz.prog.underlying 177=some (.array 23 158):=by kernel_rfl
theorem Fo:Tryz.prog.underlying 182=some (.struct ((match Tryz.prog.underlying 182 with | some (.struct f)=>f | _=>#[]))):=by kernel_rfl
theorem O7:Tryz.prog.underlying 192=some (.array 2 3):=by kernel_rfl
theorem gM:Tryz.prog.underlying 193=some (.array 5 192):=by kernel_rfl
theorem lO:Fd Tryz.prog 158 1 1 3:=⟨_,(match Tryz.prog.underlying 158 with | some (.struct f)=>f | _=>#[])[1]!,Fc,by kernel_rfl,by kernel_rfl,by kernel_rfl⟩
theorem lV:Fd Tryz.prog 158 2 2 3:=⟨_,(match Tryz.prog.underlying 158 with | some (.struct f)=>f | _=>#[])[2]!,Fc,by kernel_rfl,by kernel_rfl,by kernel_rfl⟩
theorem lF:Fd Tryz.prog 158 3 3 22:=⟨_,(match Tryz.prog.underlying 158 with | some (.struct f)=>f | _=>#[])[3]!,Fc,by kernel_rfl,by kernel_rfl,by kernel_rfl⟩
theorem kS:Fd Tryz.prog 158 4 4 22:=⟨_,(match Tryz.prog.underlying 158 with | some (.struct f)=>f | _=>#[])[4]!,Fc,by kernel_rfl,by kernel_rfl,by kernel_rfl⟩
theorem cG:Fd Tryz.prog 182 1 1 3:=⟨_,(match Tryz.prog.underlying 182 with | some (.struct f)=>f | _=>#[])[1]!,Fo,by kernel_rfl,by kernel_rfl,by kernel_rfl⟩
theorem nA:Fd Tryz.prog 37 0 0 3:=⟨_,(match Tryz.prog.underlying 37 with | some (.struct f)=>f | _=>#[])[0]!,Ul,by kernel_rfl,by kernel_rfl,by kernel_rfl⟩
theorem oZ:Fd Tryz.prog 37 1 1 3:=⟨_,(match Tryz.prog.underlying 37 with | some (.struct f)=>f | _=>#[])[1]!,Ul,by kernel_rfl,by kernel_rfl,by kernel_rfl⟩
theorem Jo:Fd Tryz.prog 40 0 0 9:=⟨_,(match Tryz.prog.underlying 40 with | some (.struct f)=>f | _=>#[])[0]!,Mr,by kernel_rfl,by kernel_rfl,by kernel_rfl⟩
theorem Tk:Fd Tryz.prog 40 1 1 37:=⟨_,(match Tryz.prog.underlying 40 with | some (.struct f)=>f | _=>#[])[1]!,Mr,by kernel_rfl,by kernel_rfl,by kernel_rfl⟩
theorem Ua:Fd Tryz.prog 40 2 3 3:=⟨_,(match Tryz.prog.underlying 40 with | some (.struct f)=>f | _=>#[])[2]!,Mr,by kernel_rfl,by kernel_rfl,by kernel_rfl⟩
theorem aL:Fd Tryz.prog 40 3 4 4:=⟨_,(match Tryz.prog.underlying 40 with | some (.struct f)=>f | _=>#[])[3]!,Mr,by kernel_rfl,by kernel_rfl,by kernel_rfl⟩
theorem Tg:Fd Tryz.prog 40 4 5 38:=⟨_,(match Tryz.prog.underlying 40 with | some (.struct f)=>f | _=>#[])[4]!,Mr,by kernel_rfl,by kernel_rfl,by kernel_rfl⟩
theorem nM:Fd Tryz.prog 50 0 0 3:=⟨_,(match Tryz.prog.underlying 50 with | some (.struct f)=>f | _=>#[])[0]!,K3,by kernel_rfl,by kernel_rfl,by kernel_rfl⟩
theorem nT:Fd Tryz.prog 50 1 1 29:=⟨_,(match Tryz.prog.underlying 50 with | some (.struct f)=>f | _=>#[])[1]!,K3,by kernel_rfl,by kernel_rfl,by kernel_rfl⟩
theorem oQ:Fd Tryz.prog 50 2 2 4:=⟨_,(match Tryz.prog.underlying 50 with | some (.struct f)=>f | _=>#[])[2]!,K3,by kernel_rfl,by kernel_rfl,by kernel_rfl⟩
theorem pR:Fd Tryz.prog 50 3 3 48:=⟨_,(match Tryz.prog.underlying 50 with | some (.struct f)=>f | _=>#[])[3]!,K3,by kernel_rfl,by kernel_rfl,by kernel_rfl⟩
theorem nC:Fd Tryz.prog 59 0 0 22:=⟨_,(match Tryz.prog.underlying 59 with | some (.struct f)=>f | _=>#[])[0]!,gB,by kernel_rfl,by kernel_rfl,by kernel_rfl⟩
theorem oN:Fd Tryz.prog 59 1 1 3:=⟨_,(match Tryz.prog.underlying 59 with | some (.struct f)=>f | _=>#[])[1]!,gB,by kernel_rfl,by kernel_rfl,by kernel_rfl⟩
theorem nN:Fd Tryz.prog 65 0 0 3:=⟨_,(match Tryz.prog.underlying 65 with | some (.struct f)=>f | _=>#[])[0]!,aV,by kernel_rfl,by kernel_rfl,by kernel_rfl⟩
theorem oV:Fd Tryz.prog 65 1 1 3:=⟨_,(match Tryz.prog.underlying 65 with | some (.struct f)=>f | _=>#[])[1]!,aV,by kernel_rfl,by kernel_rfl,by kernel_rfl⟩
theorem jC:Fd Tryz.prog 67 0 0 3:=⟨_,(match Tryz.prog.underlying 67 with | some (.struct f)=>f | _=>#[])[0]!,K5,by kernel_rfl,by kernel_rfl,by kernel_rfl⟩
theorem nX:Fd Tryz.prog 67 1 1 9:=⟨_,(match Tryz.prog.underlying 67 with | some (.struct f)=>f | _=>#[])[1]!,K5,by kernel_rfl,by kernel_rfl,by kernel_rfl⟩
theorem kN:Fd Tryz.prog 67 10 12 63:=⟨_,(match Tryz.prog.underlying 67 with | some (.struct f)=>f | _=>#[])[10]!,K5,by kernel_rfl,by kernel_rfl,by kernel_rfl⟩
theorem kQ:Fd Tryz.prog 67 11 13 65:=⟨_,(match Tryz.prog.underlying 67 with | some (.struct f)=>f | _=>#[])[11]!,K5,by kernel_rfl,by kernel_rfl,by kernel_rfl⟩
theorem pN:Fd Tryz.prog 67 2 2 9:=⟨_,(match Tryz.prog.underlying 67 with | some (.struct f)=>f | _=>#[])[2]!,K5,by kernel_rfl,by kernel_rfl,by kernel_rfl⟩
theorem Zk:Fd Tryz.prog 67 3 3 37:=⟨_,(match Tryz.prog.underlying 67 with | some (.struct f)=>f | _=>#[])[3]!,K5,by kernel_rfl,by kernel_rfl,by kernel_rfl⟩
theorem aA:Fd Tryz.prog 67 4 5 3:=⟨_,(match Tryz.prog.underlying 67 with | some (.struct f)=>f | _=>#[])[4]!,K5,by kernel_rfl,by kernel_rfl,by kernel_rfl⟩
theorem nB:Fd Tryz.prog 67 5 6 37:=⟨_,(match Tryz.prog.underlying 67 with | some (.struct f)=>f | _=>#[])[5]!,K5,by kernel_rfl,by kernel_rfl,by kernel_rfl⟩
theorem oI:Fd Tryz.prog 67 6 8 3:=⟨_,(match Tryz.prog.underlying 67 with | some (.struct f)=>f | _=>#[])[6]!,K5,by kernel_rfl,by kernel_rfl,by kernel_rfl⟩
theorem nF:Fd Tryz.prog 67 7 9 3:=⟨_,(match Tryz.prog.underlying 67 with | some (.struct f)=>f | _=>#[])[7]!,K5,by kernel_rfl,by kernel_rfl,by kernel_rfl⟩
theorem nU:Fd Tryz.prog 67 8 10 4:=⟨_,(match Tryz.prog.underlying 67 with | some (.struct f)=>f | _=>#[])[8]!,K5,by kernel_rfl,by kernel_rfl,by kernel_rfl⟩
theorem nV:Fd Tryz.prog 67 9 11 3:=⟨_,(match Tryz.prog.underlying 67 with | some (.struct f)=>f | _=>#[])[9]!,K5,by kernel_rfl,by kernel_rfl,by kernel_rfl⟩
theorem Hp:((match Tryz.prog.underlying 158 with | some (.struct f)=>f | _=>#[]):Array Field).toList.map (fun f=>(Tryz.prog.info? f.type).map fun i=>(f.offset,i.size))=[(0,1),(1,1),(2,1),(3,1),(4,1)].map some:=by kernel_rfl
theorem Hq:((match Tryz.prog.underlying 182 with | some (.struct f)=>f | _=>#[]):Array Field).toList.map (fun f=>(Tryz.prog.info? f.type).map fun i=>(f.offset,i.size))=[(0,1),(1,1)].map some:=by kernel_rfl
theorem iU:((match Tryz.prog.underlying 37 with | some (.struct f)=>f | _=>#[]):Array Field).toList.map (fun f=>(Tryz.prog.info? f.type).map fun i=>(f.offset,i.size))=[(0,1),(1,1)].map some:=by kernel_rfl
theorem Z3:((match Tryz.prog.underlying 40 with | some (.struct f)=>f | _=>#[]):Array Field).toList.map (fun f=>(Tryz.prog.info? f.type).map fun i=>(f.offset,i.size))=[(0,1),(1,2),(3,1),(4,1),(5,1)].map some:=by kernel_rfl
theorem U3:((match Tryz.prog.underlying 50 with | some (.struct f)=>f | _=>#[]):Array Field).toList.map (fun f=>(Tryz.prog.info? f.type).map fun i=>(f.offset,i.size))=[(0,1),(1,1),(2,1),(3,1)].map some:=by kernel_rfl
theorem uD:((match Tryz.prog.underlying 59 with | some (.struct f)=>f | _=>#[]):Array Field).toList.map (fun f=>(Tryz.prog.info? f.type).map fun i=>(f.offset,i.size))=[(0,1),(1,1)].map some:=by kernel_rfl
theorem tJ:((match Tryz.prog.underlying 65 with | some (.struct f)=>f | _=>#[]):Array Field).toList.map (fun f=>(Tryz.prog.info? f.type).map fun i=>(f.offset,i.size))=[(0,1),(1,1)].map some:=by kernel_rfl
theorem sQ:((match Tryz.prog.underlying 67 with | some (.struct f)=>f | _=>#[]):Array Field).toList.map (fun f=>(Tryz.prog.info? f.type).map fun i=>(f.offset,i.size))=[(0,1),(1,1),(2,1),(3,2),(5,1),(6,2),(8,1),(9,1),(10,1),(11,1),(12,1),(13,2)].map some:=by kernel_rfl
theorem mU:Ht Tryz.prog 183 182 2 24:=Ht.mk' (z:=(.agg #[.string ⟨#[]⟩,.int .i64 0])) (by kernel_rfl) (by kernel_rfl) rfl (by decide) (by decide)
theorem Fj:Ht Tryz.prog 22 3 1 8:=Ht.mk' (z:=(.int .i64 0)) (by kernel_rfl) (by kernel_rfl) rfl (by decide) (by decide)
theorem Ke:Ht Tryz.prog 27 40 6 72:=Ht.mk' (z:=(.agg #[.string ⟨#[]⟩,.int .i64 0,.int .i64 0,.int .i64 0,.bool false,.slice none 0 0])) (by kernel_rfl) (by kernel_rfl) rfl (by decide) (by decide)
theorem G6:Ht Tryz.prog 29 5 1 1:=Ht.mk' (z:=(.int .u8 0)) (by kernel_rfl) (by kernel_rfl) rfl (by decide) (by decide)
theorem Qu:Ht Tryz.prog 38 67 15 152:=Ht.mk' (z:=(.agg #[.int .i64 0,.string ⟨#[]⟩,.string ⟨#[]⟩,.int .i64 0,.int .i64 0,.int .i64 0,.int .i64 0,.int .i64 0,.int .i64 0,.int .i64 0,.bool false,.int .i64 0,.slice none 0 0,.int .i64 0,.int .i64 0])) (by kernel_rfl) (by kernel_rfl) rfl (by decide) (by decide)
theorem Iv:Ht Tryz.prog 48 50 4 64:=Ht.mk' (z:=(.agg #[.int .i64 0,.slice none 0 0,.bool false,.slice none 0 0])) (by kernel_rfl) (by kernel_rfl) rfl (by decide) (by decide)
theorem Sl:Ht Tryz.prog 63 9 1 16:=Ht.mk' (z:=(.string ⟨#[]⟩)) (by kernel_rfl) (by kernel_rfl) rfl (by decide) (by decide)
theorem mY:Ty Tryz.prog 158 true 5:=⟨by kernel_rfl,by kernel_rfl⟩
theorem rX:Ty Tryz.prog 177 true 115:=⟨by kernel_rfl,by kernel_rfl⟩
theorem mP:Ty Tryz.prog 192 true 2:=⟨by kernel_rfl,by kernel_rfl⟩
theorem uF:Ty Tryz.prog 22 false 1:=⟨by kernel_rfl,by kernel_rfl⟩
theorem uU:Ty Tryz.prog 29 false 1:=⟨by kernel_rfl,by kernel_rfl⟩
theorem Qn:Ty Tryz.prog 3 false 1:=⟨by kernel_rfl,by kernel_rfl⟩
theorem O5:Ty Tryz.prog 37 true 2:=⟨by kernel_rfl,by kernel_rfl⟩
theorem Ra:Ty Tryz.prog 38 false 1:=⟨by kernel_rfl,by kernel_rfl⟩
theorem sY:Ty Tryz.prog 4 false 1:=⟨by kernel_rfl,by kernel_rfl⟩
theorem L6:Ty Tryz.prog 40 true 6:=⟨by kernel_rfl,by kernel_rfl⟩
theorem tV:Ty Tryz.prog 48 false 1:=⟨by kernel_rfl,by kernel_rfl⟩
theorem Zm:Ty Tryz.prog 5 false 1:=⟨by kernel_rfl,by kernel_rfl⟩
theorem Xe:Ty Tryz.prog 50 true 4:=⟨by kernel_rfl,by kernel_rfl⟩
theorem uX:Ty Tryz.prog 63 false 1:=⟨by kernel_rfl,by kernel_rfl⟩
theorem tY:Ty Tryz.prog 65 true 2:=⟨by kernel_rfl,by kernel_rfl⟩
theorem Uu:Ty Tryz.prog 67 true 15:=⟨by kernel_rfl,by kernel_rfl⟩
theorem Me:Ty Tryz.prog 9 false 1:=⟨by kernel_rfl,by kernel_rfl⟩
theorem J3:Zt Tryz.prog 158 [.string ⟨#[]⟩,.int .i64 0,.int .i64 0,.slice none 0 0,.slice none 0 0]:=⟨(.agg #[.string ⟨#[]⟩,.int .i64 0,.int .i64 0,.slice none 0 0,.slice none 0 0]),by kernel_rfl,rfl,by decide⟩
theorem rT:Zt Tryz.prog 177 [.string ⟨#[]⟩,.int .i64 0,.int .i64 0,.slice none 0 0,.slice none 0 0,.string ⟨#[]⟩,.int .i64 0,.int .i64 0,.slice none 0 0,.slice none 0 0,.string ⟨#[]⟩,.int .i64 0,.int .i64 0,.slice none 0 0,.slice none 0 0,.string ⟨#[]⟩,.int .i64 0,.int .i64 0,.slice none 0 0,.slice none 0 0,.string ⟨#[]⟩,.int .i64 0,.int .i64 0,.slice none 0 0,.slice none 0 0,.string ⟨#[]⟩,.int .i64 0,.int .i64 0,.slice none 0 0,.slice none 0 0,.string ⟨#[]⟩,.int .i64 0,.int .i64 0,.slice none 0 0,.slice none 0 0,.string ⟨#[]⟩,.int .i64 0,.int .i64 0,.slice none 0 0,.slice none 0 0,.string ⟨#[]⟩,.int .i64 0,.int .i64 0,.slice none 0 0,.slice none 0 0,.string ⟨#[]⟩,.int .i64 0,.int .i64 0,.slice none 0 0,.slice none 0 0,.string ⟨#[]⟩,.int .i64 0,.int .i64 0,.slice none 0 0,.slice none 0 0,.string ⟨#[]⟩,.int .i64 0,.int .i64 0,.slice none 0 0,.slice none 0 0,.string ⟨#[]⟩,.int .i64 0,.int .i64 0,.slice none 0 0,.slice none 0 0,.string ⟨#[]⟩,.int .i64 0,.int .i64 0,.slice none 0 0,.slice none 0 0,.string ⟨#[]⟩,.int .i64 0,.int .i64 0,.slice none 0 0,.slice none 0 0,.string ⟨#[]⟩,.int .i64 0,.int .i64 0,.slice none 0 0,.slice none 0 0,.string ⟨#[]⟩,.int .i64 0,.int .i64 0,.slice none 0 0,.slice none 0 0,.string ⟨#[]⟩,.int .i64 0,.int .i64 0,.slice none 0 0,.slice none 0 0,.string ⟨#[]⟩,.int .i64 0,.int .i64 0,.slice none 0 0,.slice none 0 0,.string ⟨#[]⟩,.int .i64 0,.int .i64 0,.slice none 0 0,.slice none 0 0,.string ⟨#[]⟩,.int .i64 0,.int .i64 0,.slice none 0 0,.slice none 0 0,.string ⟨#[]⟩,.int .i64 0,.int .i64 0,.slice none 0 0,.slice none 0 0,.string ⟨#[]⟩,.int .i64 0,.int .i64 0,.slice none 0 0,.slice none 0 0]:=⟨(.agg #[.string ⟨#[]⟩,.int .i64 0,.int .i64 0,.slice none 0 0,.slice none 0 0,.string ⟨#[]⟩,.int .i64 0,.int .i64 0,.slice none 0 0,.slice none 0 0,.string ⟨#[]⟩,.int .i64 0,.int .i64 0,.slice none 0 0,.slice none 0 0,.string ⟨#[]⟩,.int .i64 0,.int .i64 0,.slice none 0 0,.slice none 0 0,.string ⟨#[]⟩,.int .i64 0,.int .i64 0,.slice none 0 0,.slice none 0 0,.string ⟨#[]⟩,.int .i64 0,.int .i64 0,.slice none 0 0,.slice none 0 0,.string ⟨#[]⟩,.int .i64 0,.int .i64 0,.slice none 0 0,.slice none 0 0,.string ⟨#[]⟩,.int .i64 0,.int .i64 0,.slice none 0 0,.slice none 0 0,.string ⟨#[]⟩,.int .i64 0,.int .i64 0,.slice none 0 0,.slice none 0 0,.string ⟨#[]⟩,.int .i64 0,.int .i64 0,.slice none 0 0,.slice none 0 0,.string ⟨#[]⟩,.int .i64 0,.int .i64 0,.slice none 0 0,.slice none 0 0,.string ⟨#[]⟩,.int .i64 0,.int .i64 0,.slice none 0 0,.slice none 0 0,.string ⟨#[]⟩,.int .i64 0,.int .i64 0,.slice none 0 0,.slice none 0 0,.string ⟨#[]⟩,.int .i64 0,.int .i64 0,.slice none 0 0,.slice none 0 0,.string ⟨#[]⟩,.int .i64 0,.int .i64 0,.slice none 0 0,.slice none 0 0,.string ⟨#[]⟩,.int .i64 0,.int .i64 0,.slice none 0 0,.slice none 0 0,.string ⟨#[]⟩,.int .i64 0,.int .i64 0,.slice none 0 0,.slice none 0 0,.string ⟨#[]⟩,.int .i64 0,.int .i64 0,.slice none 0 0,.slice none 0 0,.string ⟨#[]⟩,.int .i64 0,.int .i64 0,.slice none 0 0,.slice none 0 0,.string ⟨#[]⟩,.int .i64 0,.int .i64 0,.slice none 0 0,.slice none 0 0,.string ⟨#[]⟩,.int .i64 0,.int .i64 0,.slice none 0 0,.slice none 0 0,.string ⟨#[]⟩,.int .i64 0,.int .i64 0,.slice none 0 0,.slice none 0 0,.string ⟨#[]⟩,.int .i64 0,.int .i64 0,.slice none 0 0,.slice none 0 0]),by kernel_rfl,rfl,by decide⟩
theorem Jh:Zt Tryz.prog 182 [.string ⟨#[]⟩,.int .i64 0]:=⟨(.agg #[.string ⟨#[]⟩,.int .i64 0]),by kernel_rfl,rfl,by decide⟩
theorem dS:Zt Tryz.prog 192 [.int .i64 0,.int .i64 0]:=⟨(.agg #[.int .i64 0,.int .i64 0]),by kernel_rfl,rfl,by decide⟩
theorem sA:Zt Tryz.prog 193 [.int .i64 0,.int .i64 0,.int .i64 0,.int .i64 0,.int .i64 0,.int .i64 0,.int .i64 0,.int .i64 0,.int .i64 0,.int .i64 0]:=⟨(.agg #[.int .i64 0,.int .i64 0,.int .i64 0,.int .i64 0,.int .i64 0,.int .i64 0,.int .i64 0,.int .i64 0,.int .i64 0,.int .i64 0]),by kernel_rfl,rfl,by decide⟩
theorem z3:Zt Tryz.prog 3 [.int .i64 0]:=⟨(.int .i64 0),by kernel_rfl,rfl,by decide⟩
theorem rE:Zt Tryz.prog 37 [.int .i64 0,.int .i64 0]:=⟨(.agg #[.int .i64 0,.int .i64 0]),by kernel_rfl,rfl,by decide⟩
theorem Wx:Zt Tryz.prog 40 [.string ⟨#[]⟩,.int .i64 0,.int .i64 0,.int .i64 0,.bool false,.slice none 0 0]:=⟨(.agg #[.string ⟨#[]⟩,.int .i64 0,.int .i64 0,.int .i64 0,.bool false,.slice none 0 0]),by kernel_rfl,rfl,by decide⟩
theorem z5:Zt Tryz.prog 5 [.int .u8 0]:=⟨(.int .u8 0),by kernel_rfl,rfl,by decide⟩
theorem O9:Zt Tryz.prog 50 [.int .i64 0,.slice none 0 0,.bool false,.slice none 0 0]:=⟨(.agg #[.int .i64 0,.slice none 0 0,.bool false,.slice none 0 0]),by kernel_rfl,rfl,by decide⟩
theorem uZ:Zt Tryz.prog 59 [.slice none 0 0,.int .i64 0]:=⟨(.agg #[.slice none 0 0,.int .i64 0]),by kernel_rfl,rfl,by decide⟩
theorem tW:Zt Tryz.prog 65 [.int .i64 0,.int .i64 0]:=⟨(.agg #[.int .i64 0,.int .i64 0]),by kernel_rfl,rfl,by decide⟩
theorem mT:Zt Tryz.prog 67 [.int .i64 0,.string ⟨#[]⟩,.string ⟨#[]⟩,.int .i64 0,.int .i64 0,.int .i64 0,.int .i64 0,.int .i64 0,.int .i64 0,.int .i64 0,.bool false,.int .i64 0,.slice none 0 0,.int .i64 0,.int .i64 0]:=⟨(.agg #[.int .i64 0,.string ⟨#[]⟩,.string ⟨#[]⟩,.int .i64 0,.int .i64 0,.int .i64 0,.int .i64 0,.int .i64 0,.int .i64 0,.int .i64 0,.bool false,.int .i64 0,.slice none 0 0,.int .i64 0,.int .i64 0]),by kernel_rfl,rfl,by decide⟩
theorem z9:Zt Tryz.prog 9 [.string ⟨#[]⟩]:=⟨(.string ⟨#[]⟩),by kernel_rfl,rfl,by decide⟩
theorem sB:Lz Tryz.prog 20 182=[none,none]:=by kernel_rfl
theorem Jq:Lz Tryz.prog 20 3=[none]:=by kernel_rfl
theorem Ti:Lz Tryz.prog 20 40=[none,none,none,none,none,some 15]:=by kernel_rfl
theorem Wz:Lz Tryz.prog 20 5=[none]:=by kernel_rfl
theorem Mb:Lz Tryz.prog 20 50=[none,some 1,none,some 4]:=by kernel_rfl
theorem fO:Lz Tryz.prog 20 67=[none,none,none,none,none,none,none,none,none,none,none,none,some 1,none,none]:=by kernel_rfl
theorem mI:Lz Tryz.prog 20 9=[none]:=by kernel_rfl
theorem rZ:Tryz.prog.eqGuardType Tryz.prog.depth 37=false:=by kernel_rfl
theorem uT:Tryz.prog.underlying 37=some (.struct (Tryz.prog.fieldsOf 37)):=by kernel_rfl
theorem tU:Tryz.prog.stoodInHeld 37=false:=by kernel_rfl
theorem rU (x y:Ax) (w:World):(Op.equalIn 10000 37 (.agg #[.int .i64 x.Alg,.int .i64 x.Bits]) (.agg #[.int .i64 y.Alg,.int .i64 y.Bits])).run Tryz.prog w=.ok (decide (x=y)) w:=by
 have u3:=Tryz.underlying3
 have a3:=Tryz.isAgg3
 have z3:=Tryz.sizeOf3
 rw [show (10000:Nat)=9999 + 1 from rfl,run_equalIn_agg w 9999 37 _ _ uT tU]
 simp only [Program.fieldsOf,Tryz.underlying37]
 go_simp
 rcases x with ⟨x0,x1⟩
 rcases y with ⟨y0,y1⟩
 by_cases h0:x0=y0 <;> by_cases h1:x1=y1 <;> simp [h0,h1]
theorem Ic (x y:Ax) {X Y:Operand} {tk:Nat} {yt ty:TypeId} {b1 b2:Option LB}:Ex Tryz.prog tk (.binOp .eql 37 X Y yt) ty [(.agg [.val (.int .i64 x.Alg),.val (.int .i64 x.Bits)],b1),(.agg [.val (.int .i64 y.Alg),.val (.int .i64 y.Bits)],b2)] [] (v0 (.val (.bool (decide (x=y))))):=
 .binOpA rfl rfl (fun _ _=>rfl) (fun w=>by
  rw [Sem.run_bind,run_eqGuard_agg w _ 37 X Y _ _ rZ]
  simp only [Result.andThen_ok,run_eql_struct]
  exact congrArg (fun r=>Result.andThen r _) (rU x y w))
theorem aP (x y:Ax) {X Y:Operand} {tk:Nat} {yt ty:TypeId} {b1 b2:Option LB}:Ex Tryz.prog tk (.binOp .neq 37 X Y yt) ty [(.agg [.val (.int .i64 x.Alg),.val (.int .i64 x.Bits)],b1),(.agg [.val (.int .i64 y.Alg),.val (.int .i64 y.Bits)],b2)] [] (v0 (.val (.bool (!decide (x=y))))):=
 .binOpA rfl rfl (fun _ _=>rfl) (fun w=>by
  rw [Sem.run_bind,run_eqGuard_agg w _ 37 X Y _ _ rZ]
  simp only [Result.andThen_ok,run_neq_struct]
  exact congrArg (fun r=>Result.andThen r _) (rU x y w))
theorem uN:Tryz.prog.eqGuardType Tryz.prog.depth 65=false:=by kernel_rfl
theorem tX:Tryz.prog.underlying 65=some (.struct (Tryz.prog.fieldsOf 65)):=by kernel_rfl
theorem uH:Tryz.prog.stoodInHeld 65=false:=by kernel_rfl
theorem uM (x y:C7) (w:World):(Op.equalIn 10000 65 (.agg #[.int .i64 x.Key,.int .i64 x.Sum]) (.agg #[.int .i64 y.Key,.int .i64 y.Sum])).run Tryz.prog w=.ok (decide (x=y)) w:=by
 have u3:=Tryz.underlying3
 have a3:=Tryz.isAgg3
 have z3:=Tryz.sizeOf3
 rw [show (10000:Nat)=9999 + 1 from rfl,run_equalIn_agg w 9999 65 _ _ tX uH]
 simp only [Program.fieldsOf,Tryz.underlying65]
 go_simp
 rcases x with ⟨x0,x1⟩
 rcases y with ⟨y0,y1⟩
 by_cases h0:x0=y0 <;> by_cases h1:x1=y1 <;> simp [h0,h1]
theorem Uh (x y:C7) {X Y:Operand} {tk:Nat} {yt ty:TypeId} {b1 b2:Option LB}:Ex Tryz.prog tk (.binOp .eql 65 X Y yt) ty [(.agg [.val (.int .i64 x.Key),.val (.int .i64 x.Sum)],b1),(.agg [.val (.int .i64 y.Key),.val (.int .i64 y.Sum)],b2)] [] (v0 (.val (.bool (decide (x=y))))):=
 .binOpA rfl rfl (fun _ _=>rfl) (fun w=>by
  rw [Sem.run_bind,run_eqGuard_agg w _ 65 X Y _ _ uN]
  simp only [Result.andThen_ok,run_eql_struct]
  exact congrArg (fun r=>Result.andThen r _) (uM x y w))
instance:Nb Tryz.prog 158 1 1 3:=⟨lO⟩
instance:Nb Tryz.prog 158 2 2 3:=⟨lV⟩
instance:Nb Tryz.prog 158 3 3 22:=⟨lF⟩
instance:Nb Tryz.prog 158 4 4 22:=⟨kS⟩
instance:Nb Tryz.prog 182 1 1 3:=⟨cG⟩
instance:Nb Tryz.prog 37 0 0 3:=⟨nA⟩
instance:Nb Tryz.prog 37 1 1 3:=⟨oZ⟩
instance:Nb Tryz.prog 40 0 0 9:=⟨Jo⟩
instance:Nb Tryz.prog 40 1 1 37:=⟨Tk⟩
instance:Nb Tryz.prog 40 2 3 3:=⟨Ua⟩
instance:Nb Tryz.prog 40 3 4 4:=⟨aL⟩
instance:Nb Tryz.prog 40 4 5 38:=⟨Tg⟩
instance:Nb Tryz.prog 50 0 0 3:=⟨nM⟩
instance:Nb Tryz.prog 50 1 1 29:=⟨nT⟩
instance:Nb Tryz.prog 50 2 2 4:=⟨oQ⟩
instance:Nb Tryz.prog 50 3 3 48:=⟨pR⟩
instance:Nb Tryz.prog 59 0 0 22:=⟨nC⟩
instance:Nb Tryz.prog 59 1 1 3:=⟨oN⟩
instance:Nb Tryz.prog 65 0 0 3:=⟨nN⟩
instance:Nb Tryz.prog 65 1 1 3:=⟨oV⟩
instance:Nb Tryz.prog 67 0 0 3:=⟨jC⟩
instance:Nb Tryz.prog 67 1 1 9:=⟨nX⟩
instance:Nb Tryz.prog 67 10 12 63:=⟨kN⟩
instance:Nb Tryz.prog 67 11 13 65:=⟨kQ⟩
instance:Nb Tryz.prog 67 2 2 9:=⟨pN⟩
instance:Nb Tryz.prog 67 3 3 37:=⟨Zk⟩
instance:Nb Tryz.prog 67 4 5 3:=⟨aA⟩
instance:Nb Tryz.prog 67 5 6 37:=⟨nB⟩
instance:Nb Tryz.prog 67 6 8 3:=⟨oI⟩
instance:Nb Tryz.prog 67 7 9 3:=⟨nF⟩
instance:Nb Tryz.prog 67 8 10 4:=⟨nU⟩
instance:Nb Tryz.prog 67 9 11 3:=⟨nV⟩
instance:gS Tryz.prog 183 182 2 24:=⟨mU⟩
instance:gS Tryz.prog 22 3 1 8:=⟨Fj⟩
instance:gS Tryz.prog 27 40 6 72:=⟨Ke⟩
instance:gS Tryz.prog 29 5 1 1:=⟨G6⟩
instance:gS Tryz.prog 38 67 15 152:=⟨Qu⟩
instance:gS Tryz.prog 48 50 4 64:=⟨Iv⟩
instance:gS Tryz.prog 63 9 1 16:=⟨Sl⟩
instance:Sc Tryz.prog 158 true 5:=⟨mY⟩
instance:Sc Tryz.prog 177 true 115:=⟨rX⟩
instance:Sc Tryz.prog 192 true 2:=⟨mP⟩
instance:Sc Tryz.prog 22 false 1:=⟨uF⟩
instance:Sc Tryz.prog 29 false 1:=⟨uU⟩
instance:Sc Tryz.prog 3 false 1:=⟨Qn⟩
instance:Sc Tryz.prog 37 true 2:=⟨O5⟩
instance:Sc Tryz.prog 38 false 1:=⟨Ra⟩
instance:Sc Tryz.prog 4 false 1:=⟨sY⟩
instance:Sc Tryz.prog 40 true 6:=⟨L6⟩
instance:Sc Tryz.prog 48 false 1:=⟨tV⟩
instance:Sc Tryz.prog 5 false 1:=⟨Zm⟩
instance:Sc Tryz.prog 50 true 4:=⟨Xe⟩
instance:Sc Tryz.prog 63 false 1:=⟨uX⟩
instance:Sc Tryz.prog 65 true 2:=⟨tY⟩
instance:Sc Tryz.prog 67 true 15:=⟨Uu⟩
instance:Sc Tryz.prog 9 false 1:=⟨Me⟩
instance:Z8 Tryz.prog 158 [.string ⟨#[]⟩,.int .i64 0,.int .i64 0,.slice none 0 0,.slice none 0 0]:=⟨J3⟩
instance:Z8 Tryz.prog 177 [.string ⟨#[]⟩,.int .i64 0,.int .i64 0,.slice none 0 0,.slice none 0 0,.string ⟨#[]⟩,.int .i64 0,.int .i64 0,.slice none 0 0,.slice none 0 0,.string ⟨#[]⟩,.int .i64 0,.int .i64 0,.slice none 0 0,.slice none 0 0,.string ⟨#[]⟩,.int .i64 0,.int .i64 0,.slice none 0 0,.slice none 0 0,.string ⟨#[]⟩,.int .i64 0,.int .i64 0,.slice none 0 0,.slice none 0 0,.string ⟨#[]⟩,.int .i64 0,.int .i64 0,.slice none 0 0,.slice none 0 0,.string ⟨#[]⟩,.int .i64 0,.int .i64 0,.slice none 0 0,.slice none 0 0,.string ⟨#[]⟩,.int .i64 0,.int .i64 0,.slice none 0 0,.slice none 0 0,.string ⟨#[]⟩,.int .i64 0,.int .i64 0,.slice none 0 0,.slice none 0 0,.string ⟨#[]⟩,.int .i64 0,.int .i64 0,.slice none 0 0,.slice none 0 0,.string ⟨#[]⟩,.int .i64 0,.int .i64 0,.slice none 0 0,.slice none 0 0,.string ⟨#[]⟩,.int .i64 0,.int .i64 0,.slice none 0 0,.slice none 0 0,.string ⟨#[]⟩,.int .i64 0,.int .i64 0,.slice none 0 0,.slice none 0 0,.string ⟨#[]⟩,.int .i64 0,.int .i64 0,.slice none 0 0,.slice none 0 0,.string ⟨#[]⟩,.int .i64 0,.int .i64 0,.slice none 0 0,.slice none 0 0,.string ⟨#[]⟩,.int .i64 0,.int .i64 0,.slice none 0 0,.slice none 0 0,.string ⟨#[]⟩,.int .i64 0,.int .i64 0,.slice none 0 0,.slice none 0 0,.string ⟨#[]⟩,.int .i64 0,.int .i64 0,.slice none 0 0,.slice none 0 0,.string ⟨#[]⟩,.int .i64 0,.int .i64 0,.slice none 0 0,.slice none 0 0,.string ⟨#[]⟩,.int .i64 0,.int .i64 0,.slice none 0 0,.slice none 0 0,.string ⟨#[]⟩,.int .i64 0,.int .i64 0,.slice none 0 0,.slice none 0 0,.string ⟨#[]⟩,.int .i64 0,.int .i64 0,.slice none 0 0,.slice none 0 0,.string ⟨#[]⟩,.int .i64 0,.int .i64 0,.slice none 0 0,.slice none 0 0]:=⟨rT⟩
instance:Z8 Tryz.prog 182 [.string ⟨#[]⟩,.int .i64 0]:=⟨Jh⟩
instance:Z8 Tryz.prog 192 [.int .i64 0,.int .i64 0]:=⟨dS⟩
instance:Z8 Tryz.prog 193 [.int .i64 0,.int .i64 0,.int .i64 0,.int .i64 0,.int .i64 0,.int .i64 0,.int .i64 0,.int .i64 0,.int .i64 0,.int .i64 0]:=⟨sA⟩
instance:Z8 Tryz.prog 3 [.int .i64 0]:=⟨z3⟩
instance:Z8 Tryz.prog 37 [.int .i64 0,.int .i64 0]:=⟨rE⟩
instance:Z8 Tryz.prog 40 [.string ⟨#[]⟩,.int .i64 0,.int .i64 0,.int .i64 0,.bool false,.slice none 0 0]:=⟨Wx⟩
instance:Z8 Tryz.prog 5 [.int .u8 0]:=⟨z5⟩
instance:Z8 Tryz.prog 50 [.int .i64 0,.slice none 0 0,.bool false,.slice none 0 0]:=⟨O9⟩
instance:Z8 Tryz.prog 59 [.slice none 0 0,.int .i64 0]:=⟨uZ⟩
instance:Z8 Tryz.prog 65 [.int .i64 0,.int .i64 0]:=⟨tW⟩
instance:Z8 Tryz.prog 67 [.int .i64 0,.string ⟨#[]⟩,.string ⟨#[]⟩,.int .i64 0,.int .i64 0,.int .i64 0,.int .i64 0,.int .i64 0,.int .i64 0,.int .i64 0,.bool false,.int .i64 0,.slice none 0 0,.int .i64 0,.int .i64 0]:=⟨mT⟩
instance:Z8 Tryz.prog 9 [.string ⟨#[]⟩]:=⟨z9⟩
instance:Xo Af.enc 2:=⟨Af.enc_len⟩
instance:Xo Ax.enc 2:=⟨Ax.enc_len⟩
instance:Xo C7.enc 2:=⟨C7.enc_len⟩
instance:Xo Ab.enc 15:=⟨Ab.enc_len⟩
instance:Xo Ac.enc 6:=⟨Ac.enc_len⟩
instance:Xo Bi.enc 5:=⟨Bi.enc_len⟩
instance:Xo Am.enc 2:=⟨Am.enc_len⟩
instance:Xo Aa.enc 4:=⟨Aa.enc_len⟩
end Go.Proofs.YtfanepojdefdpaaGreat
