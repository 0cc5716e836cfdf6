import Derived.Test.YtlfeokjhphpjeaaGreatEL
import Derived.Test.YtlfeokjhphpjeaaGreatP1
import Derived.Test.YtlfeokjhphpjeaaGreatProg
set_option linter.unusedVariables false
set_option linter.unusedSimpArgs false
set_option maxRecDepth 100000
set_option maxHeartbeats 1600000
namespace Go.Proofs.YtlfeokjhphpjeaaGreat
open Go.RowKit
abbrev Ak.dv (x:Ak):List DV:=[.sl 1 (Al eI x.L),.val (.int .i64 x.At)]
def Ak.enc (x:Ak):List C:=[.sl 1 (Al eI x.L),.int .i64 x.At]
theorem Ak.enc_len (x:Ak):(Ak.enc x).length=2:=rfl
abbrev A3.dv (x:A3):List DV:=[.val (.int .i64 x.Alg),.val (.int .i64 x.Bits)]
def A3.enc (x:A3):List C:=[.int .i64 x.Alg,.int .i64 x.Bits]
theorem A3.enc_len (x:A3):(A3.enc x).length=2:=rfl
abbrev Bv.dv (x:Bv):List DV:=[.val (.int .i64 x.Key),.val (.int .i64 x.Sum)]
def Bv.enc (x:Bv):List C:=[.int .i64 x.Key,.int .i64 x.Sum]
theorem Bv.enc_len (x:Bv):(Bv.enc x).length=2:=rfl
abbrev Ab.dv (x:Ab):List DV:=[.val (.int .i64 x.Serial),.val (.string x.Issuer),.val (.string x.Subject),.val (.int .i64 x.Key.Alg),.val (.int .i64 x.Key.Bits),.val (.int .i64 x.KeyId),.val (.int .i64 x.Hash.Alg),.val (.int .i64 x.Hash.Bits),.val (.int .i64 x.From),.val (.int .i64 x.To),.val (.bool x.Authority),.val (.int .i64 x.Path),.sl 1 (Al eS x.Names),.val (.int .i64 x.Seal.Key),.val (.int .i64 x.Seal.Sum)]
def Ab.enc (x:Ab):List C:=[.int .i64 x.Serial,.str x.Issuer,.str x.Subject,.int .i64 x.Key.Alg,.int .i64 x.Key.Bits,.int .i64 x.KeyId,.int .i64 x.Hash.Alg,.int .i64 x.Hash.Bits,.int .i64 x.From,.int .i64 x.To,.bool x.Authority,.int .i64 x.Path,.sl 1 (Al eS x.Names),.int .i64 x.Seal.Key,.int .i64 x.Seal.Sum]
theorem Ab.enc_len (x:Ab):(Ab.enc x).length=15:=rfl
mutual
def Aa.enc:Aa->List C
 | ⟨Tag,Bytes,Nested,Elements⟩=>[.int .i64 Tag,.sl 1 (Al e8 Bytes),.bool Nested,.sl 4 (Aa.encs Elements)]
def Aa.encs:List Aa->List C
 | []=>[]
 | x :: l=>Aa.enc x ++ Aa.encs l
end
theorem Aa.encs_eq:∀ (l:List Aa),Aa.encs l=Al Aa.enc l
 | []=>rfl
 | x :: l=>by
  show Aa.enc x ++ Aa.encs l=Aa.enc x ++ Al Aa.enc l
  rw [Aa.encs_eq l]
theorem Aa.enc_eq (x:Aa):Aa.enc x=[.int .i64 x.Tag,.sl 1 (Al e8 x.Bytes),.bool x.Nested,.sl 4 (Al Aa.enc x.Elements)]:=by
 cases x
 simp only [Aa.enc,Aa.encs_eq]
theorem Aa.enc_len (x:Aa):(Aa.enc x).length=4:=by rw [Aa.enc_eq]; rfl
abbrev Aa.dv (x:Aa):List DV:=[.val (.int .i64 x.Tag),.sl 1 (Al e8 x.Bytes),.val (.bool x.Nested),.sl 4 (Al Aa.enc x.Elements)]
abbrev Bg.dv (x:Bg):List DV:=[.val (.string x.name),.val (.int .i64 x.kind),.val (.int .i64 x.way),.sl 1 (Al eI x.sizes),.sl 1 (Al eI x.strengths)]
def Bg.enc (x:Bg):List C:=[.str x.name,.int .i64 x.kind,.int .i64 x.way,.sl 1 (Al eI x.sizes),.sl 1 (Al eI x.strengths)]
theorem Bg.enc_len (x:Bg):(Bg.enc x).length=5:=rfl
abbrev Ai.dv (x:Ai):List DV:=[.sl 4 (Al Aa.enc x.l),.val (.bool x.Failed)]
def Ai.enc (x:Ai):List C:=[.sl 4 (Al Aa.enc x.l),.bool x.Failed]
theorem Ai.enc_len (x:Ai):(Ai.enc x).length=2:=rfl
abbrev Am.dv (x:Am):List DV:=[.val (.string x.name),.val (.int .i64 x.kind)]
def Am.enc (x:Am):List C:=[.str x.name,.int .i64 x.kind]
theorem Am.enc_len (x:Am):(Am.enc x).length=2:=rfl
abbrev Ae.dv (x:Ae):List DV:=[.sl 4 (Al Aa.enc x.L),.val (.int .i64 x.At),.val (.bool x.OK)]
def Ae.enc (x:Ae):List C:=[.sl 4 (Al Aa.enc x.L),.int .i64 x.At,.bool x.OK]
theorem Ae.enc_len (x:Ae):(Ae.enc x).length=3:=rfl
theorem Kl:Tryz.prog.underlying 3=some (.int .i64):=by kernel_rfl
theorem rM:Tryz.prog.underlying 4=some (.bool):=by kernel_rfl
theorem Ia:Tryz.prog.underlying 5=some (.int .u8):=by kernel_rfl
theorem P9:Tryz.prog.underlying 9=some (.string):=by kernel_rfl
theorem Qf:Tryz.prog.underlying 23=some (.slice 5):=by kernel_rfl
theorem Hh:Tryz.prog.underlying 30=some (.struct ((match Tryz.prog.underlying 30 with | some (.struct f)=>f | _=>#[]))):=by kernel_rfl
theorem Qg:Tryz.prog.underlying 33=some (.struct ((match Tryz.prog.underlying 33 with | some (.struct f)=>f | _=>#[]))):=by kernel_rfl
theorem yN:Tryz.prog.underlying 34=some (.slice 9):=by kernel_rfl
theorem Qh:Tryz.prog.underlying 36=some (.struct ((match Tryz.prog.underlying 36 with | some (.struct f)=>f | _=>#[]))):=by kernel_rfl
theorem H4:Tryz.prog.underlying 38=some (.struct ((match Tryz.prog.underlying 38 with | some (.struct f)=>f | _=>#[]))):=by kernel_rfl
theorem nL:Tryz.prog.underlying 59=some (.struct ((match Tryz.prog.underlying 59 with | some (.struct f)=>f | _=>#[]))):=by kernel_rfl
theorem fS:Tryz.prog.underlying 78=some (.int .u32):=by kernel_rfl
theorem Ra:Tryz.prog.underlying 92=some (.array 8 1):=by kernel_rfl
theorem hH:Tryz.prog.underlying 94=some (.struct ((match Tryz.prog.underlying 94 with | some (.struct f)=>f | _=>#[]))):=by kernel_rfl
theorem Za:Tryz.prog.underlying 104=some (.struct ((match Tryz.prog.underlying 104 with | some (.struct f)=>f | _=>#[]))):=by kernel_rfl
theorem F8:Tryz.prog.underlying 125=some (.struct ((match Tryz.prog.underlying 125 with | some (.struct f)=>f | _=>#[]))):=by kernel_rfl
theorem Xj:Tryz.prog.underlying 130=some (.int .u64):=by kernel_rfl
theorem Fl:Tryz.prog.underlying 136=some (.struct ((match Tryz.prog.underlying 136 with | some (.struct f)=>f | _=>#[]))):=by kernel_rfl
theorem lI:Tryz.prog.underlying 144=some (.array 23 136):=by kernel_rfl
theorem Qx:Tryz.prog.underlying 146=some (.array 2 3):=by kernel_rfl
theorem lB:Tryz.prog.underlying 147=some (.array 5 146):=by kernel_rfl
theorem qD:Fd Tryz.prog 104 0 0 28:=⟨_,(match Tryz.prog.underlying 104 with | some (.struct f)=>f | _=>#[])[0]!,Za,by kernel_rfl,by kernel_rfl,by kernel_rfl⟩
theorem rQ:Fd Tryz.prog 104 1 1 3:=⟨_,(match Tryz.prog.underlying 104 with | some (.struct f)=>f | _=>#[])[1]!,Za,by kernel_rfl,by kernel_rfl,by kernel_rfl⟩
theorem rC:Fd Tryz.prog 104 2 2 4:=⟨_,(match Tryz.prog.underlying 104 with | some (.struct f)=>f | _=>#[])[2]!,Za,by kernel_rfl,by kernel_rfl,by kernel_rfl⟩
theorem gF:Fd Tryz.prog 125 1 1 3:=⟨_,(match Tryz.prog.underlying 125 with | some (.struct f)=>f | _=>#[])[1]!,F8,by kernel_rfl,by kernel_rfl,by kernel_rfl⟩
theorem rG:Fd Tryz.prog 136 1 1 3:=⟨_,(match Tryz.prog.underlying 136 with | some (.struct f)=>f | _=>#[])[1]!,Fl,by kernel_rfl,by kernel_rfl,by kernel_rfl⟩
theorem rF:Fd Tryz.prog 136 2 2 3:=⟨_,(match Tryz.prog.underlying 136 with | some (.struct f)=>f | _=>#[])[2]!,Fl,by kernel_rfl,by kernel_rfl,by kernel_rfl⟩
theorem pS:Fd Tryz.prog 136 3 3 22:=⟨_,(match Tryz.prog.underlying 136 with | some (.struct f)=>f | _=>#[])[3]!,Fl,by kernel_rfl,by kernel_rfl,by kernel_rfl⟩
theorem rS:Fd Tryz.prog 136 4 4 22:=⟨_,(match Tryz.prog.underlying 136 with | some (.struct f)=>f | _=>#[])[4]!,Fl,by kernel_rfl,by kernel_rfl,by kernel_rfl⟩
theorem tB:Fd Tryz.prog 30 0 0 3:=⟨_,(match Tryz.prog.underlying 30 with | some (.struct f)=>f | _=>#[])[0]!,Hh,by kernel_rfl,by kernel_rfl,by kernel_rfl⟩
theorem sY:Fd Tryz.prog 30 1 1 23:=⟨_,(match Tryz.prog.underlying 30 with | some (.struct f)=>f | _=>#[])[1]!,Hh,by kernel_rfl,by kernel_rfl,by kernel_rfl⟩
theorem uK:Fd Tryz.prog 30 2 2 4:=⟨_,(match Tryz.prog.underlying 30 with | some (.struct f)=>f | _=>#[])[2]!,Hh,by kernel_rfl,by kernel_rfl,by kernel_rfl⟩
theorem uM:Fd Tryz.prog 30 3 3 28:=⟨_,(match Tryz.prog.underlying 30 with | some (.struct f)=>f | _=>#[])[3]!,Hh,by kernel_rfl,by kernel_rfl,by kernel_rfl⟩
theorem uE:Fd Tryz.prog 33 0 0 3:=⟨_,(match Tryz.prog.underlying 33 with | some (.struct f)=>f | _=>#[])[0]!,Qg,by kernel_rfl,by kernel_rfl,by kernel_rfl⟩
theorem uY:Fd Tryz.prog 33 1 1 3:=⟨_,(match Tryz.prog.underlying 33 with | some (.struct f)=>f | _=>#[])[1]!,Qg,by kernel_rfl,by kernel_rfl,by kernel_rfl⟩
theorem tR:Fd Tryz.prog 36 0 0 3:=⟨_,(match Tryz.prog.underlying 36 with | some (.struct f)=>f | _=>#[])[0]!,Qh,by kernel_rfl,by kernel_rfl,by kernel_rfl⟩
theorem sV:Fd Tryz.prog 36 1 1 3:=⟨_,(match Tryz.prog.underlying 36 with | some (.struct f)=>f | _=>#[])[1]!,Qh,by kernel_rfl,by kernel_rfl,by kernel_rfl⟩
theorem vW:Fd Tryz.prog 38 0 0 3:=⟨_,(match Tryz.prog.underlying 38 with | some (.struct f)=>f | _=>#[])[0]!,H4,by kernel_rfl,by kernel_rfl,by kernel_rfl⟩
theorem tQ:Fd Tryz.prog 38 1 1 9:=⟨_,(match Tryz.prog.underlying 38 with | some (.struct f)=>f | _=>#[])[1]!,H4,by kernel_rfl,by kernel_rfl,by kernel_rfl⟩
theorem rH:Fd Tryz.prog 38 10 12 34:=⟨_,(match Tryz.prog.underlying 38 with | some (.struct f)=>f | _=>#[])[10]!,H4,by kernel_rfl,by kernel_rfl,by kernel_rfl⟩
theorem qL:Fd Tryz.prog 38 11 13 36:=⟨_,(match Tryz.prog.underlying 38 with | some (.struct f)=>f | _=>#[])[11]!,H4,by kernel_rfl,by kernel_rfl,by kernel_rfl⟩
theorem vX:Fd Tryz.prog 38 2 2 9:=⟨_,(match Tryz.prog.underlying 38 with | some (.struct f)=>f | _=>#[])[2]!,H4,by kernel_rfl,by kernel_rfl,by kernel_rfl⟩
theorem uD:Fd Tryz.prog 38 3 3 33:=⟨_,(match Tryz.prog.underlying 38 with | some (.struct f)=>f | _=>#[])[3]!,H4,by kernel_rfl,by kernel_rfl,by kernel_rfl⟩
theorem uQ:Fd Tryz.prog 38 4 5 3:=⟨_,(match Tryz.prog.underlying 38 with | some (.struct f)=>f | _=>#[])[4]!,H4,by kernel_rfl,by kernel_rfl,by kernel_rfl⟩
theorem vL:Fd Tryz.prog 38 5 6 33:=⟨_,(match Tryz.prog.underlying 38 with | some (.struct f)=>f | _=>#[])[5]!,H4,by kernel_rfl,by kernel_rfl,by kernel_rfl⟩
theorem tM:Fd Tryz.prog 38 6 8 3:=⟨_,(match Tryz.prog.underlying 38 with | some (.struct f)=>f | _=>#[])[6]!,H4,by kernel_rfl,by kernel_rfl,by kernel_rfl⟩
theorem vZ:Fd Tryz.prog 38 7 9 3:=⟨_,(match Tryz.prog.underlying 38 with | some (.struct f)=>f | _=>#[])[7]!,H4,by kernel_rfl,by kernel_rfl,by kernel_rfl⟩
theorem vE:Fd Tryz.prog 38 8 10 4:=⟨_,(match Tryz.prog.underlying 38 with | some (.struct f)=>f | _=>#[])[8]!,H4,by kernel_rfl,by kernel_rfl,by kernel_rfl⟩
theorem vC:Fd Tryz.prog 38 9 11 3:=⟨_,(match Tryz.prog.underlying 38 with | some (.struct f)=>f | _=>#[])[9]!,H4,by kernel_rfl,by kernel_rfl,by kernel_rfl⟩
theorem sW:Fd Tryz.prog 59 0 0 22:=⟨_,(match Tryz.prog.underlying 59 with | some (.struct f)=>f | _=>#[])[0]!,nL,by kernel_rfl,by kernel_rfl,by kernel_rfl⟩
theorem uA:Fd Tryz.prog 59 1 1 3:=⟨_,(match Tryz.prog.underlying 59 with | some (.struct f)=>f | _=>#[])[1]!,nL,by kernel_rfl,by kernel_rfl,by kernel_rfl⟩
theorem uX:Fd Tryz.prog 94 0 0 28:=⟨_,(match Tryz.prog.underlying 94 with | some (.struct f)=>f | _=>#[])[0]!,hH,by kernel_rfl,by kernel_rfl,by kernel_rfl⟩
theorem uB:Fd Tryz.prog 94 1 1 4:=⟨_,(match Tryz.prog.underlying 94 with | some (.struct f)=>f | _=>#[])[1]!,hH,by kernel_rfl,by kernel_rfl,by kernel_rfl⟩
theorem xG:((match Tryz.prog.underlying 104 with | some (.struct f)=>f | _=>#[]):Array Field).toList.map (fun f=>(Tryz.prog.info? f.type).map fun i=>(f.offset,i.size))=[(0,1),(1,1),(2,1)].map some:=by kernel_rfl
theorem Ih:((match Tryz.prog.underlying 125 with | some (.struct f)=>f | _=>#[]):Array Field).toList.map (fun f=>(Tryz.prog.info? f.type).map fun i=>(f.offset,i.size))=[(0,1),(1,1)].map some:=by kernel_rfl
theorem Ie:((match Tryz.prog.underlying 136 with | some (.struct f)=>f | _=>#[]):Array Field).toList.map (fun f=>(Tryz.prog.info? f.type).map fun i=>(f.offset,i.size))=[(0,1),(1,1),(2,1),(3,1),(4,1)].map some:=by kernel_rfl
theorem Me:((match Tryz.prog.underlying 30 with | some (.struct f)=>f | _=>#[]):Array Field).toList.map (fun f=>(Tryz.prog.info? f.type).map fun i=>(f.offset,i.size))=[(0,1),(1,1),(2,1),(3,1)].map some:=by kernel_rfl
theorem bE:((match Tryz.prog.underlying 33 with | some (.struct f)=>f | _=>#[]):Array Field).toList.map (fun f=>(Tryz.prog.info? f.type).map fun i=>(f.offset,i.size))=[(0,1),(1,1)].map some:=by kernel_rfl
theorem cW:((match Tryz.prog.underlying 36 with | some (.struct f)=>f | _=>#[]):Array Field).toList.map (fun f=>(Tryz.prog.info? f.type).map fun i=>(f.offset,i.size))=[(0,1),(1,1)].map some:=by kernel_rfl
theorem Ui:((match Tryz.prog.underlying 38 with | some (.struct f)=>f | _=>#[]):Array Field).toList.map (fun f=>(Tryz.prog.info? f.type).map fun i=>(f.offset,i.size))=[(0,1),(1,1),(2,1),(3,2),(5,1),(6,2),(8,1),(9,1),(10,1),(11,1),(12,1),(13,2)].map some:=by kernel_rfl
theorem aAa:((match Tryz.prog.underlying 59 with | some (.struct f)=>f | _=>#[]):Array Field).toList.map (fun f=>(Tryz.prog.info? f.type).map fun i=>(f.offset,i.size))=[(0,1),(1,1)].map some:=by kernel_rfl
theorem yA:((match Tryz.prog.underlying 94 with | some (.struct f)=>f | _=>#[]):Array Field).toList.map (fun f=>(Tryz.prog.info? f.type).map fun i=>(f.offset,i.size))=[(0,1),(1,1)].map some:=by kernel_rfl
theorem rY:Iw Tryz.prog 126 125 2 24:=Iw.mk' (z:=(.agg #[.string ⟨#[]⟩,.int .i64 0])) (by kernel_rfl) (by kernel_rfl) rfl (by decide) (by decide)
theorem E8:Iw Tryz.prog 22 3 1 8:=Iw.mk' (z:=(.int .i64 0)) (by kernel_rfl) (by kernel_rfl) rfl (by decide) (by decide)
theorem F5:Iw Tryz.prog 23 5 1 1:=Iw.mk' (z:=(.int .u8 0)) (by kernel_rfl) (by kernel_rfl) rfl (by decide) (by decide)
theorem Ip:Iw Tryz.prog 28 30 4 64:=Iw.mk' (z:=(.agg #[.int .i64 0,.slice none 0 0,.bool false,.slice none 0 0])) (by kernel_rfl) (by kernel_rfl) rfl (by decide) (by decide)
theorem Mz:Iw Tryz.prog 34 9 1 16:=Iw.mk' (z:=(.string ⟨#[]⟩)) (by kernel_rfl) (by kernel_rfl) rfl (by decide) (by decide)
theorem xM:Iw Tryz.prog 63 34 1 24:=Iw.mk' (z:=(.slice none 0 0)) (by kernel_rfl) (by kernel_rfl) rfl (by decide) (by decide)
theorem pW:Ty Tryz.prog 1 false 1:=⟨by kernel_rfl,by kernel_rfl⟩
theorem sH:Ty Tryz.prog 136 true 5:=⟨by kernel_rfl,by kernel_rfl⟩
theorem yY:Ty Tryz.prog 144 true 115:=⟨by kernel_rfl,by kernel_rfl⟩
theorem sK:Ty Tryz.prog 146 true 2:=⟨by kernel_rfl,by kernel_rfl⟩
theorem aAi:Ty Tryz.prog 22 false 1:=⟨by kernel_rfl,by kernel_rfl⟩
theorem aAm:Ty Tryz.prog 23 false 1:=⟨by kernel_rfl,by kernel_rfl⟩
theorem Xx:Ty Tryz.prog 28 false 1:=⟨by kernel_rfl,by kernel_rfl⟩
theorem jY:Ty Tryz.prog 3 false 1:=⟨by kernel_rfl,by kernel_rfl⟩
theorem Nt:Ty Tryz.prog 30 true 4:=⟨by kernel_rfl,by kernel_rfl⟩
theorem aAe:Ty Tryz.prog 33 true 2:=⟨by kernel_rfl,by kernel_rfl⟩
theorem xP:Ty Tryz.prog 34 false 1:=⟨by kernel_rfl,by kernel_rfl⟩
theorem zV:Ty Tryz.prog 36 true 2:=⟨by kernel_rfl,by kernel_rfl⟩
theorem aAc:Ty Tryz.prog 38 true 15:=⟨by kernel_rfl,by kernel_rfl⟩
theorem ty4:Ty Tryz.prog 4 false 1:=⟨by kernel_rfl,by kernel_rfl⟩
theorem Na:Ty Tryz.prog 5 false 1:=⟨by kernel_rfl,by kernel_rfl⟩
theorem aAh:Ty Tryz.prog 85 false 1:=⟨by kernel_rfl,by kernel_rfl⟩
theorem jX:Ty Tryz.prog 9 false 1:=⟨by kernel_rfl,by kernel_rfl⟩
theorem wW:Zt Tryz.prog 104 [.slice none 0 0,.int .i64 0,.bool false]:=⟨(.agg #[.slice none 0 0,.int .i64 0,.bool false]),by kernel_rfl,rfl,by decide⟩
theorem Ky:Zt Tryz.prog 125 [.string ⟨#[]⟩,.int .i64 0]:=⟨(.agg #[.string ⟨#[]⟩,.int .i64 0]),by kernel_rfl,rfl,by decide⟩
theorem Lb:Zt Tryz.prog 136 [.string ⟨#[]⟩,.int .i64 0,.int .i64 0,.slice none 0 0,.slice none 0 0]:=⟨(.agg #[.string ⟨#[]⟩,.int .i64 0,.int .i64 0,.slice none 0 0,.slice none 0 0]),by kernel_rfl,rfl,by decide⟩
theorem xA:Zt Tryz.prog 144 [.string ⟨#[]⟩,.int .i64 0,.int .i64 0,.slice none 0 0,.slice none 0 0,.string ⟨#[]⟩,.int .i64 0,.int .i64 0,.slice none 0 0,.slice none 0 0,.string ⟨#[]⟩,.int .i64 0,.int .i64 0,.slice none 0 0,.slice none 0 0,.string ⟨#[]⟩,.int .i64 0,.int .i64 0,.slice none 0 0,.slice none 0 0,.string ⟨#[]⟩,.int .i64 0,.int .i64 0,.slice none 0 0,.slice none 0 0,.string ⟨#[]⟩,.int .i64 0,.int .i64 0,.slice none 0 0,.slice none 0 0,.string ⟨#[]⟩,.int .i64 0,.int .i64 0,.slice none 0 0,.slice none 0 0,.string ⟨#[]⟩,.int .i64 0,.int .i64 0,.slice none 0 0,.slice none 0 0,.string ⟨#[]⟩,.int .i64 0,.int .i64 0,.slice none 0 0,.slice none 0 0,.string ⟨#[]⟩,.int .i64 0,.int .i64 0,.slice none 0 0,.slice none 0 0,.string ⟨#[]⟩,.int .i64 0,.int .i64 0,.slice none 0 0,.slice none 0 0,.string ⟨#[]⟩,.int .i64 0,.int .i64 0,.slice none 0 0,.slice none 0 0,.string ⟨#[]⟩,.int .i64 0,.int .i64 0,.slice none 0 0,.slice none 0 0,.string ⟨#[]⟩,.int .i64 0,.int .i64 0,.slice none 0 0,.slice none 0 0,.string ⟨#[]⟩,.int .i64 0,.int .i64 0,.slice none 0 0,.slice none 0 0,.string ⟨#[]⟩,.int .i64 0,.int .i64 0,.slice none 0 0,.slice none 0 0,.string ⟨#[]⟩,.int .i64 0,.int .i64 0,.slice none 0 0,.slice none 0 0,.string ⟨#[]⟩,.int .i64 0,.int .i64 0,.slice none 0 0,.slice none 0 0,.string ⟨#[]⟩,.int .i64 0,.int .i64 0,.slice none 0 0,.slice none 0 0,.string ⟨#[]⟩,.int .i64 0,.int .i64 0,.slice none 0 0,.slice none 0 0,.string ⟨#[]⟩,.int .i64 0,.int .i64 0,.slice none 0 0,.slice none 0 0,.string ⟨#[]⟩,.int .i64 0,.int .i64 0,.slice none 0 0,.slice none 0 0,.string ⟨#[]⟩,.int .i64 0,.int .i64 0,.slice none 0 0,.slice none 0 0]:=⟨(.agg #[.string ⟨#[]⟩,.int .i64 0,.int .i64 0,.slice none 0 0,.slice none 0 0,.string ⟨#[]⟩,.int .i64 0,.int .i64 0,.slice none 0 0,.slice none 0 0,.string ⟨#[]⟩,.int .i64 0,.int .i64 0,.slice none 0 0,.slice none 0 0,.string ⟨#[]⟩,.int .i64 0,.int .i64 0,.slice none 0 0,.slice none 0 0,.string ⟨#[]⟩,.int .i64 0,.int .i64 0,.slice none 0 0,.slice none 0 0,.string ⟨#[]⟩,.int .i64 0,.int .i64 0,.slice none 0 0,.slice none 0 0,.string ⟨#[]⟩,.int .i64 0,.int .i64 0,.slice none 0 0,.slice none 0 0,.string ⟨#[]⟩,.int .i64 0,.int .i64 0,.slice none 0 0,.slice none 0 0,.string ⟨#[]⟩,.int .i64 0,.int .i64 0,.slice none 0 0,.slice none 0 0,.string ⟨#[]⟩,.int .i64 0,.int .i64 0,.slice none 0 0,.slice none 0 0,.string ⟨#[]⟩,.int .i64 0,.int .i64 0,.slice none 0 0,.slice none 0 0,.string ⟨#[]⟩,.int .i64 0,.int .i64 0,.slice none 0 0,.slice none 0 0,.string ⟨#[]⟩,.int .i64 0,.int .i64 0,.slice none 0 0,.slice none 0 0,.string ⟨#[]⟩,.int .i64 0,.int .i64 0,.slice none 0 0,.slice none 0 0,.string ⟨#[]⟩,.int .i64 0,.int .i64 0,.slice none 0 0,.slice none 0 0,.string ⟨#[]⟩,.int .i64 0,.int .i64 0,.slice none 0 0,.slice none 0 0,.string ⟨#[]⟩,.int .i64 0,.int .i64 0,.slice none 0 0,.slice none 0 0,.string ⟨#[]⟩,.int .i64 0,.int .i64 0,.slice none 0 0,.slice none 0 0,.string ⟨#[]⟩,.int .i64 0,.int .i64 0,.slice none 0 0,.slice none 0 0,.string ⟨#[]⟩,.int .i64 0,.int .i64 0,.slice none 0 0,.slice none 0 0,.string ⟨#[]⟩,.int .i64 0,.int .i64 0,.slice none 0 0,.slice none 0 0,.string ⟨#[]⟩,.int .i64 0,.int .i64 0,.slice none 0 0,.slice none 0 0,.string ⟨#[]⟩,.int .i64 0,.int .i64 0,.slice none 0 0,.slice none 0 0]),by kernel_rfl,rfl,by decide⟩
theorem iI:Zt Tryz.prog 146 [.int .i64 0,.int .i64 0]:=⟨(.agg #[.int .i64 0,.int .i64 0]),by kernel_rfl,rfl,by decide⟩
theorem xK:Zt Tryz.prog 147 [.int .i64 0,.int .i64 0,.int .i64 0,.int .i64 0,.int .i64 0,.int .i64 0,.int .i64 0,.int .i64 0,.int .i64 0,.int .i64 0]:=⟨(.agg #[.int .i64 0,.int .i64 0,.int .i64 0,.int .i64 0,.int .i64 0,.int .i64 0,.int .i64 0,.int .i64 0,.int .i64 0,.int .i64 0]),by kernel_rfl,rfl,by decide⟩
theorem z3:Zt Tryz.prog 3 [.int .i64 0]:=⟨(.int .i64 0),by kernel_rfl,rfl,by decide⟩
theorem No:Zt Tryz.prog 30 [.int .i64 0,.slice none 0 0,.bool false,.slice none 0 0]:=⟨(.agg #[.int .i64 0,.slice none 0 0,.bool false,.slice none 0 0]),by kernel_rfl,rfl,by decide⟩
theorem rL:Zt Tryz.prog 33 [.int .i64 0,.int .i64 0]:=⟨(.agg #[.int .i64 0,.int .i64 0]),by kernel_rfl,rfl,by decide⟩
theorem z34:Zt Tryz.prog 34 [.slice none 0 0]:=⟨(.slice none 0 0),by kernel_rfl,rfl,by decide⟩
theorem pF:Zt Tryz.prog 36 [.int .i64 0,.int .i64 0]:=⟨(.agg #[.int .i64 0,.int .i64 0]),by kernel_rfl,rfl,by decide⟩
theorem iN:Zt Tryz.prog 38 [.int .i64 0,.string ⟨#[]⟩,.string ⟨#[]⟩,.int .i64 0,.int .i64 0,.int .i64 0,.int .i64 0,.int .i64 0,.int .i64 0,.int .i64 0,.bool false,.int .i64 0,.slice none 0 0,.int .i64 0,.int .i64 0]:=⟨(.agg #[.int .i64 0,.string ⟨#[]⟩,.string ⟨#[]⟩,.int .i64 0,.int .i64 0,.int .i64 0,.int .i64 0,.int .i64 0,.int .i64 0,.int .i64 0,.bool false,.int .i64 0,.slice none 0 0,.int .i64 0,.int .i64 0]),by kernel_rfl,rfl,by decide⟩
theorem z5:Zt Tryz.prog 5 [.int .u8 0]:=⟨(.int .u8 0),by kernel_rfl,rfl,by decide⟩
theorem z59:Zt Tryz.prog 59 [.slice none 0 0,.int .i64 0]:=⟨(.agg #[.slice none 0 0,.int .i64 0]),by kernel_rfl,rfl,by decide⟩
theorem z85:Zt Tryz.prog 85 [.pointer none]:=⟨(.pointer none),by kernel_rfl,rfl,by decide⟩
theorem z9:Zt Tryz.prog 9 [.string ⟨#[]⟩]:=⟨(.string ⟨#[]⟩),by kernel_rfl,rfl,by decide⟩
theorem z92:Zt Tryz.prog 92 [.nilFunc,.nilFunc,.nilFunc,.nilFunc,.nilFunc,.nilFunc,.nilFunc,.nilFunc]:=⟨(.agg #[.nilFunc,.nilFunc,.nilFunc,.nilFunc,.nilFunc,.nilFunc,.nilFunc,.nilFunc]),by kernel_rfl,rfl,by decide⟩
theorem z94:Zt Tryz.prog 94 [.slice none 0 0,.bool false]:=⟨(.agg #[.slice none 0 0,.bool false]),by kernel_rfl,rfl,by decide⟩
theorem wZ:Oo Tryz.prog 20 125=[none,none]:=by kernel_rfl
theorem J7:Oo Tryz.prog 20 3=[none]:=by kernel_rfl
theorem Qb:Oo Tryz.prog 20 30=[none,some 1,none,some 4]:=by kernel_rfl
theorem zK:Oo Tryz.prog 20 34=[some 1]:=by kernel_rfl
theorem Xn:Oo Tryz.prog 20 5=[none]:=by kernel_rfl
theorem dL:Oo Tryz.prog 20 9=[none]:=by kernel_rfl
theorem zU:Tryz.prog.eqGuardType Tryz.prog.depth 33=false:=by kernel_rfl
theorem zH:Tryz.prog.underlying 33=some (.struct (Tryz.prog.fieldsOf 33)):=by kernel_rfl
theorem zL:Tryz.prog.stoodInHeld 33=false:=by kernel_rfl
theorem zW (x y:A3) (w:World):(Op.equalIn 10000 33 (.agg #[.int .i64 x.Alg,.int .i64 x.Bits]) (.agg #[.int .i64 y.Alg,.int .i64 y.Bits])).run Tryz.prog w=.ok (decide (x=y)) w:=by
 have u3:=Tryz.underlying3
 have a3:=Tryz.isAgg3
 have z3:=Tryz.sizeOf3
 rw [show (10000:Nat)=9999 + 1 from rfl,run_equalIn_agg w 9999 33 _ _ zH zL]
 simp only [Program.fieldsOf,Tryz.underlying33]
 go_simp
 rcases x with ⟨x0,x1⟩
 rcases y with ⟨y0,y1⟩
 by_cases h0:x0=y0 <;> by_cases h1:x1=y1 <;> simp [h0,h1]
theorem N2 (x y:A3) {X Y:Operand} {tk:Nat} {yt ty:TypeId} {b1 b2:Option LB}:E6 Tryz.prog tk (.binOp .eql 33 X Y yt) ty [(.agg [.val (.int .i64 x.Alg),.val (.int .i64 x.Bits)],b1),(.agg [.val (.int .i64 y.Alg),.val (.int .i64 y.Bits)],b2)] [] (v0 (.val (.bool (decide (x=y))))):=
 .binOpA rfl rfl (fun _ _=>rfl) (fun w=>by
  rw [Sem.run_bind,run_eqGuard_agg w _ 33 X Y _ _ zU]
  simp only [Result.andThen_ok,run_eql_struct]
  exact congrArg (fun r=>Result.andThen r _) (zW x y w))
theorem aAg:Tryz.prog.eqGuardType Tryz.prog.depth 36=false:=by kernel_rfl
theorem aAd:Tryz.prog.underlying 36=some (.struct (Tryz.prog.fieldsOf 36)):=by kernel_rfl
theorem zI:Tryz.prog.stoodInHeld 36=false:=by kernel_rfl
theorem aAf (x y:Bv) (w:World):(Op.equalIn 10000 36 (.agg #[.int .i64 x.Key,.int .i64 x.Sum]) (.agg #[.int .i64 y.Key,.int .i64 y.Sum])).run Tryz.prog w=.ok (decide (x=y)) w:=by
 have u3:=Tryz.underlying3
 have a3:=Tryz.isAgg3
 have z3:=Tryz.sizeOf3
 rw [show (10000:Nat)=9999 + 1 from rfl,run_equalIn_agg w 9999 36 _ _ aAd zI]
 simp only [Program.fieldsOf,Tryz.underlying36]
 go_simp
 rcases x with ⟨x0,x1⟩
 rcases y with ⟨y0,y1⟩
 by_cases h0:x0=y0 <;> by_cases h1:x1=y1 <;> simp [h0,h1]
theorem Qp (x y:Bv) {X Y:Operand} {tk:Nat} {yt ty:TypeId} {b1 b2:Option LB}:E6 Tryz.prog tk (.binOp .eql 36 X Y yt) ty [(.agg [.val (.int .i64 x.Key),.val (.int .i64 x.Sum)],b1),(.agg [.val (.int .i64 y.Key),.val (.int .i64 y.Sum)],b2)] [] (v0 (.val (.bool (decide (x=y))))):=
 .binOpA rfl rfl (fun _ _=>rfl) (fun w=>by
  rw [Sem.run_bind,run_eqGuard_agg w _ 36 X Y _ _ aAg]
  simp only [Result.andThen_ok,run_eql_struct]
  exact congrArg (fun r=>Result.andThen r _) (aAf x y w))
instance:Pc Tryz.prog 104 0 0 28:=⟨qD⟩
instance:Pc Tryz.prog 104 1 1 3:=⟨rQ⟩
instance:Pc Tryz.prog 104 2 2 4:=⟨rC⟩
instance:Pc Tryz.prog 125 1 1 3:=⟨gF⟩
instance:Pc Tryz.prog 136 1 1 3:=⟨rG⟩
instance:Pc Tryz.prog 136 2 2 3:=⟨rF⟩
instance:Pc Tryz.prog 136 3 3 22:=⟨pS⟩
instance:Pc Tryz.prog 136 4 4 22:=⟨rS⟩
instance:Pc Tryz.prog 30 0 0 3:=⟨tB⟩
instance:Pc Tryz.prog 30 1 1 23:=⟨sY⟩
instance:Pc Tryz.prog 30 2 2 4:=⟨uK⟩
instance:Pc Tryz.prog 30 3 3 28:=⟨uM⟩
instance:Pc Tryz.prog 33 0 0 3:=⟨uE⟩
instance:Pc Tryz.prog 33 1 1 3:=⟨uY⟩
instance:Pc Tryz.prog 36 0 0 3:=⟨tR⟩
instance:Pc Tryz.prog 36 1 1 3:=⟨sV⟩
instance:Pc Tryz.prog 38 0 0 3:=⟨vW⟩
instance:Pc Tryz.prog 38 1 1 9:=⟨tQ⟩
instance:Pc Tryz.prog 38 10 12 34:=⟨rH⟩
instance:Pc Tryz.prog 38 11 13 36:=⟨qL⟩
instance:Pc Tryz.prog 38 2 2 9:=⟨vX⟩
instance:Pc Tryz.prog 38 3 3 33:=⟨uD⟩
instance:Pc Tryz.prog 38 4 5 3:=⟨uQ⟩
instance:Pc Tryz.prog 38 5 6 33:=⟨vL⟩
instance:Pc Tryz.prog 38 6 8 3:=⟨tM⟩
instance:Pc Tryz.prog 38 7 9 3:=⟨vZ⟩
instance:Pc Tryz.prog 38 8 10 4:=⟨vE⟩
instance:Pc Tryz.prog 38 9 11 3:=⟨vC⟩
instance:Pc Tryz.prog 59 0 0 22:=⟨sW⟩
instance:Pc Tryz.prog 59 1 1 3:=⟨uA⟩
instance:Pc Tryz.prog 94 0 0 28:=⟨uX⟩
instance:Pc Tryz.prog 94 1 1 4:=⟨uB⟩
instance:oX Tryz.prog 126 125 2 24:=⟨rY⟩
instance:oX Tryz.prog 22 3 1 8:=⟨E8⟩
instance:oX Tryz.prog 23 5 1 1:=⟨F5⟩
instance:oX Tryz.prog 28 30 4 64:=⟨Ip⟩
instance:oX Tryz.prog 34 9 1 16:=⟨Mz⟩
instance:oX Tryz.prog 63 34 1 24:=⟨xM⟩
instance:Ug Tryz.prog 1 false 1:=⟨pW⟩
instance:Ug Tryz.prog 136 true 5:=⟨sH⟩
instance:Ug Tryz.prog 144 true 115:=⟨yY⟩
instance:Ug Tryz.prog 146 true 2:=⟨sK⟩
instance:Ug Tryz.prog 22 false 1:=⟨aAi⟩
instance:Ug Tryz.prog 23 false 1:=⟨aAm⟩
instance:Ug Tryz.prog 28 false 1:=⟨Xx⟩
instance:Ug Tryz.prog 3 false 1:=⟨jY⟩
instance:Ug Tryz.prog 30 true 4:=⟨Nt⟩
instance:Ug Tryz.prog 33 true 2:=⟨aAe⟩
instance:Ug Tryz.prog 34 false 1:=⟨xP⟩
instance:Ug Tryz.prog 36 true 2:=⟨zV⟩
instance:Ug Tryz.prog 38 true 15:=⟨aAc⟩
instance:Ug Tryz.prog 4 false 1:=⟨ty4⟩
instance:Ug Tryz.prog 5 false 1:=⟨Na⟩
instance:Ug Tryz.prog 85 false 1:=⟨aAh⟩
instance:Ug Tryz.prog 9 false 1:=⟨jX⟩
instance:Z4 Tryz.prog 104 [.slice none 0 0,.int .i64 0,.bool false]:=⟨wW⟩
instance:Z4 Tryz.prog 125 [.string ⟨#[]⟩,.int .i64 0]:=⟨Ky⟩
instance:Z4 Tryz.prog 136 [.string ⟨#[]⟩,.int .i64 0,.int .i64 0,.slice none 0 0,.slice none 0 0]:=⟨Lb⟩
instance:Z4 Tryz.prog 144 [.string ⟨#[]⟩,.int .i64 0,.int .i64 0,.slice none 0 0,.slice none 0 0,.string ⟨#[]⟩,.int .i64 0,.int .i64 0,.slice none 0 0,.slice none 0 0,.string ⟨#[]⟩,.int .i64 0,.int .i64 0,.slice none 0 0,.slice none 0 0,.string ⟨#[]⟩,.int .i64 0,.int .i64 0,.slice none 0 0,.slice none 0 0,.string ⟨#[]⟩,.int .i64 0,.int .i64 0,.slice none 0 0,.slice none 0 0,.string ⟨#[]⟩,.int .i64 0,.int .i64 0,.slice none 0 0,.slice none 0 0,.string ⟨#[]⟩,.int .i64 0,.int .i64 0,.slice none 0 0,.slice none 0 0,.string ⟨#[]⟩,.int .i64 0,.int .i64 0,.slice none 0 0,.slice none 0 0,.string ⟨#[]⟩,.int .i64 0,.int .i64 0,.slice none 0 0,.slice none 0 0,.string ⟨#[]⟩,.int .i64 0,.int .i64 0,.slice none 0 0,.slice none 0 0,.string ⟨#[]⟩,.int .i64 0,.int .i64 0,.slice none 0 0,.slice none 0 0,.string ⟨#[]⟩,.int .i64 0,.int .i64 0,.slice none 0 0,.slice none 0 0,.string ⟨#[]⟩,.int .i64 0,.int .i64 0,.slice none 0 0,.slice none 0 0,.string ⟨#[]⟩,.int .i64 0,.int .i64 0,.slice none 0 0,.slice none 0 0,.string ⟨#[]⟩,.int .i64 0,.int .i64 0,.slice none 0 0,.slice none 0 0,.string ⟨#[]⟩,.int .i64 0,.int .i64 0,.slice none 0 0,.slice none 0 0,.string ⟨#[]⟩,.int .i64 0,.int .i64 0,.slice none 0 0,.slice none 0 0,.string ⟨#[]⟩,.int .i64 0,.int .i64 0,.slice none 0 0,.slice none 0 0,.string ⟨#[]⟩,.int .i64 0,.int .i64 0,.slice none 0 0,.slice none 0 0,.string ⟨#[]⟩,.int .i64 0,.int .i64 0,.slice none 0 0,.slice none 0 0,.string ⟨#[]⟩,.int .i64 0,.int .i64 0,.slice none 0 0,.slice none 0 0,.string ⟨#[]⟩,.int .i64 0,.int .i64 0,.slice none 0 0,.slice none 0 0,.string ⟨#[]⟩,.int .i64 0,.int .i64 0,.slice none 0 0,.slice none 0 0]:=⟨xA⟩
instance:Z4 Tryz.prog 146 [.int .i64 0,.int .i64 0]:=⟨iI⟩
instance:Z4 Tryz.prog 147 [.int .i64 0,.int .i64 0,.int .i64 0,.int .i64 0,.int .i64 0,.int .i64 0,.int .i64 0,.int .i64 0,.int .i64 0,.int .i64 0]:=⟨xK⟩
instance:Z4 Tryz.prog 3 [.int .i64 0]:=⟨z3⟩
instance:Z4 Tryz.prog 30 [.int .i64 0,.slice none 0 0,.bool false,.slice none 0 0]:=⟨No⟩
instance:Z4 Tryz.prog 33 [.int .i64 0,.int .i64 0]:=⟨rL⟩
instance:Z4 Tryz.prog 34 [.slice none 0 0]:=⟨z34⟩
instance:Z4 Tryz.prog 36 [.int .i64 0,.int .i64 0]:=⟨pF⟩
instance:Z4 Tryz.prog 38 [.int .i64 0,.string ⟨#[]⟩,.string ⟨#[]⟩,.int .i64 0,.int .i64 0,.int .i64 0,.int .i64 0,.int .i64 0,.int .i64 0,.int .i64 0,.bool false,.int .i64 0,.slice none 0 0,.int .i64 0,.int .i64 0]:=⟨iN⟩
instance:Z4 Tryz.prog 5 [.int .u8 0]:=⟨z5⟩
instance:Z4 Tryz.prog 59 [.slice none 0 0,.int .i64 0]:=⟨z59⟩
instance:Z4 Tryz.prog 85 [.pointer none]:=⟨z85⟩
instance:Z4 Tryz.prog 9 [.string ⟨#[]⟩]:=⟨z9⟩
instance:Z4 Tryz.prog 92 [.nilFunc,.nilFunc,.nilFunc,.nilFunc,.nilFunc,.nilFunc,.nilFunc,.nilFunc]:=⟨z92⟩
instance:Z4 Tryz.prog 94 [.slice none 0 0,.bool false]:=⟨z94⟩
instance:aF Ak.enc 2:=⟨Ak.enc_len⟩
instance:aF A3.enc 2:=⟨A3.enc_len⟩
instance:aF Bv.enc 2:=⟨Bv.enc_len⟩
instance:aF Ab.enc 15:=⟨Ab.enc_len⟩
instance:aF Aa.enc 4:=⟨Aa.enc_len⟩
instance:aF Bg.enc 5:=⟨Bg.enc_len⟩
instance:aF Ai.enc 2:=⟨Ai.enc_len⟩
instance:aF Am.enc 2:=⟨Am.enc_len⟩
instance:aF Ae.enc 3:=⟨Ae.enc_len⟩
end Go.Proofs.YtlfeokjhphpjeaaGreat
