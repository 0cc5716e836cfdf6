import Derived.Test.YtfanepojdefdpaaGreatEL
import Derived.Test.YtfanepojdefdpaaGreatP1
import Derived.Test.YtfanepojdefdpaaGreatProg
set_option linter.unusedVariables false
set_option linter.unusedSimpArgs false
set_option maxRecDepth 100000
set_option maxHeartbeats 1600000
namespace Go.Proofs.YtfanepojdefdpaaGreat
open Go.RowKit
abbrev Al.dv (x:Al):List DV:=[.sl 1 (An eI x.L),.val (.int .i64 x.At)]
def Al.enc (x:Al):List C:=[.sl 1 (An eI x.L),.int .i64 x.At]
theorem Al.enc_len (x:Al):(Al.enc x).length=2:=rfl
abbrev Aw.dv (x:Aw):List DV:=[.val (.int .i64 x.Alg),.val (.int .i64 x.Bits)]
def Aw.enc (x:Aw):List C:=[.int .i64 x.Alg,.int .i64 x.Bits]
theorem Aw.enc_len (x:Aw):(Aw.enc x).length=2:=rfl
abbrev Ct.dv (x:Ct):List DV:=[.val (.int .i64 x.Key),.val (.int .i64 x.Sum)]
def Ct.enc (x:Ct):List C:=[.int .i64 x.Key,.int .i64 x.Sum]
theorem Ct.enc_len (x:Ct):(Ct.enc x).length=2:=rfl
abbrev Ab.dv (x:Ab):List DV:=[.val (.int .i64 x.Serial),.val (.string x.Issuer),.val (.string x.Subject),.val (.int .i64 x.Key.Alg),.val (.int .i64 x.Key.Bits),.val (.int .i64 x.KeyId),.val (.int .i64 x.Hash.Alg),.val (.int .i64 x.Hash.Bits),.val (.int .i64 x.From),.val (.int .i64 x.To),.val (.bool x.Authority),.val (.int .i64 x.Path),.sl 1 (An eS x.Names),.val (.int .i64 x.Seal.Key),.val (.int .i64 x.Seal.Sum)]
def Ab.enc (x:Ab):List C:=[.int .i64 x.Serial,.str x.Issuer,.str x.Subject,.int .i64 x.Key.Alg,.int .i64 x.Key.Bits,.int .i64 x.KeyId,.int .i64 x.Hash.Alg,.int .i64 x.Hash.Bits,.int .i64 x.From,.int .i64 x.To,.bool x.Authority,.int .i64 x.Path,.sl 1 (An eS x.Names),.int .i64 x.Seal.Key,.int .i64 x.Seal.Sum]
abbrev Ab.ec (x:Ab):List C:=[.int .i64 x.Serial,.str x.Issuer,.str x.Subject,.int .i64 x.Key.Alg,.int .i64 x.Key.Bits,.int .i64 x.KeyId,.int .i64 x.Hash.Alg,.int .i64 x.Hash.Bits,.int .i64 x.From,.int .i64 x.To,.bool x.Authority,.int .i64 x.Path,.sl 1 (An eS x.Names),.int .i64 x.Seal.Key,.int .i64 x.Seal.Sum]
theorem Ab.enc_len (x:Ab):(Ab.enc x).length=15:=rfl
abbrev Ac.dv (x:Ac):List DV:=[.val (.string x.Alias),.val (.int .i64 x.Key.Alg),.val (.int .i64 x.Key.Bits),.val (.int .i64 x.KeyId),.val (.bool x.Secret),.sl 15 (An Ab.enc x.Chain)]
def Ac.enc (x:Ac):List C:=[.str x.Alias,.int .i64 x.Key.Alg,.int .i64 x.Key.Bits,.int .i64 x.KeyId,.bool x.Secret,.sl 15 (An Ab.enc x.Chain)]
abbrev Ac.ec (x:Ac):List C:=[.str x.Alias,.int .i64 x.Key.Alg,.int .i64 x.Key.Bits,.int .i64 x.KeyId,.bool x.Secret,.sl 15 (An Ab.enc x.Chain)]
theorem Ac.enc_len (x:Ac):(Ac.enc x).length=6:=rfl
mutual
def Aa.enc:Aa->List C
 | ⟨Tag,Bytes,Nested,Elements⟩=>[.int .i64 Tag,.sl 1 (An e8 Bytes),.bool Nested,.sl 4 (Aa.encs Elements)]
def Aa.encs:List Aa->List C
 | []=>[]
 | x :: l=>Aa.enc x ++ Aa.encs l
end
theorem Aa.encs_eq:∀ (l:List Aa),Aa.encs l=An Aa.enc l
 | []=>rfl
 | x :: l=>by
  show Aa.enc x ++ Aa.encs l=Aa.enc x ++ An Aa.enc l
  rw [Aa.encs_eq l]
theorem Aa.enc_eq (x:Aa):Aa.enc x=[.int .i64 x.Tag,.sl 1 (An e8 x.Bytes),.bool x.Nested,.sl 4 (An Aa.enc x.Elements)]:=by
 cases x
 simp only [Aa.enc,Aa.encs_eq]
theorem Aa.enc_len (x:Aa):(Aa.enc x).length=4:=by rw [Aa.enc_eq]; rfl
abbrev Aa.dv (x:Aa):List DV:=[.val (.int .i64 x.Tag),.sl 1 (An e8 x.Bytes),.val (.bool x.Nested),.sl 4 (An Aa.enc x.Elements)]
abbrev Bt.dv (x:Bt):List DV:=[.val (.string x.name),.val (.int .i64 x.kind),.val (.int .i64 x.way),.sl 1 (An eI x.sizes),.sl 1 (An eI x.strengths)]
def Bt.enc (x:Bt):List C:=[.str x.name,.int .i64 x.kind,.int .i64 x.way,.sl 1 (An eI x.sizes),.sl 1 (An eI x.strengths)]
theorem Bt.enc_len (x:Bt):(Bt.enc x).length=5:=rfl
abbrev Ap.dv (x:Ap):List DV:=[.val (.string x.name),.val (.int .i64 x.kind)]
def Ap.enc (x:Ap):List C:=[.str x.name,.int .i64 x.kind]
theorem Ap.enc_len (x:Ap):(Ap.enc x).length=2:=rfl
abbrev Aj.dv (x:Aj):List DV:=[.sl 4 (An Aa.enc x.l),.val (.bool x.Failed)]
def Aj.enc (x:Aj):List C:=[.sl 4 (An Aa.enc x.l),.bool x.Failed]
theorem Aj.enc_len (x:Aj):(Aj.enc x).length=2:=rfl
abbrev Ad.dv (x:Ad):List DV:=[.sl 4 (An Aa.enc x.L),.val (.int .i64 x.At),.val (.bool x.OK)]
def Ad.enc (x:Ad):List C:=[.sl 4 (An Aa.enc x.L),.int .i64 x.At,.bool x.OK]
theorem Ad.enc_len (x:Ad):(Ad.enc x).length=3:=rfl
theorem M9:Tryz.prog.underlying 3=some (.int .i64):=by kernel_rfl
theorem uU:Tryz.prog.underlying 4=some (.bool):=by kernel_rfl
theorem Ku:Tryz.prog.underlying 5=some (.int .u8):=by kernel_rfl
theorem Rc:Tryz.prog.underlying 9=some (.string):=by kernel_rfl
theorem Tl:Tryz.prog.underlying 29=some (.slice 5):=by kernel_rfl
theorem Vs:Tryz.prog.underlying 37=some (.struct ((match Tryz.prog.underlying 37 with | some (.struct f)=>f | _=>#[]))):=by kernel_rfl
theorem Nj:Tryz.prog.underlying 40=some (.struct ((match Tryz.prog.underlying 40 with | some (.struct f)=>f | _=>#[]))):=by kernel_rfl
theorem Io:Tryz.prog.underlying 50=some (.struct ((match Tryz.prog.underlying 50 with | some (.struct f)=>f | _=>#[]))):=by kernel_rfl
theorem oO:Tryz.prog.underlying 59=some (.struct ((match Tryz.prog.underlying 59 with | some (.struct f)=>f | _=>#[]))):=by kernel_rfl
theorem aB7:Tryz.prog.underlying 63=some (.slice 9):=by kernel_rfl
theorem aL:Tryz.prog.underlying 65=some (.struct ((match Tryz.prog.underlying 65 with | some (.struct f)=>f | _=>#[]))):=by kernel_rfl
theorem L3:Tryz.prog.underlying 67=some (.struct ((match Tryz.prog.underlying 67 with | some (.struct f)=>f | _=>#[]))):=by kernel_rfl
theorem aCq:Tryz.prog.underlying 87=some (.int .u64):=by kernel_rfl
theorem kR:Tryz.prog.underlying 96=some (.struct ((match Tryz.prog.underlying 96 with | some (.struct f)=>f | _=>#[]))):=by kernel_rfl
theorem cV:Tryz.prog.underlying 131=some (.struct ((match Tryz.prog.underlying 131 with | some (.struct f)=>f | _=>#[]))):=by kernel_rfl
theorem Ut:Tryz.prog.underlying 141=some (.int .u64):=by kernel_rfl
theorem oI:Tryz.prog.underlying 153=some (.int .u32):=by kernel_rfl
theorem Gn:Tryz.prog.underlying 158=some (.struct ((match Tryz.prog.underlying 158 with | some (.struct f)=>f | _=>#[]))):=by kernel_rfl
theorem Pg:Tryz.prog.underlying 167=some (.array 8 1):=by kernel_rfl
theorem sD:Tryz.prog.underlying 177=some (.array 23 158):=by kernel_rfl
theorem Hb:Tryz.prog.underlying 182=some (.struct ((match Tryz.prog.underlying 182 with | some (.struct f)=>f | _=>#[]))):=by kernel_rfl
theorem Se:Tryz.prog.underlying 192=some (.array 2 3):=by kernel_rfl
theorem rV:Tryz.prog.underlying 193=some (.array 5 192):=by kernel_rfl
theorem uH:Fd Tryz.prog 131 0 0 48:=⟨_,(match Tryz.prog.underlying 131 with | some (.struct f)=>f | _=>#[])[0]!,cV,by kernel_rfl,by kernel_rfl,by kernel_rfl⟩
theorem vF:Fd Tryz.prog 131 1 1 4:=⟨_,(match Tryz.prog.underlying 131 with | some (.struct f)=>f | _=>#[])[1]!,cV,by kernel_rfl,by kernel_rfl,by kernel_rfl⟩
theorem vM:Fd Tryz.prog 158 1 1 3:=⟨_,(match Tryz.prog.underlying 158 with | some (.struct f)=>f | _=>#[])[1]!,Gn,by kernel_rfl,by kernel_rfl,by kernel_rfl⟩
theorem vI:Fd Tryz.prog 158 2 2 3:=⟨_,(match Tryz.prog.underlying 158 with | some (.struct f)=>f | _=>#[])[2]!,Gn,by kernel_rfl,by kernel_rfl,by kernel_rfl⟩
theorem wA:Fd Tryz.prog 158 3 3 22:=⟨_,(match Tryz.prog.underlying 158 with | some (.struct f)=>f | _=>#[])[3]!,Gn,by kernel_rfl,by kernel_rfl,by kernel_rfl⟩
theorem tQ:Fd Tryz.prog 158 4 4 22:=⟨_,(match Tryz.prog.underlying 158 with | some (.struct f)=>f | _=>#[])[4]!,Gn,by kernel_rfl,by kernel_rfl,by kernel_rfl⟩
theorem lL:Fd Tryz.prog 182 1 1 3:=⟨_,(match Tryz.prog.underlying 182 with | some (.struct f)=>f | _=>#[])[1]!,Hb,by kernel_rfl,by kernel_rfl,by kernel_rfl⟩
theorem zA:Fd Tryz.prog 37 0 0 3:=⟨_,(match Tryz.prog.underlying 37 with | some (.struct f)=>f | _=>#[])[0]!,Vs,by kernel_rfl,by kernel_rfl,by kernel_rfl⟩
theorem aAa:Fd Tryz.prog 37 1 1 3:=⟨_,(match Tryz.prog.underlying 37 with | some (.struct f)=>f | _=>#[])[1]!,Vs,by kernel_rfl,by kernel_rfl,by kernel_rfl⟩
theorem R3:Fd Tryz.prog 40 0 0 9:=⟨_,(match Tryz.prog.underlying 40 with | some (.struct f)=>f | _=>#[])[0]!,Nj,by kernel_rfl,by kernel_rfl,by kernel_rfl⟩
theorem X0:Fd Tryz.prog 40 1 1 37:=⟨_,(match Tryz.prog.underlying 40 with | some (.struct f)=>f | _=>#[])[1]!,Nj,by kernel_rfl,by kernel_rfl,by kernel_rfl⟩
theorem Yx:Fd Tryz.prog 40 2 3 3:=⟨_,(match Tryz.prog.underlying 40 with | some (.struct f)=>f | _=>#[])[2]!,Nj,by kernel_rfl,by kernel_rfl,by kernel_rfl⟩
theorem iA:Fd Tryz.prog 40 3 4 4:=⟨_,(match Tryz.prog.underlying 40 with | some (.struct f)=>f | _=>#[])[3]!,Nj,by kernel_rfl,by kernel_rfl,by kernel_rfl⟩
theorem X8:Fd Tryz.prog 40 4 5 38:=⟨_,(match Tryz.prog.underlying 40 with | some (.struct f)=>f | _=>#[])[4]!,Nj,by kernel_rfl,by kernel_rfl,by kernel_rfl⟩
theorem yT:Fd Tryz.prog 50 0 0 3:=⟨_,(match Tryz.prog.underlying 50 with | some (.struct f)=>f | _=>#[])[0]!,Io,by kernel_rfl,by kernel_rfl,by kernel_rfl⟩
theorem aAi:Fd Tryz.prog 50 1 1 29:=⟨_,(match Tryz.prog.underlying 50 with | some (.struct f)=>f | _=>#[])[1]!,Io,by kernel_rfl,by kernel_rfl,by kernel_rfl⟩
theorem aAq:Fd Tryz.prog 50 2 2 4:=⟨_,(match Tryz.prog.underlying 50 with | some (.struct f)=>f | _=>#[])[2]!,Io,by kernel_rfl,by kernel_rfl,by kernel_rfl⟩
theorem aAh:Fd Tryz.prog 50 3 3 48:=⟨_,(match Tryz.prog.underlying 50 with | some (.struct f)=>f | _=>#[])[3]!,Io,by kernel_rfl,by kernel_rfl,by kernel_rfl⟩
theorem xR:Fd Tryz.prog 59 0 0 22:=⟨_,(match Tryz.prog.underlying 59 with | some (.struct f)=>f | _=>#[])[0]!,oO,by kernel_rfl,by kernel_rfl,by kernel_rfl⟩
theorem aA7:Fd Tryz.prog 59 1 1 3:=⟨_,(match Tryz.prog.underlying 59 with | some (.struct f)=>f | _=>#[])[1]!,oO,by kernel_rfl,by kernel_rfl,by kernel_rfl⟩
theorem aBp:Fd Tryz.prog 65 0 0 3:=⟨_,(match Tryz.prog.underlying 65 with | some (.struct f)=>f | _=>#[])[0]!,aL,by kernel_rfl,by kernel_rfl,by kernel_rfl⟩
theorem xZ:Fd Tryz.prog 65 1 1 3:=⟨_,(match Tryz.prog.underlying 65 with | some (.struct f)=>f | _=>#[])[1]!,aL,by kernel_rfl,by kernel_rfl,by kernel_rfl⟩
theorem aAt:Fd Tryz.prog 67 0 0 3:=⟨_,(match Tryz.prog.underlying 67 with | some (.struct f)=>f | _=>#[])[0]!,L3,by kernel_rfl,by kernel_rfl,by kernel_rfl⟩
theorem aAg:Fd Tryz.prog 67 1 1 9:=⟨_,(match Tryz.prog.underlying 67 with | some (.struct f)=>f | _=>#[])[1]!,L3,by kernel_rfl,by kernel_rfl,by kernel_rfl⟩
theorem tO:Fd Tryz.prog 67 10 12 63:=⟨_,(match Tryz.prog.underlying 67 with | some (.struct f)=>f | _=>#[])[10]!,L3,by kernel_rfl,by kernel_rfl,by kernel_rfl⟩
theorem vU:Fd Tryz.prog 67 11 13 65:=⟨_,(match Tryz.prog.underlying 67 with | some (.struct f)=>f | _=>#[])[11]!,L3,by kernel_rfl,by kernel_rfl,by kernel_rfl⟩
theorem aBi:Fd Tryz.prog 67 2 2 9:=⟨_,(match Tryz.prog.underlying 67 with | some (.struct f)=>f | _=>#[])[2]!,L3,by kernel_rfl,by kernel_rfl,by kernel_rfl⟩
theorem jI:Fd Tryz.prog 67 3 3 37:=⟨_,(match Tryz.prog.underlying 67 with | some (.struct f)=>f | _=>#[])[3]!,L3,by kernel_rfl,by kernel_rfl,by kernel_rfl⟩
theorem jJ:Fd Tryz.prog 67 4 5 3:=⟨_,(match Tryz.prog.underlying 67 with | some (.struct f)=>f | _=>#[])[4]!,L3,by kernel_rfl,by kernel_rfl,by kernel_rfl⟩
theorem aAz:Fd Tryz.prog 67 5 6 37:=⟨_,(match Tryz.prog.underlying 67 with | some (.struct f)=>f | _=>#[])[5]!,L3,by kernel_rfl,by kernel_rfl,by kernel_rfl⟩
theorem yY:Fd Tryz.prog 67 6 8 3:=⟨_,(match Tryz.prog.underlying 67 with | some (.struct f)=>f | _=>#[])[6]!,L3,by kernel_rfl,by kernel_rfl,by kernel_rfl⟩
theorem zO:Fd Tryz.prog 67 7 9 3:=⟨_,(match Tryz.prog.underlying 67 with | some (.struct f)=>f | _=>#[])[7]!,L3,by kernel_rfl,by kernel_rfl,by kernel_rfl⟩
theorem aAp:Fd Tryz.prog 67 8 10 4:=⟨_,(match Tryz.prog.underlying 67 with | some (.struct f)=>f | _=>#[])[8]!,L3,by kernel_rfl,by kernel_rfl,by kernel_rfl⟩
theorem aBf:Fd Tryz.prog 67 9 11 3:=⟨_,(match Tryz.prog.underlying 67 with | some (.struct f)=>f | _=>#[])[9]!,L3,by kernel_rfl,by kernel_rfl,by kernel_rfl⟩
theorem aA6:Fd Tryz.prog 96 0 0 48:=⟨_,(match Tryz.prog.underlying 96 with | some (.struct f)=>f | _=>#[])[0]!,kR,by kernel_rfl,by kernel_rfl,by kernel_rfl⟩
theorem zP:Fd Tryz.prog 96 1 1 3:=⟨_,(match Tryz.prog.underlying 96 with | some (.struct f)=>f | _=>#[])[1]!,kR,by kernel_rfl,by kernel_rfl,by kernel_rfl⟩
theorem xN:Fd Tryz.prog 96 2 2 4:=⟨_,(match Tryz.prog.underlying 96 with | some (.struct f)=>f | _=>#[])[2]!,kR,by kernel_rfl,by kernel_rfl,by kernel_rfl⟩
theorem xB:((match Tryz.prog.underlying 131 with | some (.struct f)=>f | _=>#[]):Array Field).toList.map (fun f=>(Tryz.prog.info? f.type).map fun i=>(f.offset,i.size))=[(0,1),(1,1)].map some:=by kernel_rfl
theorem Jn:((match Tryz.prog.underlying 158 with | some (.struct f)=>f | _=>#[]):Array Field).toList.map (fun f=>(Tryz.prog.info? f.type).map fun i=>(f.offset,i.size))=[(0,1),(1,1),(2,1),(3,1),(4,1)].map some:=by kernel_rfl
theorem Js:((match Tryz.prog.underlying 182 with | some (.struct f)=>f | _=>#[]):Array Field).toList.map (fun f=>(Tryz.prog.info? f.type).map fun i=>(f.offset,i.size))=[(0,1),(1,1)].map some:=by kernel_rfl
theorem nT:((match Tryz.prog.underlying 37 with | some (.struct f)=>f | _=>#[]):Array Field).toList.map (fun f=>(Tryz.prog.info? f.type).map fun i=>(f.offset,i.size))=[(0,1),(1,1)].map some:=by kernel_rfl
theorem bH:((match Tryz.prog.underlying 40 with | some (.struct f)=>f | _=>#[]):Array Field).toList.map (fun f=>(Tryz.prog.info? f.type).map fun i=>(f.offset,i.size))=[(0,1),(1,2),(3,1),(4,1),(5,1)].map some:=by kernel_rfl
theorem Nc:((match Tryz.prog.underlying 50 with | some (.struct f)=>f | _=>#[]):Array Field).toList.map (fun f=>(Tryz.prog.info? f.type).map fun i=>(f.offset,i.size))=[(0,1),(1,1),(2,1),(3,1)].map some:=by kernel_rfl
theorem aD7:((match Tryz.prog.underlying 59 with | some (.struct f)=>f | _=>#[]):Array Field).toList.map (fun f=>(Tryz.prog.info? f.type).map fun i=>(f.offset,i.size))=[(0,1),(1,1)].map some:=by kernel_rfl
theorem vZ:((match Tryz.prog.underlying 65 with | some (.struct f)=>f | _=>#[]):Array Field).toList.map (fun f=>(Tryz.prog.info? f.type).map fun i=>(f.offset,i.size))=[(0,1),(1,1)].map some:=by kernel_rfl
theorem tM:((match Tryz.prog.underlying 67 with | some (.struct f)=>f | _=>#[]):Array Field).toList.map (fun f=>(Tryz.prog.info? f.type).map fun i=>(f.offset,i.size))=[(0,1),(1,1),(2,1),(3,2),(5,1),(6,2),(8,1),(9,1),(10,1),(11,1),(12,1),(13,2)].map some:=by kernel_rfl
theorem aD8:((match Tryz.prog.underlying 96 with | some (.struct f)=>f | _=>#[]):Array Field).toList.map (fun f=>(Tryz.prog.info? f.type).map fun i=>(f.offset,i.size))=[(0,1),(1,1),(2,1)].map some:=by kernel_rfl
theorem wZ:Ij Tryz.prog 183 182 2 24:=Ij.mk' (z:=(.agg #[.string ⟨#[]⟩,.int .i64 0])) (by kernel_rfl) (by kernel_rfl) rfl (by decide) (by decide)
theorem Hf:Ij Tryz.prog 22 3 1 8:=Ij.mk' (z:=(.int .i64 0)) (by kernel_rfl) (by kernel_rfl) rfl (by decide) (by decide)
theorem P6:Ij Tryz.prog 27 40 6 72:=Ij.mk' (z:=(.agg #[.string ⟨#[]⟩,.int .i64 0,.int .i64 0,.int .i64 0,.bool false,.slice none 0 0])) (by kernel_rfl) (by kernel_rfl) rfl (by decide) (by decide)
theorem Hp:Ij Tryz.prog 29 5 1 1:=Ij.mk' (z:=(.int .u8 0)) (by kernel_rfl) (by kernel_rfl) rfl (by decide) (by decide)
theorem W4:Ij Tryz.prog 38 67 15 152:=Ij.mk' (z:=(.agg #[.int .i64 0,.string ⟨#[]⟩,.string ⟨#[]⟩,.int .i64 0,.int .i64 0,.int .i64 0,.int .i64 0,.int .i64 0,.int .i64 0,.int .i64 0,.bool false,.int .i64 0,.slice none 0 0,.int .i64 0,.int .i64 0])) (by kernel_rfl) (by kernel_rfl) rfl (by decide) (by decide)
theorem Jz:Ij Tryz.prog 48 50 4 64:=Ij.mk' (z:=(.agg #[.int .i64 0,.slice none 0 0,.bool false,.slice none 0 0])) (by kernel_rfl) (by kernel_rfl) rfl (by decide) (by decide)
theorem Tz:Ij Tryz.prog 63 9 1 16:=Ij.mk' (z:=(.string ⟨#[]⟩)) (by kernel_rfl) (by kernel_rfl) rfl (by decide) (by decide)
theorem uL:Ty Tryz.prog 1 false 1:=⟨by kernel_rfl,by kernel_rfl⟩
theorem aDq:Ty Tryz.prog 127 false 1:=⟨by kernel_rfl,by kernel_rfl⟩
theorem wH:Ty Tryz.prog 158 true 5:=⟨by kernel_rfl,by kernel_rfl⟩
theorem aC4:Ty Tryz.prog 177 true 115:=⟨by kernel_rfl,by kernel_rfl⟩
theorem wQ:Ty Tryz.prog 192 true 2:=⟨by kernel_rfl,by kernel_rfl⟩
theorem aEg:Ty Tryz.prog 22 false 1:=⟨by kernel_rfl,by kernel_rfl⟩
theorem aEn:Ty Tryz.prog 29 false 1:=⟨by kernel_rfl,by kernel_rfl⟩
theorem Wz:Ty Tryz.prog 3 false 1:=⟨by kernel_rfl,by kernel_rfl⟩
theorem Uj:Ty Tryz.prog 37 true 2:=⟨by kernel_rfl,by kernel_rfl⟩
theorem bI:Ty Tryz.prog 38 false 1:=⟨by kernel_rfl,by kernel_rfl⟩
theorem ty4:Ty Tryz.prog 4 false 1:=⟨by kernel_rfl,by kernel_rfl⟩
theorem Uu:Ty Tryz.prog 40 true 6:=⟨by kernel_rfl,by kernel_rfl⟩
theorem yV:Ty Tryz.prog 48 false 1:=⟨by kernel_rfl,by kernel_rfl⟩
theorem N8:Ty Tryz.prog 5 false 1:=⟨by kernel_rfl,by kernel_rfl⟩
theorem Nb:Ty Tryz.prog 50 true 4:=⟨by kernel_rfl,by kernel_rfl⟩
theorem aEo:Ty Tryz.prog 63 false 1:=⟨by kernel_rfl,by kernel_rfl⟩
theorem aEi:Ty Tryz.prog 65 true 2:=⟨by kernel_rfl,by kernel_rfl⟩
theorem iE:Ty Tryz.prog 67 true 15:=⟨by kernel_rfl,by kernel_rfl⟩
theorem Wv:Ty Tryz.prog 9 false 1:=⟨by kernel_rfl,by kernel_rfl⟩
theorem aEq:Zt Tryz.prog 127 [.pointer none]:=⟨(.pointer none),by kernel_rfl,rfl,by decide⟩
theorem zZ:Zt Tryz.prog 131 [.slice none 0 0,.bool false]:=⟨(.agg #[.slice none 0 0,.bool false]),by kernel_rfl,rfl,by decide⟩
theorem Mg:Zt Tryz.prog 158 [.string ⟨#[]⟩,.int .i64 0,.int .i64 0,.slice none 0 0,.slice none 0 0]:=⟨(.agg #[.string ⟨#[]⟩,.int .i64 0,.int .i64 0,.slice none 0 0,.slice none 0 0]),by kernel_rfl,rfl,by decide⟩
theorem aB4:Zt Tryz.prog 167 [.nilFunc,.nilFunc,.nilFunc,.nilFunc,.nilFunc,.nilFunc,.nilFunc,.nilFunc]:=⟨(.agg #[.nilFunc,.nilFunc,.nilFunc,.nilFunc,.nilFunc,.nilFunc,.nilFunc,.nilFunc]),by kernel_rfl,rfl,by decide⟩
theorem aCv:Zt Tryz.prog 177 [.string ⟨#[]⟩,.int .i64 0,.int .i64 0,.slice none 0 0,.slice none 0 0,.string ⟨#[]⟩,.int .i64 0,.int .i64 0,.slice none 0 0,.slice none 0 0,.string ⟨#[]⟩,.int .i64 0,.int .i64 0,.slice none 0 0,.slice none 0 0,.string ⟨#[]⟩,.int .i64 0,.int .i64 0,.slice none 0 0,.slice none 0 0,.string ⟨#[]⟩,.int .i64 0,.int .i64 0,.slice none 0 0,.slice none 0 0,.string ⟨#[]⟩,.int .i64 0,.int .i64 0,.slice none 0 0,.slice none 0 0,.string ⟨#[]⟩,.int .i64 0,.int .i64 0,.slice none 0 0,.slice none 0 0,.string ⟨#[]⟩,.int .i64 0,.int .i64 0,.slice none 0 0,.slice none 0 0,.string ⟨#[]⟩,.int .i64 0,.int .i64 0,.slice none 0 0,.slice none 0 0,.string ⟨#[]⟩,.int .i64 0,.int .i64 0,.slice none 0 0,.slice none 0 0,.string ⟨#[]⟩,.int .i64 0,.int .i64 0,.slice none 0 0,.slice none 0 0,.string ⟨#[]⟩,.int .i64 0,.int .i64 0,.slice none 0 0,.slice none 0 0,.string ⟨#[]⟩,.int .i64 0,.int .i64 0,.slice none 0 0,.slice none 0 0,.string ⟨#[]⟩,.int .i64 0,.int .i64 0,.slice none 0 0,.slice none 0 0,.string ⟨#[]⟩,.int .i64 0,.int .i64 0,.slice none 0 0,.slice none 0 0,.string ⟨#[]⟩,.int .i64 0,.int .i64 0,.slice none 0 0,.slice none 0 0,.string ⟨#[]⟩,.int .i64 0,.int .i64 0,.slice none 0 0,.slice none 0 0,.string ⟨#[]⟩,.int .i64 0,.int .i64 0,.slice none 0 0,.slice none 0 0,.string ⟨#[]⟩,.int .i64 0,.int .i64 0,.slice none 0 0,.slice none 0 0,.string ⟨#[]⟩,.int .i64 0,.int .i64 0,.slice none 0 0,.slice none 0 0,.string ⟨#[]⟩,.int .i64 0,.int .i64 0,.slice none 0 0,.slice none 0 0,.string ⟨#[]⟩,.int .i64 0,.int .i64 0,.slice none 0 0,.slice none 0 0,.string ⟨#[]⟩,.int .i64 0,.int .i64 0,.slice none 0 0,.slice none 0 0]:=⟨(.agg #[.string ⟨#[]⟩,.int .i64 0,.int .i64 0,.slice none 0 0,.slice none 0 0,.string ⟨#[]⟩,.int .i64 0,.int .i64 0,.slice none 0 0,.slice none 0 0,.string ⟨#[]⟩,.int .i64 0,.int .i64 0,.slice none 0 0,.slice none 0 0,.string ⟨#[]⟩,.int .i64 0,.int .i64 0,.slice none 0 0,.slice none 0 0,.string ⟨#[]⟩,.int .i64 0,.int .i64 0,.slice none 0 0,.slice none 0 0,.string ⟨#[]⟩,.int .i64 0,.int .i64 0,.slice none 0 0,.slice none 0 0,.string ⟨#[]⟩,.int .i64 0,.int .i64 0,.slice none 0 0,.slice none 0 0,.string ⟨#[]⟩,.int .i64 0,.int .i64 0,.slice none 0 0,.slice none 0 0,.string ⟨#[]⟩,.int .i64 0,.int .i64 0,.slice none 0 0,.slice none 0 0,.string ⟨#[]⟩,.int .i64 0,.int .i64 0,.slice none 0 0,.slice none 0 0,.string ⟨#[]⟩,.int .i64 0,.int .i64 0,.slice none 0 0,.slice none 0 0,.string ⟨#[]⟩,.int .i64 0,.int .i64 0,.slice none 0 0,.slice none 0 0,.string ⟨#[]⟩,.int .i64 0,.int .i64 0,.slice none 0 0,.slice none 0 0,.string ⟨#[]⟩,.int .i64 0,.int .i64 0,.slice none 0 0,.slice none 0 0,.string ⟨#[]⟩,.int .i64 0,.int .i64 0,.slice none 0 0,.slice none 0 0,.string ⟨#[]⟩,.int .i64 0,.int .i64 0,.slice none 0 0,.slice none 0 0,.string ⟨#[]⟩,.int .i64 0,.int .i64 0,.slice none 0 0,.slice none 0 0,.string ⟨#[]⟩,.int .i64 0,.int .i64 0,.slice none 0 0,.slice none 0 0,.string ⟨#[]⟩,.int .i64 0,.int .i64 0,.slice none 0 0,.slice none 0 0,.string ⟨#[]⟩,.int .i64 0,.int .i64 0,.slice none 0 0,.slice none 0 0,.string ⟨#[]⟩,.int .i64 0,.int .i64 0,.slice none 0 0,.slice none 0 0,.string ⟨#[]⟩,.int .i64 0,.int .i64 0,.slice none 0 0,.slice none 0 0,.string ⟨#[]⟩,.int .i64 0,.int .i64 0,.slice none 0 0,.slice none 0 0]),by kernel_rfl,rfl,by decide⟩
theorem Ly:Zt Tryz.prog 182 [.string ⟨#[]⟩,.int .i64 0]:=⟨(.agg #[.string ⟨#[]⟩,.int .i64 0]),by kernel_rfl,rfl,by decide⟩
theorem nJ:Zt Tryz.prog 192 [.int .i64 0,.int .i64 0]:=⟨(.agg #[.int .i64 0,.int .i64 0]),by kernel_rfl,rfl,by decide⟩
theorem aCw:Zt Tryz.prog 193 [.int .i64 0,.int .i64 0,.int .i64 0,.int .i64 0,.int .i64 0,.int .i64 0,.int .i64 0,.int .i64 0,.int .i64 0,.int .i64 0]:=⟨(.agg #[.int .i64 0,.int .i64 0,.int .i64 0,.int .i64 0,.int .i64 0,.int .i64 0,.int .i64 0,.int .i64 0,.int .i64 0,.int .i64 0]),by kernel_rfl,rfl,by decide⟩
theorem z3:Zt Tryz.prog 3 [.int .i64 0]:=⟨(.int .i64 0),by kernel_rfl,rfl,by decide⟩
theorem z37:Zt Tryz.prog 37 [.int .i64 0,.int .i64 0]:=⟨(.agg #[.int .i64 0,.int .i64 0]),by kernel_rfl,rfl,by decide⟩
theorem dI:Zt Tryz.prog 40 [.string ⟨#[]⟩,.int .i64 0,.int .i64 0,.int .i64 0,.bool false,.slice none 0 0]:=⟨(.agg #[.string ⟨#[]⟩,.int .i64 0,.int .i64 0,.int .i64 0,.bool false,.slice none 0 0]),by kernel_rfl,rfl,by decide⟩
theorem z5:Zt Tryz.prog 5 [.int .u8 0]:=⟨(.int .u8 0),by kernel_rfl,rfl,by decide⟩
theorem Pq:Zt Tryz.prog 50 [.int .i64 0,.slice none 0 0,.bool false,.slice none 0 0]:=⟨(.agg #[.int .i64 0,.slice none 0 0,.bool false,.slice none 0 0]),by kernel_rfl,rfl,by decide⟩
theorem z59:Zt Tryz.prog 59 [.slice none 0 0,.int .i64 0]:=⟨(.agg #[.slice none 0 0,.int .i64 0]),by kernel_rfl,rfl,by decide⟩
theorem z65:Zt Tryz.prog 65 [.int .i64 0,.int .i64 0]:=⟨(.agg #[.int .i64 0,.int .i64 0]),by kernel_rfl,rfl,by decide⟩
theorem sX:Zt Tryz.prog 67 [.int .i64 0,.string ⟨#[]⟩,.string ⟨#[]⟩,.int .i64 0,.int .i64 0,.int .i64 0,.int .i64 0,.int .i64 0,.int .i64 0,.int .i64 0,.bool false,.int .i64 0,.slice none 0 0,.int .i64 0,.int .i64 0]:=⟨(.agg #[.int .i64 0,.string ⟨#[]⟩,.string ⟨#[]⟩,.int .i64 0,.int .i64 0,.int .i64 0,.int .i64 0,.int .i64 0,.int .i64 0,.int .i64 0,.bool false,.int .i64 0,.slice none 0 0,.int .i64 0,.int .i64 0]),by kernel_rfl,rfl,by decide⟩
theorem z9:Zt Tryz.prog 9 [.string ⟨#[]⟩]:=⟨(.string ⟨#[]⟩),by kernel_rfl,rfl,by decide⟩
theorem z96:Zt Tryz.prog 96 [.slice none 0 0,.int .i64 0,.bool false]:=⟨(.agg #[.slice none 0 0,.int .i64 0,.bool false]),by kernel_rfl,rfl,by decide⟩
theorem aCl:N2 Tryz.prog 20 182=[none,none]:=by kernel_rfl
theorem Mm:N2 Tryz.prog 20 3=[none]:=by kernel_rfl
theorem gA:N2 Tryz.prog 20 40=[none,none,none,none,none,some 15]:=by kernel_rfl
theorem fR:N2 Tryz.prog 20 5=[none]:=by kernel_rfl
theorem Si:N2 Tryz.prog 20 50=[none,some 1,none,some 4]:=by kernel_rfl
theorem sQ:N2 Tryz.prog 20 67=[none,none,none,none,none,none,none,none,none,none,none,none,some 1,none,none]:=by kernel_rfl
theorem wP:N2 Tryz.prog 20 9=[none]:=by kernel_rfl
theorem aCz:Tryz.prog.eqGuardType Tryz.prog.depth 37=false:=by kernel_rfl
theorem aEr:Tryz.prog.underlying 37=some (.struct (Tryz.prog.fieldsOf 37)):=by kernel_rfl
theorem aD9:Tryz.prog.stoodInHeld 37=false:=by kernel_rfl
theorem aDl (x y:Aw) (w:World):(Op.equalIn 10000 37 (.agg #[.int .i64 x.Alg,.int .i64 x.Bits]) (.agg #[.int .i64 y.Alg,.int .i64 y.Bits])).run Tryz.prog w=.ok (decide (x=y)) w:=by
 have u3:=Tryz.underlying3
 have a3:=Tryz.isAgg3
 have z3:=Tryz.sizeOf3
 rw [show (10000:Nat)=9999 + 1 from rfl,run_equalIn_agg w 9999 37 _ _ aEr aD9]
 simp only [Program.fieldsOf,Tryz.underlying37]
 go_simp
 rcases x with ⟨x0,x1⟩
 rcases y with ⟨y0,y1⟩
 by_cases h0:x0=y0 <;> by_cases h1:x1=y1 <;> simp [h0,h1]
theorem O6 (x y:Aw) {X Y:Operand} {tk:Nat} {yt ty:TypeId} {b1 b2:Option LB}:Fv Tryz.prog tk (.binOp .eql 37 X Y yt) ty [(.agg [.val (.int .i64 x.Alg),.val (.int .i64 x.Bits)],b1),(.agg [.val (.int .i64 y.Alg),.val (.int .i64 y.Bits)],b2)] [] (v0 (.val (.bool (decide (x=y))))):=
 .binOpA rfl rfl (fun _ _=>rfl) (fun w=>by
  rw [Sem.run_bind,run_eqGuard_agg w _ 37 X Y _ _ aCz]
  simp only [Result.andThen_ok,run_eql_struct]
  exact congrArg (fun r=>Result.andThen r _) (aDl x y w))
theorem jB (x y:Aw) {X Y:Operand} {tk:Nat} {yt ty:TypeId} {b1 b2:Option LB}:Fv Tryz.prog tk (.binOp .neq 37 X Y yt) ty [(.agg [.val (.int .i64 x.Alg),.val (.int .i64 x.Bits)],b1),(.agg [.val (.int .i64 y.Alg),.val (.int .i64 y.Bits)],b2)] [] (v0 (.val (.bool (!decide (x=y))))):=
 .binOpA rfl rfl (fun _ _=>rfl) (fun w=>by
  rw [Sem.run_bind,run_eqGuard_agg w _ 37 X Y _ _ aCz]
  simp only [Result.andThen_ok,run_neq_struct]
  exact congrArg (fun r=>Result.andThen r _) (aDl x y w))
theorem aEm:Tryz.prog.eqGuardType Tryz.prog.depth 65=false:=by kernel_rfl
theorem aEk:Tryz.prog.underlying 65=some (.struct (Tryz.prog.fieldsOf 65)):=by kernel_rfl
theorem aD4:Tryz.prog.stoodInHeld 65=false:=by kernel_rfl
theorem aDz (x y:Ct) (w:World):(Op.equalIn 10000 65 (.agg #[.int .i64 x.Key,.int .i64 x.Sum]) (.agg #[.int .i64 y.Key,.int .i64 y.Sum])).run Tryz.prog w=.ok (decide (x=y)) w:=by
 have u3:=Tryz.underlying3
 have a3:=Tryz.isAgg3
 have z3:=Tryz.sizeOf3
 rw [show (10000:Nat)=9999 + 1 from rfl,run_equalIn_agg w 9999 65 _ _ aEk aD4]
 simp only [Program.fieldsOf,Tryz.underlying65]
 go_simp
 rcases x with ⟨x0,x1⟩
 rcases y with ⟨y0,y1⟩
 by_cases h0:x0=y0 <;> by_cases h1:x1=y1 <;> simp [h0,h1]
theorem jT (x y:Ct) {X Y:Operand} {tk:Nat} {yt ty:TypeId} {b1 b2:Option LB}:Fv Tryz.prog tk (.binOp .eql 65 X Y yt) ty [(.agg [.val (.int .i64 x.Key),.val (.int .i64 x.Sum)],b1),(.agg [.val (.int .i64 y.Key),.val (.int .i64 y.Sum)],b2)] [] (v0 (.val (.bool (decide (x=y))))):=
 .binOpA rfl rfl (fun _ _=>rfl) (fun w=>by
  rw [Sem.run_bind,run_eqGuard_agg w _ 65 X Y _ _ aEm]
  simp only [Result.andThen_ok,run_eql_struct]
  exact congrArg (fun r=>Result.andThen r _) (aDz x y w))
instance:Ol Tryz.prog 131 0 0 48:=⟨uH⟩
instance:Ol Tryz.prog 131 1 1 4:=⟨vF⟩
instance:Ol Tryz.prog 158 1 1 3:=⟨vM⟩
instance:Ol Tryz.prog 158 2 2 3:=⟨vI⟩
instance:Ol Tryz.prog 158 3 3 22:=⟨wA⟩
instance:Ol Tryz.prog 158 4 4 22:=⟨tQ⟩
instance:Ol Tryz.prog 182 1 1 3:=⟨lL⟩
instance:Ol Tryz.prog 37 0 0 3:=⟨zA⟩
instance:Ol Tryz.prog 37 1 1 3:=⟨aAa⟩
instance:Ol Tryz.prog 40 0 0 9:=⟨R3⟩
instance:Ol Tryz.prog 40 1 1 37:=⟨X0⟩
instance:Ol Tryz.prog 40 2 3 3:=⟨Yx⟩
instance:Ol Tryz.prog 40 3 4 4:=⟨iA⟩
instance:Ol Tryz.prog 40 4 5 38:=⟨X8⟩
instance:Ol Tryz.prog 50 0 0 3:=⟨yT⟩
instance:Ol Tryz.prog 50 1 1 29:=⟨aAi⟩
instance:Ol Tryz.prog 50 2 2 4:=⟨aAq⟩
instance:Ol Tryz.prog 50 3 3 48:=⟨aAh⟩
instance:Ol Tryz.prog 59 0 0 22:=⟨xR⟩
instance:Ol Tryz.prog 59 1 1 3:=⟨aA7⟩
instance:Ol Tryz.prog 65 0 0 3:=⟨aBp⟩
instance:Ol Tryz.prog 65 1 1 3:=⟨xZ⟩
instance:Ol Tryz.prog 67 0 0 3:=⟨aAt⟩
instance:Ol Tryz.prog 67 1 1 9:=⟨aAg⟩
instance:Ol Tryz.prog 67 10 12 63:=⟨tO⟩
instance:Ol Tryz.prog 67 11 13 65:=⟨vU⟩
instance:Ol Tryz.prog 67 2 2 9:=⟨aBi⟩
instance:Ol Tryz.prog 67 3 3 37:=⟨jI⟩
instance:Ol Tryz.prog 67 4 5 3:=⟨jJ⟩
instance:Ol Tryz.prog 67 5 6 37:=⟨aAz⟩
instance:Ol Tryz.prog 67 6 8 3:=⟨yY⟩
instance:Ol Tryz.prog 67 7 9 3:=⟨zO⟩
instance:Ol Tryz.prog 67 8 10 4:=⟨aAp⟩
instance:Ol Tryz.prog 67 9 11 3:=⟨aBf⟩
instance:Ol Tryz.prog 96 0 0 48:=⟨aA6⟩
instance:Ol Tryz.prog 96 1 1 3:=⟨zP⟩
instance:Ol Tryz.prog 96 2 2 4:=⟨xN⟩
instance:pJ Tryz.prog 183 182 2 24:=⟨wZ⟩
instance:pJ Tryz.prog 22 3 1 8:=⟨Hf⟩
instance:pJ Tryz.prog 27 40 6 72:=⟨P6⟩
instance:pJ Tryz.prog 29 5 1 1:=⟨Hp⟩
instance:pJ Tryz.prog 38 67 15 152:=⟨W4⟩
instance:pJ Tryz.prog 48 50 4 64:=⟨Jz⟩
instance:pJ Tryz.prog 63 9 1 16:=⟨Tz⟩
instance:Ul Tryz.prog 1 false 1:=⟨uL⟩
instance:Ul Tryz.prog 127 false 1:=⟨aDq⟩
instance:Ul Tryz.prog 158 true 5:=⟨wH⟩
instance:Ul Tryz.prog 177 true 115:=⟨aC4⟩
instance:Ul Tryz.prog 192 true 2:=⟨wQ⟩
instance:Ul Tryz.prog 22 false 1:=⟨aEg⟩
instance:Ul Tryz.prog 29 false 1:=⟨aEn⟩
instance:Ul Tryz.prog 3 false 1:=⟨Wz⟩
instance:Ul Tryz.prog 37 true 2:=⟨Uj⟩
instance:Ul Tryz.prog 38 false 1:=⟨bI⟩
instance:Ul Tryz.prog 4 false 1:=⟨ty4⟩
instance:Ul Tryz.prog 40 true 6:=⟨Uu⟩
instance:Ul Tryz.prog 48 false 1:=⟨yV⟩
instance:Ul Tryz.prog 5 false 1:=⟨N8⟩
instance:Ul Tryz.prog 50 true 4:=⟨Nb⟩
instance:Ul Tryz.prog 63 false 1:=⟨aEo⟩
instance:Ul Tryz.prog 65 true 2:=⟨aEi⟩
instance:Ul Tryz.prog 67 true 15:=⟨iE⟩
instance:Ul Tryz.prog 9 false 1:=⟨Wv⟩
instance:bW Tryz.prog 127 [.pointer none]:=⟨aEq⟩
instance:bW Tryz.prog 131 [.slice none 0 0,.bool false]:=⟨zZ⟩
instance:bW Tryz.prog 158 [.string ⟨#[]⟩,.int .i64 0,.int .i64 0,.slice none 0 0,.slice none 0 0]:=⟨Mg⟩
instance:bW Tryz.prog 167 [.nilFunc,.nilFunc,.nilFunc,.nilFunc,.nilFunc,.nilFunc,.nilFunc,.nilFunc]:=⟨aB4⟩
instance:bW Tryz.prog 177 [.string ⟨#[]⟩,.int .i64 0,.int .i64 0,.slice none 0 0,.slice none 0 0,.string ⟨#[]⟩,.int .i64 0,.int .i64 0,.slice none 0 0,.slice none 0 0,.string ⟨#[]⟩,.int .i64 0,.int .i64 0,.slice none 0 0,.slice none 0 0,.string ⟨#[]⟩,.int .i64 0,.int .i64 0,.slice none 0 0,.slice none 0 0,.string ⟨#[]⟩,.int .i64 0,.int .i64 0,.slice none 0 0,.slice none 0 0,.string ⟨#[]⟩,.int .i64 0,.int .i64 0,.slice none 0 0,.slice none 0 0,.string ⟨#[]⟩,.int .i64 0,.int .i64 0,.slice none 0 0,.slice none 0 0,.string ⟨#[]⟩,.int .i64 0,.int .i64 0,.slice none 0 0,.slice none 0 0,.string ⟨#[]⟩,.int .i64 0,.int .i64 0,.slice none 0 0,.slice none 0 0,.string ⟨#[]⟩,.int .i64 0,.int .i64 0,.slice none 0 0,.slice none 0 0,.string ⟨#[]⟩,.int .i64 0,.int .i64 0,.slice none 0 0,.slice none 0 0,.string ⟨#[]⟩,.int .i64 0,.int .i64 0,.slice none 0 0,.slice none 0 0,.string ⟨#[]⟩,.int .i64 0,.int .i64 0,.slice none 0 0,.slice none 0 0,.string ⟨#[]⟩,.int .i64 0,.int .i64 0,.slice none 0 0,.slice none 0 0,.string ⟨#[]⟩,.int .i64 0,.int .i64 0,.slice none 0 0,.slice none 0 0,.string ⟨#[]⟩,.int .i64 0,.int .i64 0,.slice none 0 0,.slice none 0 0,.string ⟨#[]⟩,.int .i64 0,.int .i64 0,.slice none 0 0,.slice none 0 0,.string ⟨#[]⟩,.int .i64 0,.int .i64 0,.slice none 0 0,.slice none 0 0,.string ⟨#[]⟩,.int .i64 0,.int .i64 0,.slice none 0 0,.slice none 0 0,.string ⟨#[]⟩,.int .i64 0,.int .i64 0,.slice none 0 0,.slice none 0 0,.string ⟨#[]⟩,.int .i64 0,.int .i64 0,.slice none 0 0,.slice none 0 0,.string ⟨#[]⟩,.int .i64 0,.int .i64 0,.slice none 0 0,.slice none 0 0,.string ⟨#[]⟩,.int .i64 0,.int .i64 0,.slice none 0 0,.slice none 0 0]:=⟨aCv⟩
instance:bW Tryz.prog 182 [.string ⟨#[]⟩,.int .i64 0]:=⟨Ly⟩
instance:bW Tryz.prog 192 [.int .i64 0,.int .i64 0]:=⟨nJ⟩
instance:bW Tryz.prog 193 [.int .i64 0,.int .i64 0,.int .i64 0,.int .i64 0,.int .i64 0,.int .i64 0,.int .i64 0,.int .i64 0,.int .i64 0,.int .i64 0]:=⟨aCw⟩
instance:bW Tryz.prog 3 [.int .i64 0]:=⟨z3⟩
instance:bW Tryz.prog 37 [.int .i64 0,.int .i64 0]:=⟨z37⟩
instance:bW Tryz.prog 40 [.string ⟨#[]⟩,.int .i64 0,.int .i64 0,.int .i64 0,.bool false,.slice none 0 0]:=⟨dI⟩
instance:bW Tryz.prog 5 [.int .u8 0]:=⟨z5⟩
instance:bW Tryz.prog 50 [.int .i64 0,.slice none 0 0,.bool false,.slice none 0 0]:=⟨Pq⟩
instance:bW Tryz.prog 59 [.slice none 0 0,.int .i64 0]:=⟨z59⟩
instance:bW Tryz.prog 65 [.int .i64 0,.int .i64 0]:=⟨z65⟩
instance:bW Tryz.prog 67 [.int .i64 0,.string ⟨#[]⟩,.string ⟨#[]⟩,.int .i64 0,.int .i64 0,.int .i64 0,.int .i64 0,.int .i64 0,.int .i64 0,.int .i64 0,.bool false,.int .i64 0,.slice none 0 0,.int .i64 0,.int .i64 0]:=⟨sX⟩
instance:bW Tryz.prog 9 [.string ⟨#[]⟩]:=⟨z9⟩
instance:bW Tryz.prog 96 [.slice none 0 0,.int .i64 0,.bool false]:=⟨z96⟩
instance:aJ Al.enc 2:=⟨Al.enc_len⟩
instance:aJ Aw.enc 2:=⟨Aw.enc_len⟩
instance:aJ Ct.enc 2:=⟨Ct.enc_len⟩
instance:aJ Ab.enc 15:=⟨Ab.enc_len⟩
instance:aJ Ac.enc 6:=⟨Ac.enc_len⟩
instance:aJ Aa.enc 4:=⟨Aa.enc_len⟩
instance:aJ Bt.enc 5:=⟨Bt.enc_len⟩
instance:aJ Ap.enc 2:=⟨Ap.enc_len⟩
instance:aJ Aj.enc 2:=⟨Aj.enc_len⟩
instance:aJ Ad.enc 3:=⟨Ad.enc_len⟩
end Go.Proofs.YtfanepojdefdpaaGreat
