import Derived.Test.YtbpchmikjiinpaaGreatK6
set_option linter.unusedVariables false
set_option linter.unusedSimpArgs false
namespace Go.Proofs.YtbpchmikjiinpaaGreat
open Go
def mO (s:BitVec 32) (e:UInt8):BitVec 32:=(s ^^^ BitVec.ofNat 32 e.toNat) * 16777619#32
theorem aB2 (s:BitVec 32) (e:UInt8):IntKind.wrap .u32 ((S0 .u32 (s.toNat:Int) (IntKind.wrap .u32 (e.toNat:Int))) * 16777619)=((mO s e).toNat:Int):=by
 have he:=e.toNat_lt
 have hx:=(s ^^^ BitVec.ofNat 32 e.toNat).isLt
 have h2:S0 .u32 (s.toNat:Int) (IntKind.wrap .u32 (e.toNat:Int))=((s ^^^ BitVec.ofNat 32 e.toNat).toNat:Int):=by
  have h1:IntKind.wrap .u32 (e.toNat:Int)=(e.toNat:Int):=by rw [IntKind.wrap_u32]; omega
  rw [h1]
  show IntKind.u32.wrap ((BitVec.ofInt 32 (s.toNat:Int) ^^^ BitVec.ofInt 32 (e.toNat:Int)).toNat:Int)=_
  rw [BitVec.ofInt_natCast,BitVec.ofInt_natCast]
  have:BitVec.ofNat 32 s.toNat=s:=BitVec.eq_of_toNat_eq (by rw [BitVec.toNat_ofNat]; exact aSh s.isLt)
  rw [this,IntKind.wrap_u32]
  omega
 rw [h2]
 unfold mO
 rw [BitVec.toNat_mul,IntKind.wrap_u32]
 have:(16777619#32).toNat=16777619:=rfl
 rw [this]
 omega
def aH4 (b:List UInt8):BitVec 32:=b.foldl mO 2166136261#32
theorem fQ:∀ (b:List UInt8) (s:BitVec 32),b.foldl (fun (s:Int) (e:UInt8)=>IntKind.wrap .u32 ((S0 .u32 s (IntKind.wrap .u32 (e.toNat:Int))) * 16777619)) (s.toNat:Int)=((b.foldl mO s).toNat:Int)
 | [],_=>rfl
 | e :: b,s=>by rw [List.foldl_cons,aB2,fQ b]; rfl
theorem zD (b:List UInt8):cE b=((aH4 b).toNat:Int):=by
 have:=fQ b 2166136261#32
 rw [show ((2166136261#32).toNat:Int)=2166136261 from rfl] at this
 unfold cE
 rw [this]
 have h2:=(b.foldl mO 2166136261#32).isLt
 exact Dz (by omega)
theorem cQ (b:List UInt8):0<=cE b/\cE b < 4294967296:=by
 have:=(aH4 b).isLt
 rw [zD]; omega
end Go.Proofs.YtbpchmikjiinpaaGreat
