import Derived.Test.YtkoflhimdenjaaaGreatS0
import Derived.Test.YtkoflhimdenjaaaGreatM1
set_option linter.unusedVariables false
set_option linter.unusedSimpArgs false
set_option maxRecDepth 100000
namespace Go.Proofs.YtkoflhimdenjaaaGreat
open Go
def uE (u:Ar):Prop:=SmU u/\Q7 u 2=true
theorem uN {s:ByteArray} (h:F8 s=true):Nh [s]=true:=by
 have e:Nh [s]=!(!F8 s || false || false):=rfl
 rw [e,h]; rfl
theorem dM {c:Ae}:G2 c=true↔((0<=c.Serial/\c.Serial<=1099511627776)/\F8 c.Issuer=true/\F8 c.Subject=true/\Nh c.Names=true/\(c.Names.length:Int)<=8/\Q7 c.Key 2=true/\(0<=c.KeyId/\c.KeyId<=2147483648)/\Q7 c.Hash 1=true/\(0<=c.Seal.Key/\c.Seal.Key<=2147483648)/\(0<=c.Seal.Sum/\c.Seal.Sum < 4294967296)/\(0<=c.From/\c.From<=c.To/\c.To<=40000)/\(0<=c.Path/\c.Path<=8)/\(c.Authority=true\/c.Path=0)):=by
 unfold G2 Vk
 simp only [aJ7,aLi,id,aJ1,aLe,aK5,Bool.not_eq_false',Bool.and_eq_false_iff,aJr,Bool.or_false]
 constructor
 ·rintro⟨h1,h2,h3,h4,h5,h6,h7,h8,h9,h10,h11,h12,h13,h14,h15,h16,h17,h18,h19,h20⟩
  exact⟨⟨by omega,by omega⟩,h3,h4,h5,by omega,h7,⟨by omega,by omega⟩,h10,⟨by omega,by omega⟩,⟨by omega,by omega⟩,⟨by omega,by omega,by omega⟩,⟨by omega,by omega⟩,h20⟩
 ·rintro⟨⟨h1,h2⟩,h3,h4,h5,h6,h7,⟨h8,h9⟩,h10,⟨h11,h12⟩,⟨h13,h14⟩,⟨h15,h16,h17⟩,⟨h18,h19⟩,h20⟩
  exact⟨by omega,by omega,h3,h4,h5,by omega,h7,by omega,by omega,h10,by omega,by omega,by omega,by omega,by omega,by omega,by omega,by omega,by omega,h20⟩
theorem fZ {c:Ae} (h:G2 (bJ c)=true) {s:Er} (h1:0<=s.Key/\s.Key<=2147483648) (h2:0<=s.Sum/\s.Sum < 4294967296):G2 (aG c s)=true:=by
 rw [dM] at h ⊢
 obtain⟨a1,a2,a3,a4,a5,a6,a7,a8,-,-,a11,a12,a13⟩:=h
 exact⟨a1,a2,a3,a4,a5,a6,a7,a8,h1,h2,a11,a12,a13⟩
theorem aHx:(0:Int)<=0/\(0:Int)<=2147483648:=by omega
theorem aIq:(0:Int)<=0/\(0:Int) < 4294967296:=by omega
end Go.Proofs.YtkoflhimdenjaaaGreat
