import Derived.Test.YtchpcpaacenodaaGreatSH
import Derived.Test.YtchpcpaacenodaaGreatM2
set_option linter.unusedVariables false
set_option linter.unusedSimpArgs false
namespace Go.Proofs.YtchpcpaacenodaaGreat
open Go
theorem X3 {d:Ac} (h:Lj d) {name:ByteArray} {key:Am} {id:Int} (hs:Ev name=true) (hs31:name.size<=31) (hk:gC key) (hid:0<=id/\id<=2147483648) :
  Ok (Fv d name key id) (fun y=>(y.1.length<=3/\(∀ c∈y.1,Fx c=true/\P7 c)/\V3 key id y.1=true)/\Lj y.2):=by
 unfold Fv
 refine Ok.bind (Iw h _ (by decide) (by decide)) fun y1 h1=>?_
 have hy1:0<=y1.1/\y1.1<=2:=by
  have:=h1.1
  simp only [aFt,aGi,aIe] at this
  omega
 refine Ok.bind (Fq h1.2 2 (by omega) (by omega)) fun y2 h2=>?_
 have hy2:=h2.1
 refine Ok.loop (fun s=>(0<=s.1/\s.1<=100)/\Ev s.2.1=true/\0<=s.2.2.1/\s.2.2.1<=y1.1/\Lj s.2.2.2.1/\(s.2.2.2.2.length:Int)=s.2.2.1/\∀ c∈s.2.2.2.2,Fx c=true/\P7 c) (fun s=>(y1.1 - s.2.2.1).toNat) (fun s hs'=>?_) ⟨by rw [Es (by omega)]; constructor <;> omega,by show Ev ⟨#[114,111,111,116]⟩=true; decide +kernel,aJ5 _,hy1.1,h2.2,rfl,fun c hc=>by cases hc⟩
 obtain⟨signer,issuer,i,d1,above⟩:=s
 obtain⟨a1,a2,a3,a4,a5,a6,a7⟩:=hs'
 dsimp only at a1 a2 a3 a4 a5 a6 a7
 show Ok (Fv.l1 name key id y1 signer issuer i d1 above) _
 unfold Fv.l1
 refine Ok.cond (fun hb=>?_) fun hb=>?_
 ·have hb:=aCl hb
  refine Ok.bind (K8 (by omega) (by show i < (3:Int); omega)) fun e he=>?_
  have hes:Ev e=true/\e.size<=31:=by
   simp only [aFt,aGi,aIe] at he
   rcases he with rfl | rfl | rfl <;> exact⟨by decide +kernel,by decide⟩
  have e11:W (11 + i)=11 + i:=Es (by omega)
  refine Ok.bind (iB a5 true a2 hes.1 hes.2 ⟨⟨⟨by decide,by decide⟩,⟨by decide,by decide⟩⟩,by decide +kernel⟩ (by rw [e11]; omega) (by omega)) fun y3 h3=>?_
  refine Ok.bind (J5 (by simp; omega)) fun l hl=>?_
  subst hl
  rw [Es (x:=i + 1) (by omega),e11]
  clear e11
  refine Ok.ret ⟨⟨⟨by show 0<=11 + i; omega,by show 11 + i<=100; omega⟩,hes.1,?_,?_,h3.2,?_,?_⟩,?_⟩
  ·show 0<=i + 1; omega
  ·show i + 1<=y1.1; omega
  ·show ((y3.1 :: above).length:Int)=i + 1
   rw [aH2]; omega
  ·intro c hc
   rcases aFt.1 hc with rfl | hc
   ·exact⟨h3.1.ok,h3.1.fit⟩
   ·exact a7 c hc
  ·show (y1.1 - (i + 1)).toNat < (y1.1 - i).toNat; omega
 ·have hb:=aD7 hb
  refine Ok.up ?_
  refine Ok.bind (iB a5 false a2 hs hs31 hk hid (by omega)) fun y4 h4=>?_
  refine Ok.bind (J5 (by simp; omega)) fun l hl=>?_
  subst hl
  refine Ok.ret ⟨⟨?_,?_,?_⟩,h4.2⟩
  ·show ([y4.1] ++ above).length<=3
   rw [aGd,aGs]; omega
  ·intro c hc
   rcases aFt.1 hc with rfl | hc
   ·exact⟨h4.1.ok,h4.1.fit⟩
   ·exact a7 c hc
  ·show (decide (y4.1.Key=key) && decide (y4.1.KeyId=id))=true
   rw [h4.1.key_,h4.1.id_,aAe rfl,aAe rfl]; rfl
theorem jP {key:Am} {id:Int} {l:List Af} (hk:N1 key 2=true) (hid:0<=id/\id<=2147483648) (hl:l.length<=8) (hc:∀ c∈l,Fx c=true) (hh:V3 key id l=true):Ja key id l=true:=by
 unfold Ja rJ
 have h1:(l.any fun c=>!Fx c)=false:=aJs.2 fun c h=>by rw [hc c h]; simp
 rw [hk,aAg (show ¬ id < 0 by omega),aAg (show ¬ 2147483648 < id by omega),aAg (show ¬ 8 < (l.length:Int) by omega),h1,hh]
 rfl
end Go.Proofs.YtchpcpaacenodaaGreat
