import Derived.Test.YtkoflhimdenjaaaGreatEP
import Derived.Test.YtkoflhimdenjaaaGreatM2
set_option linter.unusedVariables false
set_option linter.unusedSimpArgs false
namespace Go.Proofs.YtkoflhimdenjaaaGreat
open Go
theorem gX {key:Ar} {id:Int} {l:List Ae} (hk:Q7 key 2=true) (hid:0<=id/\id<=2147483648) (hl:l.length<=8) (hc:∀ c∈l,G2 c=true) (hh:Vn key id l=true):O8 key id l=true:=by
 unfold O8 oZ
 have h1:(l.any fun c=>!G2 c)=false:=aKr.2 fun c h=>by rw [hc c h]; simp
 rw [hk,aAy (show ¬ id < 0 by omega),aAy (show ¬ 2147483648 < id by omega),aAy (show ¬ 8 < (l.length:Int) by omega),h1,hh]
 rfl
end Go.Proofs.YtkoflhimdenjaaaGreat
