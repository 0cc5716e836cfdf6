import Derived.Test.YtbpchmikjiinpaaGreatEE
set_option linter.unusedVariables false
set_option linter.unusedSimpArgs false
namespace Go.Proofs.YtbpchmikjiinpaaGreat
open Go.RowKit
mutual
def dI:DV->Prop
 | .sl sz cs=>(∃ n,cs.length=n * sz/\n<=maxLen)/\La cs
 | .slc _ _=>True
 | .mp _=>True
 | .elt cs=>La cs
 | .agg ds=>bI ds
 | .tup ds=>bI ds
 | .clo _ _ _=>True
 | .val v=>E8 v=true
 | .row _=>True
 | .part _ _ _=>True
 | .ptr _ _=>True
def bI:List DV->Prop
 | []=>True
 | d :: ds=>dI d/\bI ds
end
mutual
theorem Cw.okV_ {ρ:Nat->Value} {I:Nat->Prop} {w:World}:∀ (d:DV) (v:Value),Cw ρ I w d v->dI d
 | .val _,_,h=>by unfold Cw at h; unfold dI; rw [<- h.1]; exact h.1 ▸ h.2
 | .sl sz cs,v,h=>by
  have:=Cw.ok _ _ h
  unfold oK at this
  unfold dI
  exact this
 | .slc _ _,_,_=>by unfold dI; trivial
 | .mp _,_,_=>by unfold dI; trivial
 | .row _,_,_=>by unfold dI; trivial
 | .part _ _ _,_,_=>by unfold dI; trivial
 | .ptr _ _,_,_=>by unfold dI; trivial
 | .elt cs,v,h=>by
  have:=Cw.ok _ _ h
  unfold oK at this
  unfold dI
  exact this
 | .agg ds,v,h=>by
  unfold Cw at h
  obtain⟨vs,-,-,h⟩:=h
  unfold dI
  exact Cb.okV_ ds vs h
 | .clo _ _ _,_,_=>by unfold dI; trivial
 | .tup ds,v,h=>by
  unfold Cw at h
  obtain⟨vs,-,h⟩:=h
  unfold dI
  exact Cb.okV_ ds vs h
theorem Cb.okV_ {ρ:Nat->Value} {I:Nat->Prop} {w:World}:∀ (ds:List DV) (vs:List Value),Cb ρ I w ds vs->bI ds
 | [],_,_=>by unfold bI; trivial
 | d :: ds,vs,h=>by
  unfold Cb at h
  obtain⟨u,us,-,h1,h2⟩:=h
  unfold bI
  exact⟨Cw.okV_ d u h1,Cb.okV_ ds us h2⟩
end
theorem aAd {n:Int}:dI (.val (.int .i64 n))↔-9223372036854775808<=n/\n<=9223372036854775807:=by
 unfold dI
 exact Ia
theorem aAr {s:ByteArray}:dI (.val (.string s))↔s.size<=9223372036854775807:=by
 unfold dI
 exact Oc
theorem aHh {sz:Nat} {cs:List C}:dI (.sl sz cs)↔((∃ n,cs.length=n * sz/\n<=maxLen)/\La cs):=by unfold dI; rfl
theorem zN {ds:List DV}:dI (.agg ds)↔bI ds:=by unfold dI; rfl
theorem rX {d:DV} {ds:List DV}:bI (d :: ds)↔dI d/\bI ds:=by rw [bI]
end Go.Proofs.YtbpchmikjiinpaaGreat
