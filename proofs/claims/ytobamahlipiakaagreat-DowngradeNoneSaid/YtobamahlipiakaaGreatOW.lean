import Derived.Test.YtobamahlipiakaaGreatEE
set_option linter.unusedVariables false
set_option linter.unusedSimpArgs false
namespace Go.Proofs.YtobamahlipiakaaGreat
open Go.RowKit
mutual
def tV:DV->Prop
 | .sl sz cs=>(∃ n,cs.length=n * sz/\n<=maxLen)/\Le cs
 | .slc _ _=>True
 | .mp _=>True
 | .elt cs=>Le cs
 | .agg ds=>jY ds
 | .tup ds=>jY ds
 | .clo _ _ _=>True
 | .val v=>Gd v=true
 | .row _=>True
 | .part _ _ _=>True
 | .ptr _ _=>True
def jY:List DV->Prop
 | []=>True
 | d :: ds=>tV d/\jY ds
end
mutual
theorem C3.okV_ {ρ:Nat->Value} {I:Nat->Prop} {w:World}:∀ (d:DV) (v:Value),C3 ρ I w d v->tV d
 | .val _,_,h=>by unfold C3 at h; unfold tV; rw [<- h.1]; exact h.1 ▸ h.2
 | .sl sz cs,v,h=>by
  have:=C3.ok _ _ h
  unfold vV at this
  unfold tV
  exact this
 | .slc _ _,_,_=>by unfold tV; trivial
 | .mp _,_,_=>by unfold tV; trivial
 | .row _,_,_=>by unfold tV; trivial
 | .part _ _ _,_,_=>by unfold tV; trivial
 | .ptr _ _,_,_=>by unfold tV; trivial
 | .elt cs,v,h=>by
  have:=C3.ok _ _ h
  unfold vV at this
  unfold tV
  exact this
 | .agg ds,v,h=>by
  unfold C3 at h
  obtain⟨vs,-,-,h⟩:=h
  unfold tV
  exact B5.okV_ ds vs h
 | .clo _ _ _,_,_=>by unfold tV; trivial
 | .tup ds,v,h=>by
  unfold C3 at h
  obtain⟨vs,-,h⟩:=h
  unfold tV
  exact B5.okV_ ds vs h
theorem B5.okV_ {ρ:Nat->Value} {I:Nat->Prop} {w:World}:∀ (ds:List DV) (vs:List Value),B5 ρ I w ds vs->jY ds
 | [],_,_=>by unfold jY; trivial
 | d :: ds,vs,h=>by
  unfold B5 at h
  obtain⟨u,us,-,h1,h2⟩:=h
  unfold jY
  exact⟨C3.okV_ d u h1,B5.okV_ ds us h2⟩
end
theorem aL2 {sz:Nat} {cs:List C}:tV (.sl sz cs)↔((∃ n,cs.length=n * sz/\n<=maxLen)/\Le cs):=by unfold tV; rfl
theorem aAx {d:DV} {ds:List DV}:jY (d :: ds)↔tV d/\jY ds:=by rw [jY]
end Go.Proofs.YtobamahlipiakaaGreat
