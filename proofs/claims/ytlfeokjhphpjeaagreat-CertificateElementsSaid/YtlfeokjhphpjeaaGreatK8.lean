/- Plain texts, joined. No program is in sight here. -/
import Derived.Test.YtlfeokjhphpjeaaGreatM2
import Derived.Test.YtlfeokjhphpjeaaGreatT1
import Derived.KernelRfl
set_option linter.unusedVariables false
set_option linter.unusedSimpArgs false
namespace Go.Proofs.YtlfeokjhphpjeaaGreat
section
open Go
def Pl:Ab:=Ab.mk 0 ⟨#[99,97]⟩ ⟨#[119,101,98]⟩ (A3.mk 5 2048) 7 (A3.mk 3 0) 0 9 false 0 [⟨#[119,101,98]⟩] (Bv.mk 0 0)
theorem Vt:Ik Pl:=I4 (by decide) (by intro s hs; rw [List.mem_singleton.1 hs]; decide) (by decide) (by decide) Ho ⟨by decide,by decide⟩ ⟨by decide,by decide⟩ ⟨by decide,by decide⟩ ⟨by decide,by decide⟩ Ho Ho ⟨by decide,by decide⟩ Ho Ho Ho
end
section
open Go
def jG (l:List Ab):Prop:=∀ c∈l,Ik c
theorem jG.set {l:List Ab} (h:jG l) (j:Nat) {x:Ab} (hx:Ik x):jG (Ir l j x):=by
 intro c hc
 rcases List.mem_or_eq_of_mem_set hc with hc | rfl
 ·exact h c hc
 ·exact hx
theorem jG.part {l:List Ab} (h:jG l) (a n:Nat):jG ((l.drop a).take n):=fun c hc=>h c (aCk (aCl hc))
theorem qJ {l:List Int} (h:l.length<=400):Ok (Mu l) Ss:=Ok.ret ⟨mY (by show l.length<=_; omega),Int.le_refl _,by show (0:Int)<=(l.length:Int); omega⟩
end
end Go.Proofs.YtlfeokjhphpjeaaGreat
