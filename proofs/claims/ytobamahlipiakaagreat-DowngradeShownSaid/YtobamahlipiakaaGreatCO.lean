/- Plain texts, joined. No program is in sight here. -/
import Derived.Test.YtobamahlipiakaaGreatPU
set_option linter.unusedVariables false
set_option linter.unusedSimpArgs false
namespace Go.Proofs.YtobamahlipiakaaGreat
section
section
variable {α:Type} {lt:α->α->Bool}
end
end
section
structure Pre {α:Type} (c:α->α->Int):Prop where
 anti:∀ a b,c b a=- c a b
 tr:∀ a b d,c a b<=0->c b d<=0->c a d<=0
section
variable {α β:Type} {c c':α->α->Int}
theorem Pre.self (h:Pre c) (a:α):c a a=0:=by have:=h.anti a a; omega
theorem Pre.by_ (f:α->β) {d:β->β->Int} (h:Pre d):Pre fun a b=>d (f a) (f b):=⟨fun a b=>h.anti _ _,fun a b d' h1 h2=>h.tr _ _ _ h1 h2⟩
end
def aK6 (x y:Int):Int:=bif decide (x < y) then -1 else bif decide (y < x) then 1 else 0
end
end Go.Proofs.YtobamahlipiakaaGreat
