import Derived.Test.YtkoflhimdenjaaaGreatEP
set_option autoImplicit false
set_option linter.unusedVariables false
set_option linter.unusedSimpArgs false
namespace Go.Proofs.YtkoflhimdenjaaaGreat
open Go
structure uN (x : Di) : Prop where
 name : x.Name.size <= 9223372036854775807
 links : Lo x.Links
structure ItV (x : Di) : Prop where
 name : F0 x.Name = true
 kind : x.Kind = 1 \/ x.Kind = 2
 purpose : 1 <= x.Purpose /\ x.Purpose <= 4
 len : 1 <= x.Links.length /\ x.Links.length <= 8
 asc : ∀ i, VA (fun a b : C2 => a.Day < b.Day) x.Links i
 use : ∀ a ∈ x.Links, 0 < N5 a.Use
 day : ∀ a ∈ x.Links, 0 <= a.Day /\ a.Day <= 40000
 until_ : x.Until <= 40000
 first : ∀ a, x.Links[0]? = some a -> a.Day <= x.Until
def LkV (l : List C2) (i : Nat) : Prop := VA (fun a b : C2 => a.Day < b.Day) l i /\ ∀ a, l[i]? = some a -> 0 < N5 a.Use /\ 0 <= a.Day /\ a.Day <= 40000
def EdR (a b : Bo) : Prop := a.Client < b.Client \/ (a.Client = b.Client /\ a.Server < b.Server)
def EdS (n : Int) (x : Bo) : Prop := (0 <= x.Client /\ x.Client < n) /\ (0 <= x.Server /\ x.Server < n) /\ x.Client ≠ x.Server
def EdV (n : Int) (l : List Bo) (i : Nat) : Prop := VA EdR l i /\ ∀ x, l[i]? = some x -> EdS n x
theorem EdV.out {n : Int} {l : List Bo} {i : Nat} (h : l.length <= i) : EdV n l i := ⟨VA.out h, fun x hx => by have := I8 hx; omega⟩
structure uG (e : C1) : Prop where
 n : Lo e.Endpoints
 edges : Lo e.Edges
 m : Lo e.Items
 ep : ∀ x ∈ e.Endpoints, cX x
 it : ∀ x ∈ e.Items, uN x
end Go.Proofs.YtkoflhimdenjaaaGreat
