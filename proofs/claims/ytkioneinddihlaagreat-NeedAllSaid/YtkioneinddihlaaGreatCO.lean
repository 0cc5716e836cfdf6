/- Plain texts, joined. No program is in sight here. -/
import Derived.Test.YtkioneinddihlaaGreatPU
set_option linter.unusedVariables false
set_option linter.unusedSimpArgs false
namespace Go.Proofs.YtkioneinddihlaaGreat
section
structure Tw {α:Type} (lt:α->α->Bool):Prop where
 irrefl:∀ a,lt a a=false
 trans:∀ a b c,lt a b=true->lt b c=true->lt a c=true
 tot:∀ a b,lt a b=false->lt b a=false->a=b
section
variable {α:Type} {lt:α->α->Bool}
theorem Tw.asymm (h:Tw lt) {a b:α} (hab:lt a b=true):lt b a=false:=by
 cases hb:lt b a with
 | false=>rfl
 | true=>have:=h.trans _ _ _ hab hb; rw [h.irrefl] at this; cases this
abbrev tS (lt:α->α->Bool) (l:List α):Prop:=l.Pairwise fun x y=>lt x y=true
theorem nK (h:Tw lt):∀ {l m:List α},tS lt l->tS lt m->(∀ x,x∈l↔x∈m)->l=m
 | [],[],_,_,_=>rfl
 | [],y :: m,_,_,he=>by have:=(he y).2 (.head _); cases this
 | x :: l,[],_,_,he=>by have:=(he x).1 (.head _); cases this
 | x :: l,y :: m,hl,hm,he=>by
  obtain⟨l1,l2⟩:=aKs.1 hl
  obtain⟨m1,m2⟩:=aKs.1 hm
  have hxy:x=y:=by
   rcases aE7.1 ((he x).1 (.head _)) with h1 | h1
   ·exact h1
   ·rcases aE7.1 ((he y).2 (.head _)) with h2 | h2
    ·exact h2.symm
    ·have a1:=m1 x h1
     have a2:=l1 y h2
     rw [h.asymm a1] at a2
     cases a2
  subst hxy
  rw [nK h l2 m2 fun z=>⟨fun hz=>?_,fun hz=>?_⟩]
  ·rcases aE7.1 ((he z).1 (.tail _ hz)) with rfl | h1
   ·have:=l1 z hz
    rw [h.irrefl] at this; cases this
   ·exact h1
  ·rcases aE7.1 ((he z).2 (.tail _ hz)) with rfl | h1
   ·have:=m1 z hz
    rw [h.irrefl] at this; cases this
   ·exact h1
def Lw (lt:α->α->Bool):List α->α->List α
 | [],x=>[x]
 | y :: l,x=>bif lt y x then y :: Lw lt l x else bif lt x y then x :: y :: l else y :: l
theorem Zp (h:Tw lt) {x z:α}:∀ {l:List α},z∈Lw lt l x↔z=x\/z∈l
 | []=>by simp [Lw]
 | y :: l=>by
  unfold Lw
  cases h1:lt y x with
  | true=>rw [aEw,aE7,Zp h (l:=l),aE7]; exact⟨fun h=>h.elim (fun h=>.inr (.inl h)) fun h=>h.elim .inl fun h=>.inr (.inr h),fun h=>h.elim (fun h=>.inr (.inl h)) fun h=>h.elim .inl fun h=>.inr (.inr h)⟩
  | false=>
   cases h2:lt x y with
   | true=>rw [aD6,aEw,aE7]
   | false=>
    rw [aD6,aD6,h.tot y x h1 h2]
    exact⟨.inr,fun hh=>hh.elim (fun e=>by rw [e]; exact .head _) id⟩
theorem U6 (h:Tw lt) {x:α}:∀ {l:List α},tS lt l->tS lt (Lw lt l x)
 | [],_=>by simp [Lw]
 | y :: l,hl=>by
  obtain⟨l1,l2⟩:=aKs.1 hl
  unfold Lw
  cases h1:lt y x with
  | true=>
   rw [aEw]
   refine aKs.2 ⟨fun z hz=>?_,U6 h l2⟩
   rcases (Zp h).1 hz with rfl | hz
   ·exact h1
   ·exact l1 z hz
  | false=>
   cases h2:lt x y with
   | true=>
    rw [aD6,aEw]
    refine aKs.2 ⟨fun z hz=>?_,hl⟩
    rcases aE7.1 hz with rfl | hz
    ·exact h2
    ·exact h.trans _ _ _ h2 (l1 z hz)
   | false=>exact hl
def H4 (lt:α->α->Bool) (l:List α):List α:=l.foldl (Lw lt) []
theorem Y7 (h:Tw lt):∀ (l a:List α),tS lt a->tS lt (l.foldl (Lw lt) a)/\∀ z,z∈l.foldl (Lw lt) a↔z∈a\/z∈l
 | [],a,ha=>⟨ha,fun z=>by simp⟩
 | x :: l,a,ha=>by
  obtain⟨h1,h2⟩:=Y7 h l (Lw lt a x) (U6 h ha)
  refine⟨h1,fun z=>?_⟩
  rw [List.foldl_cons,h2 z,Zp h,aE7]
  exact⟨fun h=>h.elim (fun h=>h.elim (fun h=>.inr (.inl h)) .inl) fun h=>.inr (.inr h),fun h=>h.elim (fun h=>.inl (.inr h)) fun h=>h.elim (fun h=>.inl (.inl h)) .inr⟩
theorem Si (h:Tw lt) (l:List α):tS lt (H4 lt l):=(Y7 h l [] .nil).1
theorem Sj (h:Tw lt) {l:List α} {z:α}:z∈H4 lt l↔z∈l:=by
 have:=(Y7 h l [] .nil).2 z
 simpa [H4] using this
theorem Y4 (h:Tw lt) {l m:List α} (hm:tS lt m) (he:∀ z,z∈m↔z∈l):m=H4 lt l:=nK h hm (Si h l) fun z=>(he z).trans (Sj h).symm
theorem Zy (h:Tw lt) {l:List α} (hl:tS lt l):H4 lt l=l:=(Y4 h hl fun _=>Iff.rfl).symm
theorem Uo (lt:α->α->Bool) (x:α):∀ l:List α,(Lw lt l x).length<=l.length + 1
 | []=>by simp [Lw]
 | y :: l=>by
  unfold Lw
  cases lt y x with
  | true=>have:=Uo lt x l; simp only [aEw,aIx]; omega
  | false=>cases lt x y <;> simp
theorem iI (lt:α->α->Bool):∀ l a:List α,(l.foldl (Lw lt) a).length<=a.length + l.length
 | [],a=>by simp
 | x :: l,a=>by
  have h1:=iI lt l (Lw lt a x)
  have h2:=Uo lt x a
  rw [List.foldl_cons,aIx]
  omega
theorem Pv (lt:α->α->Bool) (l:List α):(H4 lt l).length<=l.length:=by
 have:=iI lt l []
 simpa [H4] using this
def Ly [DecidableEq α]:List α->List α
 | []=>[]
 | [x]=>[x]
 | x :: y :: l=>if x=y then Ly (y :: l) else x :: Ly (y :: l)
theorem Ze [DecidableEq α] {z:α}:∀ {l:List α},z∈Ly l↔z∈l
 | []=>by simp [Ly]
 | [x]=>by simp [Ly]
 | x :: y :: l=>by
  unfold Ly
  have ih:=Ze (z:=z) (l:=y :: l)
  split
  ·rename_i e
   rw [ih,e]
   simp
  ·simp only [aE7] at ih ⊢
   rw [ih]
theorem iZ [DecidableEq α] (h:Tw lt):∀ {l:List α},(l.Pairwise fun x y=>lt y x=false)->tS lt (Ly l)
 | [],_=>.nil
 | [x],_=>by simp [Ly]
 | x :: y :: l,hl=>by
  obtain⟨l1,l2⟩:=aKs.1 hl
  have ih:=iZ h l2
  unfold Ly
  split
  ·exact ih
  ·rename_i hne
   refine aKs.2 ⟨fun z hz=>?_,ih⟩
   have hz:=Ze.1 hz
   have hxy:lt x y=true:=by
    cases hh:lt x y with
    | true=>rfl
    | false=>exact absurd (h.tot x y hh (l1 y (.head _))) hne
   rcases aE7.1 hz with rfl | hz
   ·exact hxy
   ·have h3:=(aKs.1 l2).1 z hz
    cases hh:lt y z with
    | true=>exact h.trans _ _ _ hxy hh
    | false=>rw [<- h.tot y z hh h3]; exact hxy
theorem rT [DecidableEq α] (h:Tw lt) {l r:List α} (hp:r.Perm l) (hr:r.Pairwise fun x y=>lt y x=false):Ly r=H4 lt l:=Y4 h (iZ h hr) fun z=>Ze.trans hp.mem_iff
end
end
section
structure Pre {α:Type} (c:α->α->Int):Prop where
 anti:∀ a b,c b a=- c a b
 tr:∀ a b d,c a b<=0->c b d<=0->c a d<=0
section
variable {α β:Type} {c c':α->α->Int}
theorem Pre.self (h:Pre c) (a:α):c a a=0:=by have:=h.anti a a; omega
theorem Pre.by_ (f:α->β) {d:β->β->Int} (h:Pre d):Pre fun a b=>d (f a) (f b):=⟨fun a b=>h.anti _ _,fun a b d' h1 h2=>h.tr _ _ _ h1 h2⟩
end
def aCs (x y:Int):Int:=bif decide (x < y) then -1 else bif decide (y < x) then 1 else 0
end
end Go.Proofs.YtkioneinddihlaaGreat
