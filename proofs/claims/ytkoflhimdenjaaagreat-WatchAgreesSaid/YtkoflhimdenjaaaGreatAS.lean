import Derived.Test.YtkoflhimdenjaaaGreatPU
set_option linter.unusedVariables false
set_option linter.unusedSimpArgs false
namespace Go.Proofs.YtkoflhimdenjaaaGreat
structure U1 {α:Type} (lt:α->α->Bool):Prop where
 irrefl:∀ a,lt a a=false
 trans:∀ a b c,lt a b=true->lt b c=true->lt a c=true
 tot:∀ a b,lt a b=false->lt b a=false->a=b
section
variable {α:Type} {lt:α->α->Bool}
theorem U1.asymm (h:U1 lt) {a b:α} (hab:lt a b=true):lt b a=false:=by
 cases hb:lt b a with
 | false=>rfl
 | true=>have:=h.trans _ _ _ hab hb; rw [h.irrefl] at this; cases this
abbrev yS (lt:α->α->Bool) (l:List α):Prop:=l.Pairwise fun x y=>lt x y=true
theorem nJ (h:U1 lt):∀ {l m:List α},yS lt l->yS lt m->(∀ x,x∈l↔x∈m)->l=m
 | [],[],_,_,_=>rfl
 | [],y :: m,_,_,he=>by have:=(he y).2 (.head _); cases this
 | x :: l,[],_,_,he=>by have:=(he x).1 (.head _); cases this
 | x :: l,y :: m,hl,hm,he=>by
  obtain⟨l1,l2⟩:=aJc.1 hl
  obtain⟨m1,m2⟩:=aJc.1 hm
  have hxy:x=y:=by
   rcases aDv.1 ((he x).1 (.head _)) with h1 | h1
   ·exact h1
   ·rcases aDv.1 ((he y).2 (.head _)) with h2 | h2
    ·exact h2.symm
    ·have a1:=m1 x h1
     have a2:=l1 y h2
     rw [h.asymm a1] at a2
     cases a2
  subst hxy
  rw [nJ h l2 m2 fun z=>⟨fun hz=>?_,fun hz=>?_⟩]
  ·rcases aDv.1 ((he z).1 (.tail _ hz)) with rfl | h1
   ·have:=l1 z hz
    rw [h.irrefl] at this; cases this
   ·exact h1
  ·rcases aDv.1 ((he z).2 (.tail _ hz)) with rfl | h1
   ·have:=m1 z hz
    rw [h.irrefl] at this; cases this
   ·exact h1
def Un (lt:α->α->Bool):List α->α->List α
 | [],x=>[x]
 | y :: l,x=>bif lt y x then y :: Un lt l x else bif lt x y then x :: y :: l else y :: l
theorem Zn (h:U1 lt) {x z:α}:∀ {l:List α},z∈Un lt l x↔z=x\/z∈l
 | []=>by simp [Un]
 | y :: l=>by
  unfold Un
  cases h1:lt y x with
  | true=>rw [aEn,aDv,Zn h (l:=l),aDv]; exact⟨fun h=>h.elim (fun h=>.inr (.inl h)) fun h=>h.elim .inl fun h=>.inr (.inr h),fun h=>h.elim (fun h=>.inr (.inl h)) fun h=>h.elim .inl fun h=>.inr (.inr h)⟩
  | false=>
   cases h2:lt x y with
   | true=>rw [aDk,aEn,aDv]
   | false=>
    rw [aDk,aDk,h.tot y x h1 h2]
    exact⟨.inr,fun hh=>hh.elim (fun e=>by rw [e]; exact .head _) id⟩
theorem jA (h:U1 lt) {x:α}:∀ {l:List α},yS lt l->yS lt (Un lt l x)
 | [],_=>by simp [Un]
 | y :: l,hl=>by
  obtain⟨l1,l2⟩:=aJc.1 hl
  unfold Un
  cases h1:lt y x with
  | true=>
   rw [aEn]
   refine aJc.2 ⟨fun z hz=>?_,jA h l2⟩
   rcases (Zn h).1 hz with rfl | hz
   ·exact h1
   ·exact l1 z hz
  | false=>
   cases h2:lt x y with
   | true=>
    rw [aDk,aEn]
    refine aJc.2 ⟨fun z hz=>?_,hl⟩
    rcases aDv.1 hz with rfl | hz
    ·exact h2
    ·exact h.trans _ _ _ h2 (l1 z hz)
   | false=>exact hl
def S0 (lt:α->α->Bool) (l:List α):List α:=l.foldl (Un lt) []
theorem Zc (h:U1 lt):∀ (l a:List α),yS lt a->yS lt (l.foldl (Un lt) a)/\∀ z,z∈l.foldl (Un lt) a↔z∈a\/z∈l
 | [],a,ha=>⟨ha,fun z=>by simp⟩
 | x :: l,a,ha=>by
  obtain⟨h1,h2⟩:=Zc h l (Un lt a x) (jA h ha)
  refine⟨h1,fun z=>?_⟩
  rw [List.foldl_cons,h2 z,Zn h,aDv]
  exact⟨fun h=>h.elim (fun h=>h.elim (fun h=>.inr (.inl h)) .inl) fun h=>.inr (.inr h),fun h=>h.elim (fun h=>.inl (.inr h)) fun h=>h.elim (fun h=>.inl (.inl h)) .inr⟩
theorem oH (h:U1 lt) (l:List α):yS lt (S0 lt l):=(Zc h l [] .nil).1
theorem dG (h:U1 lt) {l:List α} {z:α}:z∈S0 lt l↔z∈l:=by
 have:=(Zc h l [] .nil).2 z
 simpa [S0] using this
theorem qD (h:U1 lt) {l m:List α} (hm:yS lt m) (he:∀ z,z∈m↔z∈l):m=S0 lt l:=nJ h hm (oH h l) fun z=>(he z).trans (dG h).symm
theorem iA (lt:α->α->Bool) (x:α):∀ l:List α,(Un lt l x).length<=l.length + 1
 | []=>by simp [Un]
 | y :: l=>by
  unfold Un
  cases lt y x with
  | true=>have:=iA lt x l; simp only [aEn,aJg]; omega
  | false=>cases lt x y <;> simp
theorem iG (lt:α->α->Bool):∀ l a:List α,(l.foldl (Un lt) a).length<=a.length + l.length
 | [],a=>by simp
 | x :: l,a=>by
  have h1:=iG lt l (Un lt a x)
  have h2:=iA lt x a
  rw [List.foldl_cons,aJg]
  omega
theorem W6 (lt:α->α->Bool) (l:List α):(S0 lt l).length<=l.length:=by
 have:=iG lt l []
 simpa [S0] using this
def Ml [DecidableEq α]:List α->List α
 | []=>[]
 | [x]=>[x]
 | x :: y :: l=>if x=y then Ml (y :: l) else x :: Ml (y :: l)
theorem bK [DecidableEq α] {z:α}:∀ {l:List α},z∈Ml l↔z∈l
 | []=>by simp [Ml]
 | [x]=>by simp [Ml]
 | x :: y :: l=>by
  unfold Ml
  have ih:=bK (z:=z) (l:=y :: l)
  split
  ·rename_i e
   rw [ih,e]
   simp
  ·simp only [aDv] at ih ⊢
   rw [ih]
theorem iH [DecidableEq α] (h:U1 lt):∀ {l:List α},(l.Pairwise fun x y=>lt y x=false)->yS lt (Ml l)
 | [],_=>.nil
 | [x],_=>by simp [Ml]
 | x :: y :: l,hl=>by
  obtain⟨l1,l2⟩:=aJc.1 hl
  have ih:=iH h l2
  unfold Ml
  split
  ·exact ih
  ·rename_i hne
   refine aJc.2 ⟨fun z hz=>?_,ih⟩
   have hz:=bK.1 hz
   have hxy:lt x y=true:=by
    cases hh:lt x y with
    | true=>rfl
    | false=>exact absurd (h.tot x y hh (l1 y (.head _))) hne
   rcases aDv.1 hz with rfl | hz
   ·exact hxy
   ·have h3:=(aJc.1 l2).1 z hz
    cases hh:lt y z with
    | true=>exact h.trans _ _ _ hxy hh
    | false=>rw [<- h.tot y z hh h3]; exact hxy
theorem tN [DecidableEq α] (h:U1 lt) {l r:List α} (hp:r.Perm l) (hr:r.Pairwise fun x y=>lt y x=false):Ml r=S0 lt l:=qD h (iH h hr) fun z=>bK.trans hp.mem_iff
end
end Go.Proofs.YtkoflhimdenjaaaGreat
