/- Plain texts, joined. No program is in sight here. -/
import Derived.Test.YtchpcpaacenodaaGreatPU
set_option linter.unusedVariables false
set_option linter.unusedSimpArgs false
namespace Go.Proofs.YtchpcpaacenodaaGreat
section
structure Tx {α:Type} (lt:α->α->Bool):Prop where
 irrefl:∀ a,lt a a=false
 trans:∀ a b c,lt a b=true->lt b c=true->lt a c=true
 tot:∀ a b,lt a b=false->lt b a=false->a=b
section
variable {α:Type} {lt:α->α->Bool}
theorem Tx.asymm (h:Tx lt) {a b:α} (hab:lt a b=true):lt b a=false:=by
 cases hb:lt b a with
 | false=>rfl
 | true=>have:=h.trans _ _ _ hab hb; rw [h.irrefl] at this; cases this
abbrev qP (lt:α->α->Bool) (l:List α):Prop:=l.Pairwise fun x y=>lt x y=true
theorem Wt (h:Tx lt):∀ {l m:List α},qP lt l->qP lt m->(∀ x,x∈l↔x∈m)->l=m
 | [],[],_,_,_=>rfl
 | [],y :: m,_,_,he=>by have:=(he y).2 (.head _); cases this
 | x :: l,[],_,_,he=>by have:=(he x).1 (.head _); cases this
 | x :: l,y :: m,hl,hm,he=>by
  obtain⟨l1,l2⟩:=aH9.1 hl
  obtain⟨m1,m2⟩:=aH9.1 hm
  have hxy:x=y:=by
   rcases aFt.1 ((he x).1 (.head _)) with h1 | h1
   ·exact h1
   ·rcases aFt.1 ((he y).2 (.head _)) with h2 | h2
    ·exact h2.symm
    ·have a1:=m1 x h1
     have a2:=l1 y h2
     rw [h.asymm a1] at a2
     cases a2
  subst hxy
  rw [Wt h l2 m2 fun z=>⟨fun hz=>?_,fun hz=>?_⟩]
  ·rcases aFt.1 ((he z).1 (.tail _ hz)) with rfl | h1
   ·have:=l1 z hz
    rw [h.irrefl] at this; cases this
   ·exact h1
  ·rcases aFt.1 ((he z).2 (.tail _ hz)) with rfl | h1
   ·have:=m1 z hz
    rw [h.irrefl] at this; cases this
   ·exact h1
def Qk (lt:α->α->Bool):List α->α->List α
 | [],x=>[x]
 | y :: l,x=>bif lt y x then y :: Qk lt l x else bif lt x y then x :: y :: l else y :: l
theorem Rm (h:Tx lt) {x z:α}:∀ {l:List α},z∈Qk lt l x↔z=x\/z∈l
 | []=>by simp [Qk]
 | y :: l=>by
  unfold Qk
  cases h1:lt y x with
  | true=>rw [aD8,aFt,Rm h (l:=l),aFt]; exact⟨fun h=>h.elim (fun h=>.inr (.inl h)) fun h=>h.elim .inl fun h=>.inr (.inr h),fun h=>h.elim (fun h=>.inr (.inl h)) fun h=>h.elim .inl fun h=>.inr (.inr h)⟩
  | false=>
   cases h2:lt x y with
   | true=>rw [aCx,aD8,aFt]
   | false=>
    rw [aCx,aCx,h.tot y x h1 h2]
    exact⟨.inr,fun hh=>hh.elim (fun e=>by rw [e]; exact .head _) id⟩
theorem Qp (h:Tx lt) {x:α}:∀ {l:List α},qP lt l->qP lt (Qk lt l x)
 | [],_=>by simp [Qk]
 | y :: l,hl=>by
  obtain⟨l1,l2⟩:=aH9.1 hl
  unfold Qk
  cases h1:lt y x with
  | true=>
   rw [aD8]
   refine aH9.2 ⟨fun z hz=>?_,Qp h l2⟩
   rcases (Rm h).1 hz with rfl | hz
   ·exact h1
   ·exact l1 z hz
  | false=>
   cases h2:lt x y with
   | true=>
    rw [aCx,aD8]
    refine aH9.2 ⟨fun z hz=>?_,hl⟩
    rcases aFt.1 hz with rfl | hz
    ·exact h2
    ·exact h.trans _ _ _ h2 (l1 z hz)
   | false=>exact hl
def Nm (lt:α->α->Bool) (l:List α):List α:=l.foldl (Qk lt) []
theorem Zx (h:Tx lt):∀ (l a:List α),qP lt a->qP lt (l.foldl (Qk lt) a)/\∀ z,z∈l.foldl (Qk lt) a↔z∈a\/z∈l
 | [],a,ha=>⟨ha,fun z=>by simp⟩
 | x :: l,a,ha=>by
  obtain⟨h1,h2⟩:=Zx h l (Qk lt a x) (Qp h ha)
  refine⟨h1,fun z=>?_⟩
  rw [List.foldl_cons,h2 z,Rm h,aFt]
  exact⟨fun h=>h.elim (fun h=>h.elim (fun h=>.inr (.inl h)) .inl) fun h=>.inr (.inr h),fun h=>h.elim (fun h=>.inl (.inr h)) fun h=>h.elim (fun h=>.inl (.inl h)) .inr⟩
theorem dX (h:Tx lt) (l:List α):qP lt (Nm lt l):=(Zx h l [] .nil).1
theorem eE (h:Tx lt) {l:List α} {z:α}:z∈Nm lt l↔z∈l:=by
 have:=(Zx h l [] .nil).2 z
 simpa [Nm] using this
theorem bT (h:Tx lt) {l m:List α} (hm:qP lt m) (he:∀ z,z∈m↔z∈l):m=Nm lt l:=Wt h hm (dX h l) fun z=>(he z).trans (eE h).symm
theorem kR (h:Tx lt) {l:List α} (hl:qP lt l):Nm lt l=l:=(bT h hl fun _=>Iff.rfl).symm
theorem jZ (h:Tx lt) {l m:List α} (he:∀ z,z∈l↔z∈m):Nm lt l=Nm lt m:=bT h (dX h l) fun z=>(eE h).trans (he z)
theorem aH (lt:α->α->Bool) (x:α):∀ l:List α,(Qk lt l x).length<=l.length + 1
 | []=>by simp [Qk]
 | y :: l=>by
  unfold Qk
  cases lt y x with
  | true=>have:=aH lt x l; simp only [aD8,aH2]; omega
  | false=>cases lt x y <;> simp
theorem iX (lt:α->α->Bool):∀ l a:List α,(l.foldl (Qk lt) a).length<=a.length + l.length
 | [],a=>by simp
 | x :: l,a=>by
  have h1:=iX lt l (Qk lt a x)
  have h2:=aH lt x a
  rw [List.foldl_cons,aH2]
  omega
theorem Xl (lt:α->α->Bool) (l:List α):(Nm lt l).length<=l.length:=by
 have:=iX lt l []
 simpa [Nm] using this
def Mk [DecidableEq α]:List α->List α
 | []=>[]
 | [x]=>[x]
 | x :: y :: l=>if x=y then Mk (y :: l) else x :: Mk (y :: l)
theorem bI [DecidableEq α] {z:α}:∀ {l:List α},z∈Mk l↔z∈l
 | []=>by simp [Mk]
 | [x]=>by simp [Mk]
 | x :: y :: l=>by
  unfold Mk
  have ih:=bI (z:=z) (l:=y :: l)
  split
  ·rename_i e
   rw [ih,e]
   simp
  ·simp only [aFt] at ih ⊢
   rw [ih]
theorem hX [DecidableEq α] (h:Tx lt):∀ {l:List α},(l.Pairwise fun x y=>lt y x=false)->qP lt (Mk l)
 | [],_=>.nil
 | [x],_=>by simp [Mk]
 | x :: y :: l,hl=>by
  obtain⟨l1,l2⟩:=aH9.1 hl
  have ih:=hX h l2
  unfold Mk
  split
  ·exact ih
  ·rename_i hne
   refine aH9.2 ⟨fun z hz=>?_,ih⟩
   have hz:=bI.1 hz
   have hxy:lt x y=true:=by
    cases hh:lt x y with
    | true=>rfl
    | false=>exact absurd (h.tot x y hh (l1 y (.head _))) hne
   rcases aFt.1 hz with rfl | hz
   ·exact hxy
   ·have h3:=(aH9.1 l2).1 z hz
    cases hh:lt y z with
    | true=>exact h.trans _ _ _ hxy hh
    | false=>rw [<- h.tot y z hh h3]; exact hxy
theorem hY [DecidableEq α] (h:Tx lt) {l r:List α} (hp:r.Perm l) (hr:r.Pairwise fun x y=>lt y x=false):Mk r=Nm lt l:=bT h (hX h hr) fun z=>bI.trans hp.mem_iff
end
end
section
structure Pre {α:Type} (c:α->α->Int):Prop where
 anti:∀ a b,c b a=- c a b
 tr:∀ a b d,c a b<=0->c b d<=0->c a d<=0
section
variable {α β:Type} {c c':α->α->Int}
theorem Pre.self (h:Pre c) (a:α):c a a=0:=by have:=h.anti a a; omega
theorem Pre.lt_le (h:Pre c) {a b d:α} (h1:c a b < 0) (h2:c b d<=0):c a d < 0:=by
 have h3:=h.tr a b d (by omega) h2
 by_cases h4:c a d=0
 ·have h5:=h.tr b d a h2 (by have:=h.anti a d; omega)
  have:=h.anti a b
  omega
 ·omega
theorem Pre.le_lt (h:Pre c) {a b d:α} (h1:c a b<=0) (h2:c b d < 0):c a d < 0:=by
 have h3:=h.tr a b d h1 (by omega)
 by_cases h4:c a d=0
 ·have h5:=h.tr d a b (by have:=h.anti a d; omega) h1
  have:=h.anti b d
  omega
 ·omega
def Sb (c c':α->α->Int) (a b:α):Int:=bif decide (c a b=0) then c' a b else c a b
theorem Kr {a b:α} (h:c a b=0):Sb c c' a b=c' a b:=by unfold Sb; rw [aAe h]; rfl
theorem Jt {a b:α} (h:c a b≠0):Sb c c' a b=c a b:=by unfold Sb; rw [aAg h]; rfl
theorem Pre.lex (h:Pre c) (h':Pre c'):Pre (Sb c c') where
 anti a b:=by
  have h1:=h.anti a b
  by_cases hz:c a b=0
  ·rw [Kr hz,Kr (by omega)]; exact h'.anti a b
  ·rw [Jt hz,Jt (by omega)]; exact h1
 tr a b d h1 h2:=by
  by_cases z1:c a b=0
  ·rw [Kr z1] at h1
   by_cases z2:c b d=0
   ·rw [Kr z2] at h2
    have z3:c a d=0:=by
     have e1:=h.tr a b d (by omega) (by omega)
     have e2:=h.tr d b a (by have:=h.anti b d; omega) (by have:=h.anti a b; omega)
     have:=h.anti a d
     omega
    rw [Kr z3]
    exact h'.tr a b d h1 h2
   ·rw [Jt z2] at h2
    have:=h.le_lt (a:=a) (b:=b) (d:=d) (by omega) (by omega)
    rw [Jt (by omega)]
    omega
  ·rw [Jt z1] at h1
   have h2':c b d<=0:=by
    by_cases z2:c b d=0
    ·omega
    ·rw [Jt z2] at h2; exact h2
   have:=h.lt_le (a:=a) (b:=b) (d:=d) (by omega) h2'
   rw [Jt (by omega)]
   omega
theorem Lr {a b:α} (h:Sb c c' a b=0):c a b=0/\c' a b=0:=by
 by_cases hz:c a b=0
 ·rw [Kr hz] at h; exact⟨hz,h⟩
 ·rw [Jt hz] at h; exact absurd h hz
theorem Pre.by_ (f:α->β) {d:β->β->Int} (h:Pre d):Pre fun a b=>d (f a) (f b):=⟨fun a b=>h.anti _ _,fun a b d' h1 h2=>h.tr _ _ _ h1 h2⟩
theorem Pre.lin (h:Pre c) (h0:∀ a b,c a b=0->a=b):Tx fun a b=>decide (c a b < 0) where
 irrefl a:=aAg (by rw [h.self]; omega)
 trans a b d h1 h2:=aAe (h.lt_le (aCl h1) (by have:=aCl h2; omega))
 tot a b h1 h2:=by
  have h1:=aD7 h1
  have h2:=aD7 h2
  have:=h.anti a b
  exact h0 a b (by omega)
end
def Ie (x y:Int):Int:=bif decide (x < y) then -1 else bif decide (y < x) then 1 else 0
theorem Nf:Pre Ie where
 anti a b:=by
  unfold Ie
  by_cases h1:a < b
  ·rw [aAe h1,aAg (by omega)]; rfl
  ·by_cases h2:b < a
   ·rw [aAe h2,aAg h1]; rfl
   ·rw [aAg h2,aAg h1]; rfl
 tr a b d h1 h2:=by
  have key:∀ x y,Ie x y<=0↔x<=y:=fun x y=>by
   unfold Ie
   by_cases h1:x < y
   ·rw [aAe h1]; simp; omega
   ·by_cases h2:y < x
    ·rw [aAe h2,aAg h1]; simp; omega
    ·rw [aAg h2,aAg h1]; simp; omega
  rw [key] at *
  omega
theorem P3 {x y:Int} (h:Ie x y=0):x=y:=by
 unfold Ie at h
 by_cases h1:x < y
 ·rw [aAe h1] at h; cases h
 ·by_cases h2:y < x
  ·rw [aAe h2,aAg h1] at h; cases h
  ·omega
theorem yH (a:List UInt8):Kz a a=false:=by
 have:=Zf a a
 rw [aAe rfl,Bool.or_true] at this
 exact this.symm
theorem kN:∀ (a b c:List UInt8),Kz a b=true->Kz b c=true->Kz a c=true
 | a,[],c,h,k=>by cases a <;> cases h
 | a,b :: bs,[],h,k=>by cases k
 | [],b :: bs,c :: cs,h,k=>rfl
 | a :: u,b :: v,c :: w,h,k=>by
  simp only [Kz,aH8,aId,aGc,beq_iff_eq] at h k ⊢
  rcases h with h | ⟨rfl,h⟩
  ·rcases k with k | ⟨rfl,k⟩
   ·exact .inl (UInt8.lt_trans h k)
   ·exact .inl h
  ·rcases k with k | ⟨rfl,k⟩
   ·exact .inl k
   ·exact .inr ⟨rfl,kN u v w h k⟩
theorem oH {a b:List UInt8} (h:Kz a b=false) (k:Kz b a=false):a=b:=by
 have:=Zf a b
 rw [h,k,aJ0] at this
 by_cases e:a=b
 ·exact e
 ·rw [aAg e] at this; cases this
theorem uF {a b:List UInt8} (h:Kz a b=true):Kz b a=false:=by
 cases k:Kz b a with
 | false=>rfl
 | true=>have:=kN _ _ _ h k; rw [yH] at this; cases this
def Pw (x y:ByteArray):Int:=bif Kz (Hg x) (Hg y) then -1 else bif Kz (Hg y) (Hg x) then 1 else 0
theorem aG:Pre Pw where
 anti a b:=by
  unfold Pw
  cases h1:Kz (Hg a) (Hg b) with
  | true=>rw [uF h1]; rfl
  | false=>cases Kz (Hg b) (Hg a) <;> rfl
 tr a b d h1 h2:=by
  have key:∀ x y,Pw x y<=0↔Kz (Hg y) (Hg x)=false:=fun x y=>by
   unfold Pw
   cases h1:Kz (Hg x) (Hg y) with
   | true=>rw [uF h1]; simp
   | false=>cases Kz (Hg y) (Hg x) <;> simp
  rw [key] at *
  cases h3:Kz (Hg d) (Hg a) with
  | false=>rfl
  | true=>
   cases h4:Kz (Hg a) (Hg b) with
   | true=>have:=kN _ _ _ h3 h4; rw [h2] at this; cases this
   | false=>
    rw [oH h4 h1] at h3
    rw [h2] at h3; cases h3
theorem aBt {a b:ByteArray} (h:Hg a=Hg b):a=b:=by
 cases a with | mk a=>cases b with | mk b=>
 unfold Hg at h
 exact congrArg ByteArray.mk (aJx.1 h)
theorem eY {x y:ByteArray} (h:Pw x y=0):x=y:=by
 unfold Pw at h
 cases h1:Kz (Hg x) (Hg y) with
 | true=>rw [h1] at h; cases h
 | false=>
  cases h2:Kz (Hg y) (Hg x) with
  | true=>rw [h1,h2] at h; cases h
  | false=>exact aBt (oH h1 h2)
end
end Go.Proofs.YtchpcpaacenodaaGreat
