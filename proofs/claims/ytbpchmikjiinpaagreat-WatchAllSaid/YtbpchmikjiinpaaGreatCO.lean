/- Plain texts, joined. No program is in sight here. -/
import Derived.Test.YtbpchmikjiinpaaGreatPU
set_option linter.unusedVariables false
set_option linter.unusedSimpArgs false
namespace Go.Proofs.YtbpchmikjiinpaaGreat
section
structure V3 {α:Type} (lt:α->α->Bool):Prop where
 irrefl:∀ a,lt a a=false
 trans:∀ a b c,lt a b=true->lt b c=true->lt a c=true
 tot:∀ a b,lt a b=false->lt b a=false->a=b
section
variable {α:Type} {lt:α->α->Bool}
theorem V3.asymm (h:V3 lt) {a b:α} (hab:lt a b=true):lt b a=false:=by
 cases hb:lt b a with
 | false=>rfl
 | true=>have:=h.trans _ _ _ hab hb; rw [h.irrefl] at this; cases this
abbrev wF (lt:α->α->Bool) (l:List α):Prop:=l.Pairwise fun x y=>lt x y=true
theorem Wh (h:V3 lt):∀ {l m:List α},wF lt l->wF lt m->(∀ x,x∈l↔x∈m)->l=m
 | [],[],_,_,_=>rfl
 | [],y :: m,_,_,he=>by have:=(he y).2 (.head _); cases this
 | x :: l,[],_,_,he=>by have:=(he x).1 (.head _); cases this
 | x :: l,y :: m,hl,hm,he=>by
  obtain⟨l1,l2⟩:=aMd.1 hl
  obtain⟨m1,m2⟩:=aMd.1 hm
  have hxy:x=y:=by
   rcases aC6.1 ((he x).1 (.head _)) with h1 | h1
   ·exact h1
   ·rcases aC6.1 ((he y).2 (.head _)) with h2 | h2
    ·exact h2.symm
    ·have a1:=m1 x h1
     have a2:=l1 y h2
     rw [h.asymm a1] at a2
     cases a2
  subst hxy
  rw [Wh h l2 m2 fun z=>⟨fun hz=>?_,fun hz=>?_⟩]
  ·rcases aC6.1 ((he z).1 (.tail _ hz)) with rfl | h1
   ·have:=l1 z hz
    rw [h.irrefl] at this; cases this
   ·exact h1
  ·rcases aC6.1 ((he z).2 (.tail _ hz)) with rfl | h1
   ·have:=m1 z hz
    rw [h.irrefl] at this; cases this
   ·exact h1
def R4 (lt:α->α->Bool):List α->α->List α
 | [],x=>[x]
 | y :: l,x=>bif lt y x then y :: R4 lt l x else bif lt x y then x :: y :: l else y :: l
theorem Rn (h:V3 lt) {x z:α}:∀ {l:List α},z∈R4 lt l x↔z=x\/z∈l
 | []=>by simp [R4]
 | y :: l=>by
  unfold R4
  cases h1:lt y x with
  | true=>rw [aDb,aC6,Rn h (l:=l),aC6]; exact⟨fun h=>h.elim (fun h=>.inr (.inl h)) fun h=>h.elim .inl fun h=>.inr (.inr h),fun h=>h.elim (fun h=>.inr (.inl h)) fun h=>h.elim .inl fun h=>.inr (.inr h)⟩
  | false=>
   cases h2:lt x y with
   | true=>rw [aCv,aDb,aC6]
   | false=>
    rw [aCv,aCv,h.tot y x h1 h2]
    exact⟨.inr,fun hh=>hh.elim (fun e=>by rw [e]; exact .head _) id⟩
theorem Sg (h:V3 lt) {x:α}:∀ {l:List α},wF lt l->wF lt (R4 lt l x)
 | [],_=>by simp [R4]
 | y :: l,hl=>by
  obtain⟨l1,l2⟩:=aMd.1 hl
  unfold R4
  cases h1:lt y x with
  | true=>
   rw [aDb]
   refine aMd.2 ⟨fun z hz=>?_,Sg h l2⟩
   rcases (Rn h).1 hz with rfl | hz
   ·exact h1
   ·exact l1 z hz
  | false=>
   cases h2:lt x y with
   | true=>
    rw [aCv,aDb]
    refine aMd.2 ⟨fun z hz=>?_,hl⟩
    rcases aC6.1 hz with rfl | hz
    ·exact h2
    ·exact h.trans _ _ _ h2 (l1 z hz)
   | false=>exact hl
def Sf (lt:α->α->Bool) (l:List α):List α:=l.foldl (R4 lt) []
theorem bY (h:V3 lt):∀ (l a:List α),wF lt a->wF lt (l.foldl (R4 lt) a)/\∀ z,z∈l.foldl (R4 lt) a↔z∈a\/z∈l
 | [],a,ha=>⟨ha,fun z=>by simp⟩
 | x :: l,a,ha=>by
  obtain⟨h1,h2⟩:=bY h l (R4 lt a x) (Sg h ha)
  refine⟨h1,fun z=>?_⟩
  rw [List.foldl_cons,h2 z,Rn h,aC6]
  exact⟨fun h=>h.elim (fun h=>h.elim (fun h=>.inr (.inl h)) .inl) fun h=>.inr (.inr h),fun h=>h.elim (fun h=>.inl (.inr h)) fun h=>h.elim (fun h=>.inl (.inl h)) .inr⟩
theorem rP (h:V3 lt) (l:List α):wF lt (Sf lt l):=(bY h l [] .nil).1
theorem X4 (h:V3 lt) {l:List α} {z:α}:z∈Sf lt l↔z∈l:=by
 have:=(bY h l [] .nil).2 z
 simpa [Sf] using this
theorem xB (h:V3 lt) {l m:List α} (hm:wF lt m) (he:∀ z,z∈m↔z∈l):m=Sf lt l:=Wh h hm (rP h l) fun z=>(he z).trans (X4 h).symm
theorem aT (lt:α->α->Bool) (x:α):∀ l:List α,(R4 lt l x).length<=l.length + 1
 | []=>by simp [R4]
 | y :: l=>by
  unfold R4
  cases lt y x with
  | true=>have:=aT lt x l; simp only [aDb,aLg]; omega
  | false=>cases lt x y <;> simp
theorem lO (lt:α->α->Bool):∀ l a:List α,(l.foldl (R4 lt) a).length<=a.length + l.length
 | [],a=>by simp
 | x :: l,a=>by
  have h1:=lO lt l (R4 lt a x)
  have h2:=aT lt x a
  rw [List.foldl_cons,aLg]
  omega
theorem Xw (lt:α->α->Bool) (l:List α):(Sf lt l).length<=l.length:=by
 have:=lO lt l []
 simpa [Sf] using this
def Nv [DecidableEq α]:List α->List α
 | []=>[]
 | [x]=>[x]
 | x :: y :: l=>if x=y then Nv (y :: l) else x :: Nv (y :: l)
theorem bK [DecidableEq α] {z:α}:∀ {l:List α},z∈Nv l↔z∈l
 | []=>by simp [Nv]
 | [x]=>by simp [Nv]
 | x :: y :: l=>by
  unfold Nv
  have ih:=bK (z:=z) (l:=y :: l)
  split
  ·rename_i e
   rw [ih,e]
   simp
  ·simp only [aC6] at ih ⊢
   rw [ih]
theorem lP [DecidableEq α] (h:V3 lt):∀ {l:List α},(l.Pairwise fun x y=>lt y x=false)->wF lt (Nv l)
 | [],_=>.nil
 | [x],_=>by simp [Nv]
 | x :: y :: l,hl=>by
  obtain⟨l1,l2⟩:=aMd.1 hl
  have ih:=lP h l2
  unfold Nv
  split
  ·exact ih
  ·rename_i hne
   refine aMd.2 ⟨fun z hz=>?_,ih⟩
   have hz:=bK.1 hz
   have hxy:lt x y=true:=by
    cases hh:lt x y with
    | true=>rfl
    | false=>exact absurd (h.tot x y hh (l1 y (.head _))) hne
   rcases aC6.1 hz with rfl | hz
   ·exact hxy
   ·have h3:=(aMd.1 l2).1 z hz
    cases hh:lt y z with
    | true=>exact h.trans _ _ _ hxy hh
    | false=>rw [<- h.tot y z hh h3]; exact hxy
theorem uP [DecidableEq α] (h:V3 lt) {l r:List α} (hp:r.Perm l) (hr:r.Pairwise fun x y=>lt y x=false):Nv r=Sf lt l:=xB h (lP h hr) fun z=>bK.trans hp.mem_iff
end
end
section
structure Pre {α:Type} (c:α->α->Int):Prop where
 anti:∀ a b,c b a=- c a b
 tr:∀ a b d,c a b<=0->c b d<=0->c a d<=0
section
variable {α β:Type} {c c':α->α->Int}
theorem Pre.self (h:Pre c) (a:α):c a a=0:=by have:=h.anti a a; omega
theorem Pre.lt_le (h:Pre c) {a b d:α} (h1:c a b < 0) (h2:c b d<=0):c a d < 0:=by
 have h3:=h.tr a b d (by omega) h2
 by_cases h4:c a d=0
 ·have h5:=h.tr b d a h2 (by have:=h.anti a d; omega)
  have:=h.anti a b
  omega
 ·omega
theorem Pre.le_lt (h:Pre c) {a b d:α} (h1:c a b<=0) (h2:c b d < 0):c a d < 0:=by
 have h3:=h.tr a b d h1 (by omega)
 by_cases h4:c a d=0
 ·have h5:=h.tr d a b (by have:=h.anti a d; omega) h1
  have:=h.anti b d
  omega
 ·omega
def S5 (c c':α->α->Int) (a b:α):Int:=bif decide (c a b=0) then c' a b else c a b
theorem Le {a b:α} (h:c a b=0):S5 c c' a b=c' a b:=by unfold S5; rw [aBe h]; rfl
theorem Kn {a b:α} (h:c a b≠0):S5 c c' a b=c a b:=by unfold S5; rw [aBv h]; rfl
theorem Pre.lex (h:Pre c) (h':Pre c'):Pre (S5 c c') where
 anti a b:=by
  have h1:=h.anti a b
  by_cases hz:c a b=0
  ·rw [Le hz,Le (by omega)]; exact h'.anti a b
  ·rw [Kn hz,Kn (by omega)]; exact h1
 tr a b d h1 h2:=by
  by_cases z1:c a b=0
  ·rw [Le z1] at h1
   by_cases z2:c b d=0
   ·rw [Le z2] at h2
    have z3:c a d=0:=by
     have e1:=h.tr a b d (by omega) (by omega)
     have e2:=h.tr d b a (by have:=h.anti b d; omega) (by have:=h.anti a b; omega)
     have:=h.anti a d
     omega
    rw [Le z3]
    exact h'.tr a b d h1 h2
   ·rw [Kn z2] at h2
    have:=h.le_lt (a:=a) (b:=b) (d:=d) (by omega) (by omega)
    rw [Kn (by omega)]
    omega
  ·rw [Kn z1] at h1
   have h2':c b d<=0:=by
    by_cases z2:c b d=0
    ·omega
    ·rw [Kn z2] at h2; exact h2
   have:=h.lt_le (a:=a) (b:=b) (d:=d) (by omega) h2'
   rw [Kn (by omega)]
   omega
theorem M9 {a b:α} (h:S5 c c' a b=0):c a b=0/\c' a b=0:=by
 by_cases hz:c a b=0
 ·rw [Le hz] at h; exact⟨hz,h⟩
 ·rw [Kn hz] at h; exact absurd h hz
theorem Pre.by_ (f:α->β) {d:β->β->Int} (h:Pre d):Pre fun a b=>d (f a) (f b):=⟨fun a b=>h.anti _ _,fun a b d' h1 h2=>h.tr _ _ _ h1 h2⟩
theorem Pre.lin (h:Pre c) (h0:∀ a b,c a b=0->a=b):V3 fun a b=>decide (c a b < 0) where
 irrefl a:=aBv (by rw [h.self]; omega)
 trans a b d h1 h2:=aBe (h.lt_le (aCm h1) (by have:=aCm h2; omega))
 tot a b h1 h2:=by
  have h1:=aCn h1
  have h2:=aCn h2
  have:=h.anti a b
  exact h0 a b (by omega)
end
def Iq (x y:Int):Int:=bif decide (x < y) then -1 else bif decide (y < x) then 1 else 0
theorem Oj:Pre Iq where
 anti a b:=by
  unfold Iq
  by_cases h1:a < b
  ·rw [aBe h1,aBv (by omega)]; rfl
  ·by_cases h2:b < a
   ·rw [aBe h2,aBv h1]; rfl
   ·rw [aBv h2,aBv h1]; rfl
 tr a b d h1 h2:=by
  have key:∀ x y,Iq x y<=0↔x<=y:=fun x y=>by
   unfold Iq
   by_cases h1:x < y
   ·rw [aBe h1]; simp; omega
   ·by_cases h2:y < x
    ·rw [aBe h2,aBv h1]; simp; omega
    ·rw [aBv h2,aBv h1]; simp; omega
  rw [key] at *
  omega
theorem Q5 {x y:Int} (h:Iq x y=0):x=y:=by
 unfold Iq at h
 by_cases h1:x < y
 ·rw [aBe h1] at h; cases h
 ·by_cases h2:y < x
  ·rw [aBe h2,aBv h1] at h; cases h
  ·omega
theorem pV (a:List UInt8):Mc a a=false:=by
 have:=aJ a a
 rw [aBe rfl,Bool.or_true] at this
 exact this.symm
theorem jK:∀ (a b c:List UInt8),Mc a b=true->Mc b c=true->Mc a c=true
 | a,[],c,h,k=>by cases a <;> cases h
 | a,b :: bs,[],h,k=>by cases k
 | [],b :: bs,c :: cs,h,k=>rfl
 | a :: u,b :: v,c :: w,h,k=>by
  simp only [Mc,aMt,aN6,aFx,beq_iff_eq] at h k ⊢
  rcases h with h | ⟨rfl,h⟩
  ·rcases k with k | ⟨rfl,k⟩
   ·exact .inl (UInt8.lt_trans h k)
   ·exact .inl h
  ·rcases k with k | ⟨rfl,k⟩
   ·exact .inl k
   ·exact .inr ⟨rfl,jK u v w h k⟩
theorem qF {a b:List UInt8} (h:Mc a b=false) (k:Mc b a=false):a=b:=by
 have:=aJ a b
 rw [h,k,Bool.false_or] at this
 by_cases e:a=b
 ·exact e
 ·rw [aBv e] at this; cases this
theorem tS {a b:List UInt8} (h:Mc a b=true):Mc b a=false:=by
 cases k:Mc b a with
 | false=>rfl
 | true=>have:=jK _ _ _ h k; rw [pV] at this; cases this
def Qo (x y:ByteArray):Int:=bif Mc (Hq x) (Hq y) then -1 else bif Mc (Hq y) (Hq x) then 1 else 0
theorem bX:Pre Qo where
 anti a b:=by
  unfold Qo
  cases h1:Mc (Hq a) (Hq b) with
  | true=>rw [tS h1]; rfl
  | false=>cases Mc (Hq b) (Hq a) <;> rfl
 tr a b d h1 h2:=by
  have key:∀ x y,Qo x y<=0↔Mc (Hq y) (Hq x)=false:=fun x y=>by
   unfold Qo
   cases h1:Mc (Hq x) (Hq y) with
   | true=>rw [tS h1]; simp
   | false=>cases Mc (Hq y) (Hq x) <;> simp
  rw [key] at *
  cases h3:Mc (Hq d) (Hq a) with
  | false=>rfl
  | true=>
   cases h4:Mc (Hq a) (Hq b) with
   | true=>have:=jK _ _ _ h3 h4; rw [h2] at this; cases this
   | false=>
    rw [qF h4 h1] at h3
    rw [h2] at h3; cases h3
theorem aDx {a b:ByteArray} (h:Hq a=Hq b):a=b:=by
 cases a with | mk a=>cases b with | mk b=>
 unfold Hq at h
 exact congrArg ByteArray.mk (aSy.1 h)
theorem gM {x y:ByteArray} (h:Qo x y=0):x=y:=by
 unfold Qo at h
 cases h1:Mc (Hq x) (Hq y) with
 | true=>rw [h1] at h; cases h
 | false=>
  cases h2:Mc (Hq y) (Hq x) with
  | true=>rw [h1,h2] at h; cases h
  | false=>exact aDx (qF h1 h2)
end
end Go.Proofs.YtbpchmikjiinpaaGreat
