import Derived.Test.YtkoflhimdenjaaaGreatAS
set_option linter.unusedVariables false
set_option linter.unusedSimpArgs false
namespace Go.Proofs.YtkoflhimdenjaaaGreat
structure Pre {α:Type} (c:α->α->Int):Prop where
 anti:∀ a b,c b a=- c a b
 tr:∀ a b d,c a b<=0->c b d<=0->c a d<=0
section
variable {α β:Type} {c c':α->α->Int}
theorem Pre.self (h:Pre c) (a:α):c a a=0:=by have:=h.anti a a; omega
theorem Pre.lt_le (h:Pre c) {a b d:α} (h1:c a b < 0) (h2:c b d<=0):c a d < 0:=by
 have h3:=h.tr a b d (by omega) h2
 by_cases h4:c a d=0
 ·have h5:=h.tr b d a h2 (by have:=h.anti a d; omega)
  have:=h.anti a b
  omega
 ·omega
theorem Pre.le_lt (h:Pre c) {a b d:α} (h1:c a b<=0) (h2:c b d < 0):c a d < 0:=by
 have h3:=h.tr a b d h1 (by omega)
 by_cases h4:c a d=0
 ·have h5:=h.tr d a b (by have:=h.anti a d; omega) h1
  have:=h.anti b d
  omega
 ·omega
def Rv (c c':α->α->Int) (a b:α):Int:=bif decide (c a b=0) then c' a b else c a b
theorem Xf {a b:α} (h:c a b=0):Rv c c' a b=c' a b:=by unfold Rv; rw [aAv h]; rfl
theorem Tl {a b:α} (h:c a b≠0):Rv c c' a b=c a b:=by unfold Rv; rw [aAy h]; rfl
theorem Pre.lex (h:Pre c) (h':Pre c'):Pre (Rv c c') where
 anti a b:=by
  have h1:=h.anti a b
  by_cases hz:c a b=0
  ·rw [Xf hz,Xf (by omega)]; exact h'.anti a b
  ·rw [Tl hz,Tl (by omega)]; exact h1
 tr a b d h1 h2:=by
  by_cases z1:c a b=0
  ·rw [Xf z1] at h1
   by_cases z2:c b d=0
   ·rw [Xf z2] at h2
    have z3:c a d=0:=by
     have e1:=h.tr a b d (by omega) (by omega)
     have e2:=h.tr d b a (by have:=h.anti b d; omega) (by have:=h.anti a b; omega)
     have:=h.anti a d
     omega
    rw [Xf z3]
    exact h'.tr a b d h1 h2
   ·rw [Tl z2] at h2
    have:=h.le_lt (a:=a) (b:=b) (d:=d) (by omega) (by omega)
    rw [Tl (by omega)]
    omega
  ·rw [Tl z1] at h1
   have h2':c b d<=0:=by
    by_cases z2:c b d=0
    ·omega
    ·rw [Tl z2] at h2; exact h2
   have:=h.lt_le (a:=a) (b:=b) (d:=d) (by omega) h2'
   rw [Tl (by omega)]
   omega
theorem Ly {a b:α} (h:Rv c c' a b=0):c a b=0/\c' a b=0:=by
 by_cases hz:c a b=0
 ·rw [Xf hz] at h; exact⟨hz,h⟩
 ·rw [Tl hz] at h; exact absurd h hz
theorem Pre.by_ (f:α->β) {d:β->β->Int} (h:Pre d):Pre fun a b=>d (f a) (f b):=⟨fun a b=>h.anti _ _,fun a b d' h1 h2=>h.tr _ _ _ h1 h2⟩
theorem Pre.lin (h:Pre c) (h0:∀ a b,c a b=0->a=b):U1 fun a b=>decide (c a b < 0) where
 irrefl a:=aAy (by rw [h.self]; omega)
 trans a b d h1 h2:=aAv (h.lt_le (aBs h1) (by have:=aBs h2; omega))
 tot a b h1 h2:=by
  have h1:=aDm h1
  have h2:=aDm h2
  have:=h.anti a b
  exact h0 a b (by omega)
end
def Ul (x y:Int):Int:=bif decide (x < y) then -1 else bif decide (y < x) then 1 else 0
theorem Mw:Pre Ul where
 anti a b:=by
  unfold Ul
  by_cases h1:a < b
  ·rw [aAv h1,aAy (by omega)]; rfl
  ·by_cases h2:b < a
   ·rw [aAv h2,aAy h1]; rfl
   ·rw [aAy h2,aAy h1]; rfl
 tr a b d h1 h2:=by
  have key:∀ x y,Ul x y<=0↔x<=y:=fun x y=>by
   unfold Ul
   by_cases h1:x < y
   ·rw [aAv h1]; simp; omega
   ·by_cases h2:y < x
    ·rw [aAv h2,aAy h1]; simp; omega
    ·rw [aAy h2,aAy h1]; simp; omega
  rw [key] at *
  omega
theorem P0 {x y:Int} (h:Ul x y=0):x=y:=by
 unfold Ul at h
 by_cases h1:x < y
 ·rw [aAv h1] at h; cases h
 ·by_cases h2:y < x
  ·rw [aAv h2,aAy h1] at h; cases h
  ·omega
theorem vN (a:List UInt8):L4 a a=false:=by
 have:=fG a a
 rw [aAv rfl,Bool.or_true] at this
 exact this.symm
theorem lQ:∀ (a b c:List UInt8),L4 a b=true->L4 b c=true->L4 a c=true
 | a,[],c,h,k=>by cases a <;> cases h
 | a,b :: bs,[],h,k=>by cases k
 | [],b :: bs,c :: cs,h,k=>rfl
 | a :: u,b :: v,c :: w,h,k=>by
  simp only [L4,aJf,aJr,aEw,beq_iff_eq] at h k ⊢
  rcases h with h | ⟨rfl,h⟩
  ·rcases k with k | ⟨rfl,k⟩
   ·exact .inl (UInt8.lt_trans h k)
   ·exact .inl h
  ·rcases k with k | ⟨rfl,k⟩
   ·exact .inl k
   ·exact .inr ⟨rfl,lQ u v w h k⟩
theorem mN {a b:List UInt8} (h:L4 a b=false) (k:L4 b a=false):a=b:=by
 have:=fG a b
 rw [h,k,aLf] at this
 by_cases e:a=b
 ·exact e
 ·rw [aAy e] at this; cases this
theorem tY {a b:List UInt8} (h:L4 a b=true):L4 b a=false:=by
 cases k:L4 b a with
 | false=>rfl
 | true=>have:=lQ _ _ _ h k; rw [vN] at this; cases this
def aZ (x y:ByteArray):Int:=bif L4 (Iv x) (Iv y) then -1 else bif L4 (Iv y) (Iv x) then 1 else 0
theorem aN:Pre aZ where
 anti a b:=by
  unfold aZ
  cases h1:L4 (Iv a) (Iv b) with
  | true=>rw [tY h1]; rfl
  | false=>cases L4 (Iv b) (Iv a) <;> rfl
 tr a b d h1 h2:=by
  have key:∀ x y,aZ x y<=0↔L4 (Iv y) (Iv x)=false:=fun x y=>by
   unfold aZ
   cases h1:L4 (Iv x) (Iv y) with
   | true=>rw [tY h1]; simp
   | false=>cases L4 (Iv y) (Iv x) <;> simp
  rw [key] at *
  cases h3:L4 (Iv d) (Iv a) with
  | false=>rfl
  | true=>
   cases h4:L4 (Iv a) (Iv b) with
   | true=>have:=lQ _ _ _ h3 h4; rw [h2] at this; cases this
   | false=>
    rw [mN h4 h1] at h3
    rw [h2] at h3; cases h3
theorem aC4 {a b:ByteArray} (h:Iv a=Iv b):a=b:=by
 cases a with | mk a=>cases b with | mk b=>
 unfold Iv at h
 exact congrArg ByteArray.mk (aKy.1 h)
theorem gK {x y:ByteArray} (h:aZ x y=0):x=y:=by
 unfold aZ at h
 cases h1:L4 (Iv x) (Iv y) with
 | true=>rw [h1] at h; cases h
 | false=>
  cases h2:L4 (Iv y) (Iv x) with
  | true=>rw [h1,h2] at h; cases h
  | false=>exact aC4 (mN h1 h2)
end Go.Proofs.YtkoflhimdenjaaaGreat
