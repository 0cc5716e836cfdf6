import Derived.Test.YtbpchmikjiinpaaGreatZz
import GoSem.Core.View
namespace Go.Proofs.YtbpchmikjiinpaaGreat
theorem oi_ {α:Type} {a b:α} (h:some a=some b):a=b:=Option.some.inj h
open Go
inductive Lp (S R:Type) where
 | next (s:S)
 | done (r:R)
def Zj {S R:Type} (it:S->Option R):Lp S R->Option R
 | .next s=>it s
 | .done r=>some r
def Pn {S R:Type} (body:S->Option (Lp S R)):Nat->S->Option R
 | 0,_=>none
 | n + 1,s=>(body s).bind (Zj (Pn body n))
theorem fD {S R:Type} {body:S->Option (Lp S R)} {r:R}:∀ {n:Nat} {s:S},Pn body n s=some r->Pn body (n + 1) s=some r
 | 0,_,h=>by cases h
 | n + 1,s,h=>by
  unfold Pn at h ⊢
  cases hb:body s with
  | none=>rw [hb] at h; cases h
  | some o=>
   rw [hb] at h
   cases o with
   | next s'=>exact fD (n:=n) h
   | done r'=>exact h
theorem qA {S R:Type} {body:S->Option (Lp S R)} {r:R} {s:S} {n m:Nat} (h:Pn body n s=some r) (hm:n<=m):Pn body m s=some r:=by
 induction hm with
 | refl=>exact h
 | step _ ih=>exact fD ih
open Classical in
noncomputable def B2 {S R:Type} (body:S->Option (Lp S R)) (s:S):Option R:=if h:∃ r,∃ n,Pn body n s=some r then some (Classical.choose h) else none
theorem aL {S R:Type} {body:S->Option (Lp S R)} {s:S} {r:R} {n:Nat} (h:Pn body n s=some r):B2 body s=some r:=by
 have hex:∃ r,∃ n,Pn body n s=some r:=⟨r,n,h⟩
 unfold B2
 rw [dif_pos hex]
 obtain⟨m,hm⟩:=aRy hex
 have h1:=qA h (Nat.le_max_left n m)
 have h2:=qA hm (Nat.le_max_right n m)
 rw [h1] at h2
 exact h2.symm
theorem U0 {S R:Type} {body:S->Option (Lp S R)} {s:S} {r:R} (h:B2 body s=some r):∃ n,Pn body n s=some r:=by
 unfold B2 at h
 split at h
 ·rename_i hex
  injection h with h
  subst h
  exact aRy hex
 ·cases h
theorem Ih {S R:Type} (body:S->Option (Lp S R)) (s:S):B2 body s=(body s).bind (Zj (B2 body)):=by
 cases h:(body s).bind (Zj (B2 body)) with
 | some r=>
  cases hb:body s with
  | none=>rw [hb] at h; cases h
  | some o=>
   rw [hb] at h
   cases o with
   | next s'=>
    obtain⟨n,hn⟩:=U0 (show B2 body s'=some r from h)
    exact aL (n:=n + 1) (by unfold Pn; rw [hb]; exact hn)
   | done r'=>exact aL (n:=1) (by unfold Pn; rw [hb]; exact h)
 | none=>
  cases hl:B2 body s with
  | none=>rfl
  | some r=>
   obtain⟨n,hn⟩:=U0 hl
   cases n with
   | zero=>cases hn
   | succ n=>
    unfold Pn at hn
    cases hb:body s with
    | none=>rw [hb] at hn; cases hn
    | some o=>
     rw [hb] at hn h
     cases o with
     | next s'=>rw [show (some (Lp.next s')).bind (Zj (B2 body))=B2 body s' from rfl,aL hn] at h; cases h
     | done r'=>cases h
theorem rO {S R:Type} {body:S->Option (Lp S R)} {n:Nat} {s:S} {r:R} (h:Pn body n s=some r):∃ m o,n=m + 1/\body s=some o/\Zj (Pn body m) o=some r:=by
 cases n with
 | zero=>cases h
 | succ n=>
  unfold Pn at h
  cases hb:body s with
  | none=>rw [hb] at h; cases h
  | some o=>rw [hb] at h; exact⟨n,o,rfl,rfl,h⟩
theorem wM {S R:Type} {body:S->Option (Lp S R)} (Inv:S->Prop) (μ:S->Nat) (Q:R->Prop) (h:∀ s,Inv s->∃ o,body s=some o/\(match o with | .next s'=>Inv s'/\μ s' < μ s | .done r=>Q r)) (s:S) (hs:Inv s):∃ r,B2 body s=some r/\Q r:=by
 generalize hn:μ s=n
 induction n using Nat.strongRecOn generalizing s with
 | _ n ih=>
  obtain⟨o,h1,h2⟩:=h s hs
  rw [Ih,h1]
  cases o with
  | next s'=>exact ih (μ s') (hn ▸ h2.2) s' h2.1 rfl
  | done r=>exact⟨r,rfl,h2⟩
def Zr {A R:Type} (F:(A->Option R)->A->Option R):Nat->A->Option R
 | 0,_=>none
 | n + 1,a=>F (Zr F n) a
open Classical in
noncomputable def Z2 {A R:Type} (F:(A->Option R)->A->Option R) (a:A):Option R:=if h:∃ r,∃ n,Zr F n a=some r then some (Classical.choose h) else none
theorem sX {A R:Type} {F:(A->Option R)->A->Option R} {a:A} {r:R} (h:Z2 F a=some r):∃ n,Zr F n a=some r:=by
 unfold Z2 at h
 split at h
 ·rename_i hex
  injection h with h
  subst h
  exact aRy hex
 ·cases h
theorem Tu {A R:Type} {F:(A->Option R)->A->Option R} {motive:A->R->Prop} (h:∀ rec:A->Option R,(∀ a r,rec a=some r->motive a r)->∀ a r,F rec a=some r->motive a r) (a:A) (r:R) (G:Z2 F a=some r):motive a r:=by
 obtain⟨n,hn⟩:=sX G
 have key:∀ n a r,Zr F n a=some r->motive a r:=by
  intro n
  induction n with
  | zero=>intro a r h; cases h
  | succ n ih=>intro a r h'; exact h _ ih a r h'
 exact key n a r hn
def Ez {R:Type} (x y:Option R):Prop:=∀ r,x=some r->y=some r
theorem Ez.refl {R:Type} {x:Option R}:Ez x x:=fun _ h=>h
theorem Ez.bind_ {R T:Type} {x y:Option R} {f g:R->Option T} (h:Ez x y) (k:∀ a,Ez (f a) (g a)):Ez (x.bind f) (y.bind g):=fun r hr=>by
 cases hx:x with
 | none=>rw [hx] at hr; cases hr
 | some a=>
  rw [hx] at hr
  rw [h a hx]
  exact k a r hr
theorem Ez.cond_ {R:Type} {b:Bool} {x x' y y':Option R} (h:Ez x x') (k:Ez y y'):Ez (cond b x y) (cond b x' y'):=by cases b <;> assumption
theorem Ez.it {S R:Type} {f g:S->Option (Lp S R)} (h:∀ s,Ez (f s) (g s)):∀ n s,Ez (Pn f n s) (Pn g n s)
 | 0,_=>fun r h=>by cases h
 | n + 1,s=>by
  unfold Pn
  refine Ez.bind_ (h s) fun o=>?_
  cases o with
  | next s'=>exact Ez.it h n s'
  | done r=>exact Ez.refl
theorem Ez.lp {S R:Type} {f g:S->Option (Lp S R)} (h:∀ s,Ez (f s) (g s)) (s:S):Ez (B2 f s) (B2 g s):=fun r hr=>by
 obtain⟨n,hn⟩:=U0 hr
 exact aL (Ez.it h n s r hn)
def Vp {A R:Type} (F:(A->Option R)->A->Option R):Prop:=∀ p q:A->Option R,(∀ a,Ez (p a) (q a))->∀ a,Ez (F p a) (F q a)
theorem fW {A R:Type} {F:(A->Option R)->A->Option R} (hF:Vp F):∀ n a,Ez (Zr F n a) (Zr F (n + 1) a)
 | 0,_=>fun r h=>by cases h
 | n + 1,a=>hF _ _ (fun b=>fW hF n b) a
theorem qD {A R:Type} {F:(A->Option R)->A->Option R} (hF:Vp F) {n m:Nat} (h:n<=m) (a:A):Ez (Zr F n a) (Zr F m a):=by
 induction h with
 | refl=>exact Ez.refl
 | step _ ih=>exact fun r hr=>fW hF _ a r (ih r hr)
theorem qN {A R:Type} {F:(A->Option R)->A->Option R} (hF:Vp F) {n:Nat} {a:A} {r:R} (h:Zr F n a=some r):Z2 F a=some r:=by
 have hex:∃ r,∃ n,Zr F n a=some r:=⟨r,n,h⟩
 unfold Z2
 rw [dif_pos hex]
 obtain⟨m,hm⟩:=aRy hex
 have h1:=qD hF (Nat.le_max_left n m) a _ h
 have h2:=qD hF (Nat.le_max_right n m) a _ hm
 rw [h1] at h2
 exact h2.symm
def up {S R:Type} (x:Option R):Option (Lp S R):=x.map .done
theorem mL {S R:Type} {x:Option R} {o:Lp S R} {it:S->Option R} {r:R} (h:up x=some o) (hn:Zj it o=some r):x=some r:=by
 cases x with
 | none=>cases h
 | some y=>
  injection h with h
  subst h
  exact hn
theorem Ez.up_ {S R:Type} {x y:Option R} (h:Ez x y):Ez (up x:Option (Lp S R)) (up y):=fun r hr=>by
 cases hx:x with
 | none=>rw [hx] at hr; cases hr
 | some a=>rw [hx] at hr; rw [h a hx]; exact hr
theorem Ak {α β:Type} {x:Option α} {f:α->Option β} {b:β} (h:x.bind f=some b):∃ a,x=some a/\f a=some b:=by
 cases x with
 | none=>cases h
 | some a=>exact⟨a,rfl,h⟩
theorem aF4 {α:Type} {b:Bool} {x y:α} {z:α} (hb:b=true) (h:cond b x y=z):x=z:=by subst hb; exact h
theorem aHr {α:Type} {b:Bool} {x y:α} {z:α} (hb:b=false) (h:cond b x y=z):y=z:=by subst hb; exact h
def W (x:Int):Int:=(x + 9223372036854775808) % 18446744073709551616 - 9223372036854775808
theorem Dz {x:Int} (h:-9223372036854775808<=x/\x<=9223372036854775807):W x=x:=by unfold W; omega
theorem pI (x:Int):-9223372036854775808<=W x/\W x<=9223372036854775807:=by unfold W; omega
def u8 (x:Int):UInt8:=UInt8.ofNat (x % 256).toNat
theorem mG (x:Int):((u8 x).toNat:Int)=x % 256:=by
 unfold u8
 have h:(x % 256).toNat < 256:=by omega
 rw [aS2,aSh (by omega)]
 omega
def Bu {α:Type} (l:List α) (i:Int):Option α:=if i < 0 then none else l[i.toNat]?
theorem N4 {α:Type} {l:List α} {i:Int} {x:α} (h:Bu l i=some x):i=(i.toNat:Int):=by
 unfold Bu at h
 split at h
 ·cases h
 ·omega
theorem Dj {α:Type} {l:List α} {i:Int} {x:α} (h:Bu l i=some x):l[i.toNat]?=some x:=by
 unfold Bu at h
 split at h
 ·cases h
 ·exact h
theorem Dr {α:Type} {l:List α} {j:Nat}:Bu l (j:Int)=l[j]?:=by
 unfold Bu
 rw [if_neg (by omega),aK9]
theorem aBk {α:Type} {l:List α} {i:Int} (h:0<=i):Bu l i=l[i.toNat]?:=by
 unfold Bu
 rw [if_neg (by omega)]
def Zo {α:Type} (l:List α) (a b:Int):Option (List α):=if 0<=a/\a<=b/\b<=l.length then some ((l.drop a.toNat).take (b.toNat - a.toNat)) else none
theorem bJ {α:Type} {l m:List α} {a b:Int} (h:Zo l a b=some m):∃ i j:Nat,a=(i:Int)/\b=(j:Int)/\i<=j/\j<=l.length/\m=(l.drop i).take (j - i):=by
 unfold Zo at h
 split at h
 ·rename_i h0
  injection h with h
  exact⟨a.toNat,b.toNat,by omega,by omega,by omega,by omega,h.symm⟩
 ·cases h
def F3 {α:Type} (k:Nat) (l m:List α):Option (List α):=if (l.length + m.length) * k<=140737488355328 then some (l ++ m) else none
theorem sD {α:Type} {k:Nat} {l m x:List α} (h:F3 k l m=some x):(l.length + m.length) * k<=140737488355328/\x=l ++ m:=by
 unfold F3 at h
 split at h
 ·rename_i h0
  injection h with h
  exact⟨h0,h.symm⟩
 ·cases h
def C3 {α:Type} (l:List α) (j:Nat) (x:α):List α:=l.set j x
theorem Re {α:Type} {l m:List α} {a b:Int} (h:Zo l a b=some m):a.toNat + (b.toNat - a.toNat)<=l.length:=by
 unfold Zo at h
 split at h
 ·omega
 ·cases h
theorem cN {b:Bool} (h:b=true):(!b)=false:=by rw [h]; rfl
theorem cV {b:Bool} (h:b=false):(!b)=true:=by rw [h]; rfl
def aKg {α:Type} [Inhabited α] (n:Nat) (l:List α):List α:=(List.range n).map fun i=>l[i]!
def Yg (x y:Int):Option Int:=if y=0 then none else some (x.tmod y)
theorem qS {x y z:Int} (h:Yg x y=some z):y≠0/\z=x.tmod y:=by
 unfold Yg at h
 split at h
 ·cases h
 ·rename_i h0
  injection h with h
  exact⟨h0,h.symm⟩
def Og (x y:Int):Option Int:=if y=0 then none else some (W (x.tdiv y))
theorem qQ {x y z:Int} (h:Og x y=some z):y≠0/\z=W (x.tdiv y):=by
 unfold Og at h
 split at h
 ·cases h
 ·rename_i h0
  injection h with h
  exact⟨h0,h.symm⟩
def uV (a b:ByteArray):Option ByteArray:=if a.size + b.size<=9223372036854775807 then some (a ++ b) else none
theorem tC {a b c:ByteArray} (h:uV a b=some c):a.size + b.size<=9223372036854775807/\c=a ++ b:=by
 unfold uV at h
 split at h
 ·rename_i h0
  injection h with h
  exact⟨h0,h.symm⟩
 ·cases h
def iE (s:ByteArray) (i:Int):Option UInt8:=if i < 0 then none else s.data[i.toNat]?
def rK (k:IntKind) (x y:Int):Int:=k.wrap (BitVec.ofInt k.bits x &&& BitVec.ofInt k.bits y).toNat
def S0 (k:IntKind) (x y:Int):Int:=k.wrap (BitVec.ofInt k.bits x ^^^ BitVec.ofInt k.bits y).toNat
def Vd (k:IntKind) (x y:Int):Option Int:=if y < 0 then none else some (x.fdiv (2 ^ min y.toNat k.bits))
theorem qX {k:IntKind} {x y z:Int} (h:Vd k x y=some z):¬ y < 0/\z=x.fdiv (2 ^ min y.toNat k.bits):=by
 unfold Vd at h
 split at h
 ·cases h
 ·rename_i h0
  injection h with h
  exact⟨h0,h.symm⟩
def dP (k:IntKind) (x y:Int):Option Int:=if y < 0 then none else some (k.wrap (x * 2 ^ min y.toNat k.bits))
theorem sW {k:IntKind} {x y z:Int} (h:dP k x y=some z):¬ y < 0/\z=k.wrap (x * 2 ^ min y.toNat k.bits):=by
 unfold dP at h
 split at h
 ·cases h
 ·rename_i h0
  injection h with h
  exact⟨h0,h.symm⟩
open Classical in
noncomputable def lE {α β:Type} (l:List α) (a b:Option β):Option β:=if l=[] then (if a=b then a else none) else b
theorem aGx {α β:Type} {l:List α} {a b:Option β} {r:β} (h:lE l a b=some r):b=some r:=by
 unfold lE at h
 split at h
 ·split at h
  ·rename_i e; rw [<- e]; exact h
  ·cases h
 ·exact h
theorem aGv {α β:Type} {l:List α} {a b:Option β} {r:β} (hl:l=[]) (h:lE l a b=some r):a=some r:=by
 unfold lE at h
 rw [if_pos hl] at h
 split at h
 ·exact h
 ·cases h
def Hq (s:ByteArray):List UInt8:=s.data.toList
def Mc:List UInt8->List UInt8->Bool
 | _,[]=>false
 | [],_ :: _=>true
 | a :: x,b :: y=>a < b || (a == b && Mc x y)
theorem aJ:∀ (a b:List UInt8),(!(Mc a b || decide (a=b)))=Mc b a
 | [],[]=>rfl
 | [],y :: b=>by simp [Mc]
 | x :: a,[]=>by simp [Mc]
 | x :: a,y :: b=>by
  have ih:=aJ a b
  unfold Mc
  rcases Nat.lt_trichotomy x.toNat y.toNat with h | h | h
  ·have h1:x < y:=h
   have h2:¬ y < x:=fun h'=>by have:y.toNat < x.toNat:=h'; omega
   have h3:y≠x:=fun e=>by subst e; omega
   simp [h1,h2,h3]
  ·have h1:x=y:=UInt8.toNat_inj.1 h
   subst h1
   have h2:¬ x < x:=fun h'=>by have:x.toNat < x.toNat:=h'; omega
   simp [h2]
   simpa using ih
  ·have h1:y < x:=h
   have h2:¬ x < y:=fun h'=>by have:x.toNat < y.toNat:=h'; omega
   have h3:x≠y:=fun e=>by subst e; omega
   simp [h1,h2,h3]
def nX {α:Type} (l:List α) (a m:Nat) (z:α):Option (List α):=if a + m<=l.length then some (l.take a ++ List.replicate m z ++ l.drop (a + m)) else none
theorem tA {α:Type} {l:List α} {a m:Nat} {z:α} {r:List α} (h:nX l a m z=some r):a + m<=l.length/\r=l.take a ++ List.replicate m z ++ l.drop (a + m):=by
 unfold nX at h
 split at h
 ·injection h with h; exact⟨by assumption,h.symm⟩
 ·cases h
def Xa:List UInt8->List UInt8->Int
 | [],[]=>0
 | [],_ :: _=>-1
 | _ :: _,[]=>1
 | x :: a,y :: b=>if x < y then -1 else if y < x then 1 else Xa a b
def sY (a b:ByteArray):Int:=Xa a.data.toList b.data.toList
def iH (s:ByteArray) (c:UInt8):Int:=match (List.range s.size).find? fun i=>s[i]! == c with | some i=>(i:Int) | none=>-1
section
variable {κ ν:Type} [DecidableEq κ]
def Hm (l:List (κ×ν)) (x:κ) (z:ν):ν:=match l.find? fun p=>decide (p.1=x) with | some p=>p.2 | none=>z
def Uf (l:List (κ×ν)) (x:κ):Bool:=l.any fun p=>decide (p.1=x)
def Ma (l:List (κ×ν)) (x:κ) (v:ν):List (κ×ν):=match l.findIdx? fun p=>decide (p.1=x) with | some i=>l.set i (x,v) | none=>l ++ [(x,v)]
end
end Go.Proofs.YtbpchmikjiinpaaGreat
