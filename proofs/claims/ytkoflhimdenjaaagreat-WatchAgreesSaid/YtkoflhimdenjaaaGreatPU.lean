import Derived.Test.YtkoflhimdenjaaaGreatZz
import GoSem.Core.View
namespace Go.Proofs.YtkoflhimdenjaaaGreat
theorem oi_ {α:Type} {a b:α} (h:some a=some b):a=b:=Option.some.inj h
open Go
inductive Lp (S R:Type) where
 | next (s:S)
 | done (r:R)
def Zi {S R:Type} (it:S->Option R):Lp S R->Option R
 | .next s=>it s
 | .done r=>some r
def Pp {S R:Type} (body:S->Option (Lp S R)):Nat->S->Option R
 | 0,_=>none
 | n + 1,s=>(body s).bind (Zi (Pp body n))
theorem cW {S R:Type} {body:S->Option (Lp S R)} {r:R}:∀ {n:Nat} {s:S},Pp body n s=some r->Pp body (n + 1) s=some r
 | 0,_,h=>by cases h
 | n + 1,s,h=>by
  unfold Pp at h ⊢
  cases hb:body s with
  | none=>rw [hb] at h; cases h
  | some o=>
   rw [hb] at h
   cases o with
   | next s'=>exact cW (n:=n) h
   | done r'=>exact h
theorem mZ {S R:Type} {body:S->Option (Lp S R)} {r:R} {s:S} {n m:Nat} (h:Pp body n s=some r) (hm:n<=m):Pp body m s=some r:=by
 induction hm with
 | refl=>exact h
 | step _ ih=>exact cW ih
open Classical in
noncomputable def Cp {S R:Type} (body:S->Option (Lp S R)) (s:S):Option R:=if h:∃ r,∃ n,Pp body n s=some r then some (Classical.choose h) else none
theorem Y4 {S R:Type} {body:S->Option (Lp S R)} {s:S} {r:R} {n:Nat} (h:Pp body n s=some r):Cp body s=some r:=by
 have hex:∃ r,∃ n,Pp body n s=some r:=⟨r,n,h⟩
 unfold Cp
 rw [dif_pos hex]
 obtain⟨m,hm⟩:=aJ5 hex
 have h1:=mZ h (Nat.le_max_left n m)
 have h2:=mZ hm (Nat.le_max_right n m)
 rw [h1] at h2
 exact h2.symm
theorem T2 {S R:Type} {body:S->Option (Lp S R)} {s:S} {r:R} (h:Cp body s=some r):∃ n,Pp body n s=some r:=by
 unfold Cp at h
 split at h
 ·rename_i hex
  injection h with h
  subst h
  exact aJ5 hex
 ·cases h
theorem H2 {S R:Type} (body:S->Option (Lp S R)) (s:S):Cp body s=(body s).bind (Zi (Cp body)):=by
 cases h:(body s).bind (Zi (Cp body)) with
 | some r=>
  cases hb:body s with
  | none=>rw [hb] at h; cases h
  | some o=>
   rw [hb] at h
   cases o with
   | next s'=>
    obtain⟨n,hn⟩:=T2 (show Cp body s'=some r from h)
    exact Y4 (n:=n + 1) (by unfold Pp; rw [hb]; exact hn)
   | done r'=>exact Y4 (n:=1) (by unfold Pp; rw [hb]; exact h)
 | none=>
  cases hl:Cp body s with
  | none=>rfl
  | some r=>
   obtain⟨n,hn⟩:=T2 hl
   cases n with
   | zero=>cases hn
   | succ n=>
    unfold Pp at hn
    cases hb:body s with
    | none=>rw [hb] at hn; cases hn
    | some o=>
     rw [hb] at hn h
     cases o with
     | next s'=>rw [show (some (Lp.next s')).bind (Zi (Cp body))=Cp body s' from rfl,Y4 hn] at h; cases h
     | done r'=>cases h
theorem pQ {S R:Type} {body:S->Option (Lp S R)} {n:Nat} {s:S} {r:R} (h:Pp body n s=some r):∃ m o,n=m + 1/\body s=some o/\Zi (Pp body m) o=some r:=by
 cases n with
 | zero=>cases h
 | succ n=>
  unfold Pp at h
  cases hb:body s with
  | none=>rw [hb] at h; cases h
  | some o=>rw [hb] at h; exact⟨n,o,rfl,rfl,h⟩
theorem qI {S R:Type} {body:S->Option (Lp S R)} (Inv:S->Prop) (μ:S->Nat) (Q:R->Prop) (h:∀ s,Inv s->∃ o,body s=some o/\(match o with | .next s'=>Inv s'/\μ s' < μ s | .done r=>Q r)) (s:S) (hs:Inv s):∃ r,Cp body s=some r/\Q r:=by
 generalize hn:μ s=n
 induction n using Nat.strongRecOn generalizing s with
 | _ n ih=>
  obtain⟨o,h1,h2⟩:=h s hs
  rw [H2,h1]
  cases o with
  | next s'=>exact ih (μ s') (hn ▸ h2.2) s' h2.1 rfl
  | done r=>exact⟨r,rfl,h2⟩
def Yb {A R:Type} (F:(A->Option R)->A->Option R):Nat->A->Option R
 | 0,_=>none
 | n + 1,a=>F (Yb F n) a
open Classical in
noncomputable def Ys {A R:Type} (F:(A->Option R)->A->Option R) (a:A):Option R:=if h:∃ r,∃ n,Yb F n a=some r then some (Classical.choose h) else none
theorem pD {A R:Type} {F:(A->Option R)->A->Option R} {a:A} {r:R} (h:Ys F a=some r):∃ n,Yb F n a=some r:=by
 unfold Ys at h
 split at h
 ·rename_i hex
  injection h with h
  subst h
  exact aJ5 hex
 ·cases h
theorem Tf {A R:Type} {F:(A->Option R)->A->Option R} {motive:A->R->Prop} (h:∀ rec:A->Option R,(∀ a r,rec a=some r->motive a r)->∀ a r,F rec a=some r->motive a r) (a:A) (r:R) (G:Ys F a=some r):motive a r:=by
 obtain⟨n,hn⟩:=pD G
 have key:∀ n a r,Yb F n a=some r->motive a r:=by
  intro n
  induction n with
  | zero=>intro a r h; cases h
  | succ n ih=>intro a r h'; exact h _ ih a r h'
 exact key n a r hn
def Fe {R:Type} (x y:Option R):Prop:=∀ r,x=some r->y=some r
theorem Fe.refl {R:Type} {x:Option R}:Fe x x:=fun _ h=>h
theorem Fe.bind_ {R T:Type} {x y:Option R} {f g:R->Option T} (h:Fe x y) (k:∀ a,Fe (f a) (g a)):Fe (x.bind f) (y.bind g):=fun r hr=>by
 cases hx:x with
 | none=>rw [hx] at hr; cases hr
 | some a=>
  rw [hx] at hr
  rw [h a hx]
  exact k a r hr
theorem Fe.cond_ {R:Type} {b:Bool} {x x' y y':Option R} (h:Fe x x') (k:Fe y y'):Fe (cond b x y) (cond b x' y'):=by cases b <;> assumption
theorem Fe.it {S R:Type} {f g:S->Option (Lp S R)} (h:∀ s,Fe (f s) (g s)):∀ n s,Fe (Pp f n s) (Pp g n s)
 | 0,_=>fun r h=>by cases h
 | n + 1,s=>by
  unfold Pp
  refine Fe.bind_ (h s) fun o=>?_
  cases o with
  | next s'=>exact Fe.it h n s'
  | done r=>exact Fe.refl
theorem Fe.lp {S R:Type} {f g:S->Option (Lp S R)} (h:∀ s,Fe (f s) (g s)) (s:S):Fe (Cp f s) (Cp g s):=fun r hr=>by
 obtain⟨n,hn⟩:=T2 hr
 exact Y4 (Fe.it h n s r hn)
def Uz {A R:Type} (F:(A->Option R)->A->Option R):Prop:=∀ p q:A->Option R,(∀ a,Fe (p a) (q a))->∀ a,Fe (F p a) (F q a)
theorem cV {A R:Type} {F:(A->Option R)->A->Option R} (hF:Uz F):∀ n a,Fe (Yb F n a) (Yb F (n + 1) a)
 | 0,_=>fun r h=>by cases h
 | n + 1,a=>hF _ _ (fun b=>cV hF n b) a
theorem nI {A R:Type} {F:(A->Option R)->A->Option R} (hF:Uz F) {n m:Nat} (h:n<=m) (a:A):Fe (Yb F n a) (Yb F m a):=by
 induction h with
 | refl=>exact Fe.refl
 | step _ ih=>exact fun r hr=>cV hF _ a r (ih r hr)
theorem mX {A R:Type} {F:(A->Option R)->A->Option R} (hF:Uz F) {n:Nat} {a:A} {r:R} (h:Yb F n a=some r):Ys F a=some r:=by
 have hex:∃ r,∃ n,Yb F n a=some r:=⟨r,n,h⟩
 unfold Ys
 rw [dif_pos hex]
 obtain⟨m,hm⟩:=aJ5 hex
 have h1:=nI hF (Nat.le_max_left n m) a _ h
 have h2:=nI hF (Nat.le_max_right n m) a _ hm
 rw [h1] at h2
 exact h2.symm
def up {S R:Type} (x:Option R):Option (Lp S R):=x.map .done
theorem Ce {S R:Type} {x:Option R} {o:Lp S R} {it:S->Option R} {r:R} (h:up x=some o) (hn:Zi it o=some r):x=some r:=by
 cases x with
 | none=>cases h
 | some y=>
  injection h with h
  subst h
  exact hn
theorem Fe.up_ {S R:Type} {x y:Option R} (h:Fe x y):Fe (up x:Option (Lp S R)) (up y):=fun r hr=>by
 cases hx:x with
 | none=>rw [hx] at hr; cases hr
 | some a=>rw [hx] at hr; rw [h a hx]; exact hr
theorem Ab {α β:Type} {x:Option α} {f:α->Option β} {b:β} (h:x.bind f=some b):∃ a,x=some a/\f a=some b:=by
 cases x with
 | none=>cases h
 | some a=>exact⟨a,rfl,h⟩
theorem aCx {α:Type} {b:Bool} {x y:α} {z:α} (hb:b=true) (h:cond b x y=z):x=z:=by subst hb; exact h
theorem aEb {α:Type} {b:Bool} {x y:α} {z:α} (hb:b=false) (h:cond b x y=z):y=z:=by subst hb; exact h
def W (x:Int):Int:=(x + 9223372036854775808) % 18446744073709551616 - 9223372036854775808
theorem Ex {x:Int} (h:-9223372036854775808<=x/\x<=9223372036854775807):W x=x:=by unfold W; omega
theorem nP (x:Int):-9223372036854775808<=W x/\W x<=9223372036854775807:=by unfold W; omega
def u8 (x:Int):UInt8:=UInt8.ofNat (x % 256).toNat
theorem hX (x:Int):((u8 x).toNat:Int)=x % 256:=by
 unfold u8
 have h:(x % 256).toNat < 256:=by omega
 rw [aK4,aKc (by omega)]
 omega
def B5 {α:Type} (l:List α) (i:Int):Option α:=if i < 0 then none else l[i.toNat]?
theorem Rn {α:Type} {l:List α} {i:Int} {x:α} (h:B5 l i=some x):i=(i.toNat:Int):=by
 unfold B5 at h
 split at h
 ·cases h
 ·omega
theorem B3 {α:Type} {l:List α} {i:Int} {x:α} (h:B5 l i=some x):l[i.toNat]?=some x:=by
 unfold B5 at h
 split at h
 ·cases h
 ·exact h
theorem Hx {α:Type} {l:List α} {j:Nat}:B5 l (j:Int)=l[j]?:=by
 unfold B5
 rw [if_neg (by omega),aId]
theorem wD {α:Type} {l:List α} {i:Int} (h:0<=i):B5 l i=l[i.toNat]?:=by
 unfold B5
 rw [if_neg (by omega)]
def U0 {α:Type} (l:List α) (a b:Int):Option (List α):=if 0<=a/\a<=b/\b<=l.length then some ((l.drop a.toNat).take (b.toNat - a.toNat)) else none
theorem Wn {α:Type} {l m:List α} {a b:Int} (h:U0 l a b=some m):∃ i j:Nat,a=(i:Int)/\b=(j:Int)/\i<=j/\j<=l.length/\m=(l.drop i).take (j - i):=by
 unfold U0 at h
 split at h
 ·rename_i h0
  injection h with h
  exact⟨a.toNat,b.toNat,by omega,by omega,by omega,by omega,h.symm⟩
 ·cases h
def Ib {α:Type} (k:Nat) (l m:List α):Option (List α):=if (l.length + m.length) * k<=140737488355328 then some (l ++ m) else none
theorem pF {α:Type} {k:Nat} {l m x:List α} (h:Ib k l m=some x):(l.length + m.length) * k<=140737488355328/\x=l ++ m:=by
 unfold Ib at h
 split at h
 ·rename_i h0
  injection h with h
  exact⟨h0,h.symm⟩
 ·cases h
def C2 {α:Type} (l:List α) (j:Nat) (x:α):List α:=l.set j x
theorem vS {α:Type} {l:List α} {j:Nat} {x x':α} (h:l[j]?=some x):(C2 l j x')[j]?=some x':=by
 unfold C2
 rw [aK8 (aBn.1 h).1]
theorem sQ {α:Type} {l m:List α} {a b:Int} (h:U0 l a b=some m):a.toNat + (b.toNat - a.toNat)<=l.length:=by
 unfold U0 at h
 split at h
 ·omega
 ·cases h
theorem nE {b:Bool} (h:b=true):(!b)=false:=by rw [h]; rfl
theorem nL {b:Bool} (h:b=false):(!b)=true:=by rw [h]; rfl
def aGq {α:Type} [Inhabited α] (n:Nat) (l:List α):List α:=(List.range n).map fun i=>l[i]!
def Wy (x y:Int):Option Int:=if y=0 then none else some (x.tmod y)
theorem pM {x y z:Int} (h:Wy x y=some z):y≠0/\z=x.tmod y:=by
 unfold Wy at h
 split at h
 ·cases h
 ·rename_i h0
  injection h with h
  exact⟨h0,h.symm⟩
def M2 (x y:Int):Option Int:=if y=0 then none else some (W (x.tdiv y))
theorem pE {x y z:Int} (h:M2 x y=some z):y≠0/\z=W (x.tdiv y):=by
 unfold M2 at h
 split at h
 ·cases h
 ·rename_i h0
  injection h with h
  exact⟨h0,h.symm⟩
def fY (s:ByteArray) (i:Int):Option UInt8:=if i < 0 then none else s.data[i.toNat]?
def gY (k:IntKind) (x y:Int):Int:=k.wrap (BitVec.ofInt k.bits x &&& BitVec.ofInt k.bits y).toNat
def Qy (k:IntKind) (x y:Int):Int:=k.wrap (BitVec.ofInt k.bits x ^^^ BitVec.ofInt k.bits y).toNat
def Uo (k:IntKind) (x y:Int):Option Int:=if y < 0 then none else some (x.fdiv (2 ^ min y.toNat k.bits))
theorem oA {k:IntKind} {x y z:Int} (h:Uo k x y=some z):¬ y < 0/\z=x.fdiv (2 ^ min y.toNat k.bits):=by
 unfold Uo at h
 split at h
 ·cases h
 ·rename_i h0
  injection h with h
  exact⟨h0,h.symm⟩
def cD (k:IntKind) (x y:Int):Option Int:=if y < 0 then none else some (k.wrap (x * 2 ^ min y.toNat k.bits))
theorem pH {k:IntKind} {x y z:Int} (h:cD k x y=some z):¬ y < 0/\z=k.wrap (x * 2 ^ min y.toNat k.bits):=by
 unfold cD at h
 split at h
 ·cases h
 ·rename_i h0
  injection h with h
  exact⟨h0,h.symm⟩
open Classical in
noncomputable def jI {α β:Type} (l:List α) (a b:Option β):Option β:=if l=[] then (if a=b then a else none) else b
theorem aBq {α β:Type} {l:List α} {a b:Option β} {r:β} (h:jI l a b=some r):b=some r:=by
 unfold jI at h
 split at h
 ·split at h
  ·rename_i e; rw [<- e]; exact h
  ·cases h
 ·exact h
theorem aAj {α β:Type} {l:List α} {a b:Option β} {r:β} (hl:l=[]) (h:jI l a b=some r):a=some r:=by
 unfold jI at h
 rw [if_pos hl] at h
 split at h
 ·exact h
 ·cases h
def Iv (s:ByteArray):List UInt8:=s.data.toList
def L4:List UInt8->List UInt8->Bool
 | _,[]=>false
 | [],_ :: _=>true
 | a :: x,b :: y=>a < b || (a == b && L4 x y)
theorem fG:∀ (a b:List UInt8),(!(L4 a b || decide (a=b)))=L4 b a
 | [],[]=>rfl
 | [],y :: b=>by simp [L4]
 | x :: a,[]=>by simp [L4]
 | x :: a,y :: b=>by
  have ih:=fG a b
  unfold L4
  rcases Nat.lt_trichotomy x.toNat y.toNat with h | h | h
  ·have h1:x < y:=h
   have h2:¬ y < x:=fun h'=>by have:y.toNat < x.toNat:=h'; omega
   have h3:y≠x:=fun e=>by subst e; omega
   simp [h1,h2,h3]
  ·have h1:x=y:=UInt8.toNat_inj.1 h
   subst h1
   have h2:¬ x < x:=fun h'=>by have:x.toNat < x.toNat:=h'; omega
   simp [h2]
   simpa using ih
  ·have h1:y < x:=h
   have h2:¬ x < y:=fun h'=>by have:x.toNat < y.toNat:=h'; omega
   have h3:x≠y:=fun e=>by subst e; omega
   simp [h1,h2,h3]
def lO {α:Type} (l:List α) (a m:Nat) (z:α):Option (List α):=if a + m<=l.length then some (l.take a ++ List.replicate m z ++ l.drop (a + m)) else none
theorem oF {α:Type} {l:List α} {a m:Nat} {z:α} {r:List α} (h:lO l a m z=some r):a + m<=l.length/\r=l.take a ++ List.replicate m z ++ l.drop (a + m):=by
 unfold lO at h
 split at h
 ·injection h with h; exact⟨by assumption,h.symm⟩
 ·cases h
def Vy:List UInt8->List UInt8->Int
 | [],[]=>0
 | [],_ :: _=>-1
 | _ :: _,[]=>1
 | x :: a,y :: b=>if x < y then -1 else if y < x then 1 else Vy a b
def pU (a b:ByteArray):Int:=Vy a.data.toList b.data.toList
def dS (s:ByteArray) (c:UInt8):Int:=match (List.range s.size).find? fun i=>s[i]! == c with | some i=>(i:Int) | none=>-1
section
variable {κ ν:Type} [DecidableEq κ]
def G7 (l:List (κ×ν)) (x:κ) (z:ν):ν:=match l.find? fun p=>decide (p.1=x) with | some p=>p.2 | none=>z
def Tp (l:List (κ×ν)) (x:κ):Bool:=l.any fun p=>decide (p.1=x)
def K5 (l:List (κ×ν)) (x:κ) (v:ν):List (κ×ν):=match l.findIdx? fun p=>decide (p.1=x) with | some i=>l.set i (x,v) | none=>l ++ [(x,v)]
end
end Go.Proofs.YtkoflhimdenjaaaGreat
