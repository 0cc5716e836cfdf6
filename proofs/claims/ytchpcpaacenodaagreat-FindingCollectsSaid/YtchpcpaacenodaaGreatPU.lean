import Derived.Test.YtchpcpaacenodaaGreatZz
import GoSem.Core.View
namespace Go.Proofs.YtchpcpaacenodaaGreat
theorem oi_ {α:Type} {a b:α} (h:some a=some b):a=b:=Option.some.inj h
open Go
inductive Lp (S R:Type) where
 | next (s:S)
 | done (r:R)
def bG {S R:Type} (it:S->Option R):Lp S R->Option R
 | .next s=>it s
 | .done r=>some r
def Og {S R:Type} (body:S->Option (Lp S R)):Nat->S->Option R
 | 0,_=>none
 | n + 1,s=>(body s).bind (bG (Og body n))
theorem eF {S R:Type} {body:S->Option (Lp S R)} {r:R}:∀ {n:Nat} {s:S},Og body n s=some r->Og body (n + 1) s=some r
 | 0,_,h=>by cases h
 | n + 1,s,h=>by
  unfold Og at h ⊢
  cases hb:body s with
  | none=>rw [hb] at h; cases h
  | some o=>
   rw [hb] at h
   cases o with
   | next s'=>exact eF (n:=n) h
   | done r'=>exact h
theorem nL {S R:Type} {body:S->Option (Lp S R)} {r:R} {s:S} {n m:Nat} (h:Og body n s=some r) (hm:n<=m):Og body m s=some r:=by
 induction hm with
 | refl=>exact h
 | step _ ih=>exact eF ih
open Classical in
noncomputable def Cl {S R:Type} (body:S->Option (Lp S R)) (s:S):Option R:=if h:∃ r,∃ n,Og body n s=some r then some (Classical.choose h) else none
theorem Zk {S R:Type} {body:S->Option (Lp S R)} {s:S} {r:R} {n:Nat} (h:Og body n s=some r):Cl body s=some r:=by
 have hex:∃ r,∃ n,Og body n s=some r:=⟨r,n,h⟩
 unfold Cl
 rw [dif_pos hex]
 obtain⟨m,hm⟩:=aI4 hex
 have h1:=nL h (Nat.le_max_left n m)
 have h2:=nL hm (Nat.le_max_right n m)
 rw [h1] at h2
 exact h2.symm
theorem Ul {S R:Type} {body:S->Option (Lp S R)} {s:S} {r:R} (h:Cl body s=some r):∃ n,Og body n s=some r:=by
 unfold Cl at h
 split at h
 ·rename_i hex
  injection h with h
  subst h
  exact aI4 hex
 ·cases h
theorem H5 {S R:Type} (body:S->Option (Lp S R)) (s:S):Cl body s=(body s).bind (bG (Cl body)):=by
 cases h:(body s).bind (bG (Cl body)) with
 | some r=>
  cases hb:body s with
  | none=>rw [hb] at h; cases h
  | some o=>
   rw [hb] at h
   cases o with
   | next s'=>
    obtain⟨n,hn⟩:=Ul (show Cl body s'=some r from h)
    exact Zk (n:=n + 1) (by unfold Og; rw [hb]; exact hn)
   | done r'=>exact Zk (n:=1) (by unfold Og; rw [hb]; exact h)
 | none=>
  cases hl:Cl body s with
  | none=>rfl
  | some r=>
   obtain⟨n,hn⟩:=Ul hl
   cases n with
   | zero=>cases hn
   | succ n=>
    unfold Og at hn
    cases hb:body s with
    | none=>rw [hb] at hn; cases hn
    | some o=>
     rw [hb] at hn h
     cases o with
     | next s'=>rw [show (some (Lp.next s')).bind (bG (Cl body))=Cl body s' from rfl,Zk hn] at h; cases h
     | done r'=>cases h
theorem qL {S R:Type} {body:S->Option (Lp S R)} {n:Nat} {s:S} {r:R} (h:Og body n s=some r):∃ m o,n=m + 1/\body s=some o/\bG (Og body m) o=some r:=by
 cases n with
 | zero=>cases h
 | succ n=>
  unfold Og at h
  cases hb:body s with
  | none=>rw [hb] at h; cases h
  | some o=>rw [hb] at h; exact⟨n,o,rfl,rfl,h⟩
theorem uM {S R:Type} {body:S->Option (Lp S R)} (Inv:S->Prop) (μ:S->Nat) (Q:R->Prop) (h:∀ s,Inv s->∃ o,body s=some o/\(match o with | .next s'=>Inv s'/\μ s' < μ s | .done r=>Q r)) (s:S) (hs:Inv s):∃ r,Cl body s=some r/\Q r:=by
 generalize hn:μ s=n
 induction n using Nat.strongRecOn generalizing s with
 | _ n ih=>
  obtain⟨o,h1,h2⟩:=h s hs
  rw [H5,h1]
  cases o with
  | next s'=>exact ih (μ s') (hn ▸ h2.2) s' h2.1 rfl
  | done r=>exact⟨r,rfl,h2⟩
def Y9 {A R:Type} (F:(A->Option R)->A->Option R):Nat->A->Option R
 | 0,_=>none
 | n + 1,a=>F (Y9 F n) a
open Classical in
noncomputable def Yz {A R:Type} (F:(A->Option R)->A->Option R) (a:A):Option R:=if h:∃ r,∃ n,Y9 F n a=some r then some (Classical.choose h) else none
theorem pV {A R:Type} {F:(A->Option R)->A->Option R} {a:A} {r:R} (h:Yz F a=some r):∃ n,Y9 F n a=some r:=by
 unfold Yz at h
 split at h
 ·rename_i hex
  injection h with h
  subst h
  exact aI4 hex
 ·cases h
theorem Tr {A R:Type} {F:(A->Option R)->A->Option R} {motive:A->R->Prop} (h:∀ rec:A->Option R,(∀ a r,rec a=some r->motive a r)->∀ a r,F rec a=some r->motive a r) (a:A) (r:R) (G:Yz F a=some r):motive a r:=by
 obtain⟨n,hn⟩:=pV G
 have key:∀ n a r,Y9 F n a=some r->motive a r:=by
  intro n
  induction n with
  | zero=>intro a r h; cases h
  | succ n ih=>intro a r h'; exact h _ ih a r h'
 exact key n a r hn
def Hb {R:Type} (x y:Option R):Prop:=∀ r,x=some r->y=some r
theorem Hb.refl {R:Type} {x:Option R}:Hb x x:=fun _ h=>h
theorem Hb.bind_ {R T:Type} {x y:Option R} {f g:R->Option T} (h:Hb x y) (k:∀ a,Hb (f a) (g a)):Hb (x.bind f) (y.bind g):=fun r hr=>by
 cases hx:x with
 | none=>rw [hx] at hr; cases hr
 | some a=>
  rw [hx] at hr
  rw [h a hx]
  exact k a r hr
theorem Hb.cond_ {R:Type} {b:Bool} {x x' y y':Option R} (h:Hb x x') (k:Hb y y'):Hb (cond b x y) (cond b x' y'):=by cases b <;> assumption
theorem Hb.it {S R:Type} {f g:S->Option (Lp S R)} (h:∀ s,Hb (f s) (g s)):∀ n s,Hb (Og f n s) (Og g n s)
 | 0,_=>fun r h=>by cases h
 | n + 1,s=>by
  unfold Og
  refine Hb.bind_ (h s) fun o=>?_
  cases o with
  | next s'=>exact Hb.it h n s'
  | done r=>exact Hb.refl
theorem Hb.lp {S R:Type} {f g:S->Option (Lp S R)} (h:∀ s,Hb (f s) (g s)) (s:S):Hb (Cl f s) (Cl g s):=fun r hr=>by
 obtain⟨n,hn⟩:=Ul hr
 exact Zk (Hb.it h n s r hn)
def Vf {A R:Type} (F:(A->Option R)->A->Option R):Prop:=∀ p q:A->Option R,(∀ a,Hb (p a) (q a))->∀ a,Hb (F p a) (F q a)
theorem eG {A R:Type} {F:(A->Option R)->A->Option R} (hF:Vf F):∀ n a,Hb (Y9 F n a) (Y9 F (n + 1) a)
 | 0,_=>fun r h=>by cases h
 | n + 1,a=>hF _ _ (fun b=>eG hF n b) a
theorem oE {A R:Type} {F:(A->Option R)->A->Option R} (hF:Vf F) {n m:Nat} (h:n<=m) (a:A):Hb (Y9 F n a) (Y9 F m a):=by
 induction h with
 | refl=>exact Hb.refl
 | step _ ih=>exact fun r hr=>eG hF _ a r (ih r hr)
theorem mO {A R:Type} {F:(A->Option R)->A->Option R} (hF:Vf F) {n:Nat} {a:A} {r:R} (h:Y9 F n a=some r):Yz F a=some r:=by
 have hex:∃ r,∃ n,Y9 F n a=some r:=⟨r,n,h⟩
 unfold Yz
 rw [dif_pos hex]
 obtain⟨m,hm⟩:=aI4 hex
 have h1:=oE hF (Nat.le_max_left n m) a _ h
 have h2:=oE hF (Nat.le_max_right n m) a _ hm
 rw [h1] at h2
 exact h2.symm
def up {S R:Type} (x:Option R):Option (Lp S R):=x.map .done
theorem Cd {S R:Type} {x:Option R} {o:Lp S R} {it:S->Option R} {r:R} (h:up x=some o) (hn:bG it o=some r):x=some r:=by
 cases x with
 | none=>cases h
 | some y=>
  injection h with h
  subst h
  exact hn
theorem Hb.up_ {S R:Type} {x y:Option R} (h:Hb x y):Hb (up x:Option (Lp S R)) (up y):=fun r hr=>by
 cases hx:x with
 | none=>rw [hx] at hr; cases hr
 | some a=>rw [hx] at hr; rw [h a hx]; exact hr
theorem Ab {α β:Type} {x:Option α} {f:α->Option β} {b:β} (h:x.bind f=some b):∃ a,x=some a/\f a=some b:=by
 cases x with
 | none=>cases h
 | some a=>exact⟨a,rfl,h⟩
theorem aAq {α:Type} {b:Bool} {x y:α} {z:α} (hb:b=true) (h:cond b x y=z):x=z:=by subst hb; exact h
theorem aCq {α:Type} {b:Bool} {x y:α} {z:α} (hb:b=false) (h:cond b x y=z):y=z:=by subst hb; exact h
def W (x:Int):Int:=(x + 9223372036854775808) % 18446744073709551616 - 9223372036854775808
theorem Es {x:Int} (h:-9223372036854775808<=x/\x<=9223372036854775807):W x=x:=by unfold W; omega
theorem oN (x:Int):-9223372036854775808<=W x/\W x<=9223372036854775807:=by unfold W; omega
def u8 (x:Int):UInt8:=UInt8.ofNat (x % 256).toNat
theorem jE (x:Int):((u8 x).toNat:Int)=x % 256:=by
 unfold u8
 have h:(x % 256).toNat < 256:=by omega
 rw [aJ2,aJe (by omega)]
 omega
def B8 {α:Type} (l:List α) (i:Int):Option α:=if i < 0 then none else l[i.toNat]?
theorem Up {α:Type} {l:List α} {i:Int} {x:α} (h:B8 l i=some x):i=(i.toNat:Int):=by
 unfold B8 at h
 split at h
 ·cases h
 ·omega
theorem Bq {α:Type} {l:List α} {i:Int} {x:α} (h:B8 l i=some x):l[i.toNat]?=some x:=by
 unfold B8 at h
 split at h
 ·cases h
 ·exact h
theorem D6 {α:Type} {l:List α} {j:Nat}:B8 l (j:Int)=l[j]?:=by
 unfold B8
 rw [if_neg (by omega),aH1]
theorem yG {α:Type} {l:List α} {i:Int} (h:0<=i):B8 l i=l[i.toNat]?:=by
 unfold B8
 rw [if_neg (by omega)]
def bZ {α:Type} (l:List α) (a b:Int):Option (List α):=if 0<=a/\a<=b/\b<=l.length then some ((l.drop a.toNat).take (b.toNat - a.toNat)) else none
theorem Z7 {α:Type} {l m:List α} {a b:Int} (h:bZ l a b=some m):∃ i j:Nat,a=(i:Int)/\b=(j:Int)/\i<=j/\j<=l.length/\m=(l.drop i).take (j - i):=by
 unfold bZ at h
 split at h
 ·rename_i h0
  injection h with h
  exact⟨a.toNat,b.toNat,by omega,by omega,by omega,by omega,h.symm⟩
 ·cases h
def Hh {α:Type} (k:Nat) (l m:List α):Option (List α):=if (l.length + m.length) * k<=140737488355328 then some (l ++ m) else none
theorem pN {α:Type} {k:Nat} {l m x:List α} (h:Hh k l m=some x):(l.length + m.length) * k<=140737488355328/\x=l ++ m:=by
 unfold Hh at h
 split at h
 ·rename_i h0
  injection h with h
  exact⟨h0,h.symm⟩
 ·cases h
def Db {α:Type} (l:List α) (j:Nat) (x:α):List α:=l.set j x
theorem Ry {α:Type} {l m:List α} {a b:Int} (h:bZ l a b=some m):a.toNat + (b.toNat - a.toNat)<=l.length:=by
 unfold bZ at h
 split at h
 ·omega
 ·cases h
theorem oM {b:Bool} (h:b=true):(!b)=false:=by rw [h]; rfl
theorem oI {b:Bool} (h:b=false):(!b)=true:=by rw [h]; rfl
def aF6 {α:Type} [Inhabited α] (n:Nat) (l:List α):List α:=(List.range n).map fun i=>l[i]!
def Xu (x y:Int):Option Int:=if y=0 then none else some (x.tmod y)
theorem pE {x y z:Int} (h:Xu x y=some z):y≠0/\z=x.tmod y:=by
 unfold Xu at h
 split at h
 ·cases h
 ·rename_i h0
  injection h with h
  exact⟨h0,h.symm⟩
def M1 (x y:Int):Option Int:=if y=0 then none else some (W (x.tdiv y))
theorem pH {x y z:Int} (h:M1 x y=some z):y≠0/\z=W (x.tdiv y):=by
 unfold M1 at h
 split at h
 ·cases h
 ·rename_i h0
  injection h with h
  exact⟨h0,h.symm⟩
def sN (a b:ByteArray):Option ByteArray:=if a.size + b.size<=9223372036854775807 then some (a ++ b) else none
theorem pM {a b c:ByteArray} (h:sN a b=some c):a.size + b.size<=9223372036854775807/\c=a ++ b:=by
 unfold sN at h
 split at h
 ·rename_i h0
  injection h with h
  exact⟨h0,h.symm⟩
 ·cases h
def gW (s:ByteArray) (i:Int):Option UInt8:=if i < 0 then none else s.data[i.toNat]?
def jI (k:IntKind) (x y:Int):Int:=k.wrap (BitVec.ofInt k.bits x &&& BitVec.ofInt k.bits y).toNat
def Rq (k:IntKind) (x y:Int):Int:=k.wrap (BitVec.ofInt k.bits x ^^^ BitVec.ofInt k.bits y).toNat
def Qc (k:IntKind) (x y:Int):Option Int:=if y < 0 then none else some (x.fdiv (2 ^ min y.toNat k.bits))
theorem pD {k:IntKind} {x y z:Int} (h:Qc k x y=some z):¬ y < 0/\z=x.fdiv (2 ^ min y.toNat k.bits):=by
 unfold Qc at h
 split at h
 ·cases h
 ·rename_i h0
  injection h with h
  exact⟨h0,h.symm⟩
def cK (k:IntKind) (x y:Int):Option Int:=if y < 0 then none else some (k.wrap (x * 2 ^ min y.toNat k.bits))
theorem qJ {k:IntKind} {x y z:Int} (h:cK k x y=some z):¬ y < 0/\z=k.wrap (x * 2 ^ min y.toNat k.bits):=by
 unfold cK at h
 split at h
 ·cases h
 ·rename_i h0
  injection h with h
  exact⟨h0,h.symm⟩
open Classical in
noncomputable def kF {α β:Type} (l:List α) (a b:Option β):Option β:=if l=[] then (if a=b then a else none) else b
theorem aA6 {α β:Type} {l:List α} {a b:Option β} {r:β} (h:kF l a b=some r):b=some r:=by
 unfold kF at h
 split at h
 ·split at h
  ·rename_i e; rw [<- e]; exact h
  ·cases h
 ·exact h
theorem aBc {α β:Type} {l:List α} {a b:Option β} {r:β} (hl:l=[]) (h:kF l a b=some r):a=some r:=by
 unfold kF at h
 rw [if_pos hl] at h
 split at h
 ·exact h
 ·cases h
def Hg (s:ByteArray):List UInt8:=s.data.toList
def Kz:List UInt8->List UInt8->Bool
 | _,[]=>false
 | [],_ :: _=>true
 | a :: x,b :: y=>a < b || (a == b && Kz x y)
theorem Zf:∀ (a b:List UInt8),(!(Kz a b || decide (a=b)))=Kz b a
 | [],[]=>rfl
 | [],y :: b=>by simp [Kz]
 | x :: a,[]=>by simp [Kz]
 | x :: a,y :: b=>by
  have ih:=Zf a b
  unfold Kz
  rcases Nat.lt_trichotomy x.toNat y.toNat with h | h | h
  ·have h1:x < y:=h
   have h2:¬ y < x:=fun h'=>by have:y.toNat < x.toNat:=h'; omega
   have h3:y≠x:=fun e=>by subst e; omega
   simp [h1,h2,h3]
  ·have h1:x=y:=aKb.1 h
   subst h1
   have h2:¬ x < x:=fun h'=>by have:x.toNat < x.toNat:=h'; omega
   simp [h2]
   simpa using ih
  ·have h1:y < x:=h
   have h2:¬ x < y:=fun h'=>by have:x.toNat < y.toNat:=h'; omega
   have h3:x≠y:=fun e=>by subst e; omega
   simp [h1,h2,h3]
def sC {α:Type} (l:List α) (a m:Nat) (z:α):Option (List α):=if a + m<=l.length then some (l.take a ++ List.replicate m z ++ l.drop (a + m)) else none
theorem qA {α:Type} {l:List α} {a m:Nat} {z:α} {r:List α} (h:sC l a m z=some r):a + m<=l.length/\r=l.take a ++ List.replicate m z ++ l.drop (a + m):=by
 unfold sC at h
 split at h
 ·injection h with h; exact⟨by assumption,h.symm⟩
 ·cases h
def Wu:List UInt8->List UInt8->Int
 | [],[]=>0
 | [],_ :: _=>-1
 | _ :: _,[]=>1
 | x :: a,y :: b=>if x < y then -1 else if y < x then 1 else Wu a b
def pQ (a b:ByteArray):Int:=Wu a.data.toList b.data.toList
def gI (s:ByteArray) (c:UInt8):Int:=match (List.range s.size).find? fun i=>s[i]! == c with | some i=>(i:Int) | none=>-1
def sD (x y:UInt8):Option UInt8:=if y=0 then none else some (x % y)
theorem qG {x y z:UInt8} (h:sD x y=some z):(y.toNat:Int)≠0/\(z.toNat:Int)=(x.toNat:Int).tmod (y.toNat:Int):=by
 unfold sD at h
 split at h
 ·cases h
 ·rename_i h0
  injection h with h
  subst h
  refine⟨fun e=>h0 (aKb.1 (by simpa using e)),?_⟩
  rw [UInt8.toNat_mod]
  exact (Int.ofNat_tmod _ _)
section
variable {κ ν:Type} [DecidableEq κ]
def K4 (l:List (κ×ν)) (x:κ) (z:ν):ν:=match l.find? fun p=>decide (p.1=x) with | some p=>p.2 | none=>z
def T1 (l:List (κ×ν)) (x:κ):Bool:=l.any fun p=>decide (p.1=x)
def Ts (l:List (κ×ν)) (x:κ) (v:ν):List (κ×ν):=match l.findIdx? fun p=>decide (p.1=x) with | some i=>l.set i (x,v) | none=>l ++ [(x,v)]
end
end Go.Proofs.YtchpcpaacenodaaGreat
