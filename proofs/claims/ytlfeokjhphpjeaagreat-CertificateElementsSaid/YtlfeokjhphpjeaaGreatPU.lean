import Derived.Test.YtlfeokjhphpjeaaGreatZz
import GoSem.Core.View
namespace Go.Proofs.YtlfeokjhphpjeaaGreat
theorem oi_ {α:Type} {a b:α} (h:some a=some b):a=b:=Option.some.inj h
open Go
inductive Lp (S R:Type) where
 | next (s:S)
 | done (r:R)
def W7 {S R:Type} (it:S->Option R):Lp S R->Option R
 | .next s=>it s
 | .done r=>some r
def Mc {S R:Type} (body:S->Option (Lp S R)):Nat->S->Option R
 | 0,_=>none
 | n + 1,s=>(body s).bind (W7 (Mc body n))
theorem Yt {S R:Type} {body:S->Option (Lp S R)} {r:R}:∀ {n:Nat} {s:S},Mc body n s=some r->Mc body (n + 1) s=some r
 | 0,_,h=>by cases h
 | n + 1,s,h=>by
  unfold Mc at h ⊢
  cases hb:body s with
  | none=>rw [hb] at h; cases h
  | some o=>
   rw [hb] at h
   cases o with
   | next s'=>exact Yt (n:=n) h
   | done r'=>exact h
theorem gE {S R:Type} {body:S->Option (Lp S R)} {r:R} {s:S} {n m:Nat} (h:Mc body n s=some r) (hm:n<=m):Mc body m s=some r:=by
 induction hm with
 | refl=>exact h
 | step _ ih=>exact Yt ih
open Classical in
noncomputable def Dl {S R:Type} (body:S->Option (Lp S R)) (s:S):Option R:=if h:∃ r,∃ n,Mc body n s=some r then some (Classical.choose h) else none
theorem Va {S R:Type} {body:S->Option (Lp S R)} {s:S} {r:R} {n:Nat} (h:Mc body n s=some r):Dl body s=some r:=by
 have hex:∃ r,∃ n,Mc body n s=some r:=⟨r,n,h⟩
 unfold Dl
 rw [dif_pos hex]
 obtain⟨m,hm⟩:=aCq hex
 have h1:=gE h (Nat.le_max_left n m)
 have h2:=gE hm (Nat.le_max_right n m)
 rw [h1] at h2
 exact h2.symm
theorem P5 {S R:Type} {body:S->Option (Lp S R)} {s:S} {r:R} (h:Dl body s=some r):∃ n,Mc body n s=some r:=by
 unfold Dl at h
 split at h
 ·rename_i hex
  injection h with h
  subst h
  exact aCq hex
 ·cases h
theorem Fg {S R:Type} (body:S->Option (Lp S R)) (s:S):Dl body s=(body s).bind (W7 (Dl body)):=by
 cases h:(body s).bind (W7 (Dl body)) with
 | some r=>
  cases hb:body s with
  | none=>rw [hb] at h; cases h
  | some o=>
   rw [hb] at h
   cases o with
   | next s'=>
    obtain⟨n,hn⟩:=P5 (show Dl body s'=some r from h)
    exact Va (n:=n + 1) (by unfold Mc; rw [hb]; exact hn)
   | done r'=>exact Va (n:=1) (by unfold Mc; rw [hb]; exact h)
 | none=>
  cases hl:Dl body s with
  | none=>rfl
  | some r=>
   obtain⟨n,hn⟩:=P5 hl
   cases n with
   | zero=>cases hn
   | succ n=>
    unfold Mc at hn
    cases hb:body s with
    | none=>rw [hb] at hn; cases hn
    | some o=>
     rw [hb] at hn h
     cases o with
     | next s'=>rw [show (some (Lp.next s')).bind (W7 (Dl body))=Dl body s' from rfl,Va hn] at h; cases h
     | done r'=>cases h
theorem iA {S R:Type} {body:S->Option (Lp S R)} {n:Nat} {s:S} {r:R} (h:Mc body n s=some r):∃ m o,n=m + 1/\body s=some o/\W7 (Mc body m) o=some r:=by
 cases n with
 | zero=>cases h
 | succ n=>
  unfold Mc at h
  cases hb:body s with
  | none=>rw [hb] at h; cases h
  | some o=>rw [hb] at h; exact⟨n,o,rfl,rfl,h⟩
theorem nY {S R:Type} {body:S->Option (Lp S R)} (Inv:S->Prop) (μ:S->Nat) (Q:R->Prop) (h:∀ s,Inv s->∃ o,body s=some o/\(match o with | .next s'=>Inv s'/\μ s' < μ s | .done r=>Q r)) (s:S) (hs:Inv s):∃ r,Dl body s=some r/\Q r:=by
 generalize hn:μ s=n
 induction n using Nat.strongRecOn generalizing s with
 | _ n ih=>
  obtain⟨o,h1,h2⟩:=h s hs
  rw [Fg,h1]
  cases o with
  | next s'=>exact ih (μ s') (hn ▸ h2.2) s' h2.1 rfl
  | done r=>exact⟨r,rfl,h2⟩
def Ud {A R:Type} (F:(A->Option R)->A->Option R):Nat->A->Option R
 | 0,_=>none
 | n + 1,a=>F (Ud F n) a
open Classical in
noncomputable def Pa {A R:Type} (F:(A->Option R)->A->Option R) (a:A):Option R:=if h:∃ r,∃ n,Ud F n a=some r then some (Classical.choose h) else none
theorem jQ {A R:Type} {F:(A->Option R)->A->Option R} {a:A} {r:R} (h:Pa F a=some r):∃ n,Ud F n a=some r:=by
 unfold Pa at h
 split at h
 ·rename_i hex
  injection h with h
  subst h
  exact aCq hex
 ·cases h
theorem Ja {A R:Type} {F:(A->Option R)->A->Option R} {motive:A->R->Prop} (h:∀ rec:A->Option R,(∀ a r,rec a=some r->motive a r)->∀ a r,F rec a=some r->motive a r) (a:A) (r:R) (D:Pa F a=some r):motive a r:=by
 obtain⟨n,hn⟩:=jQ D
 have key:∀ n a r,Ud F n a=some r->motive a r:=by
  intro n
  induction n with
  | zero=>intro a r h; cases h
  | succ n ih=>intro a r h'; exact h _ ih a r h'
 exact key n a r hn
def Cw {R:Type} (x y:Option R):Prop:=∀ r,x=some r->y=some r
theorem Cw.refl {R:Type} {x:Option R}:Cw x x:=fun _ h=>h
theorem Cw.bind_ {R T:Type} {x y:Option R} {f g:R->Option T} (h:Cw x y) (k:∀ a,Cw (f a) (g a)):Cw (x.bind f) (y.bind g):=fun r hr=>by
 cases hx:x with
 | none=>rw [hx] at hr; cases hr
 | some a=>
  rw [hx] at hr
  rw [h a hx]
  exact k a r hr
theorem Cw.cond_ {R:Type} {b:Bool} {x x' y y':Option R} (h:Cw x x') (k:Cw y y'):Cw (cond b x y) (cond b x' y'):=by cases b <;> assumption
theorem Cw.it {S R:Type} {f g:S->Option (Lp S R)} (h:∀ s,Cw (f s) (g s)):∀ n s,Cw (Mc f n s) (Mc g n s)
 | 0,_=>fun r h=>by cases h
 | n + 1,s=>by
  unfold Mc
  refine Cw.bind_ (h s) fun o=>?_
  cases o with
  | next s'=>exact Cw.it h n s'
  | done r=>exact Cw.refl
theorem Cw.lp {S R:Type} {f g:S->Option (Lp S R)} (h:∀ s,Cw (f s) (g s)) (s:S):Cw (Dl f s) (Dl g s):=fun r hr=>by
 obtain⟨n,hn⟩:=P5 hr
 exact Va (Cw.it h n s r hn)
def Mi {A R:Type} (F:(A->Option R)->A->Option R):Prop:=∀ p q:A->Option R,(∀ a,Cw (p a) (q a))->∀ a,Cw (F p a) (F q a)
theorem Ye {A R:Type} {F:(A->Option R)->A->Option R} (hF:Mi F):∀ n a,Cw (Ud F n a) (Ud F (n + 1) a)
 | 0,_=>fun r h=>by cases h
 | n + 1,a=>hF _ _ (fun b=>Ye hF n b) a
theorem fZ {A R:Type} {F:(A->Option R)->A->Option R} (hF:Mi F) {n m:Nat} (h:n<=m) (a:A):Cw (Ud F n a) (Ud F m a):=by
 induction h with
 | refl=>exact Cw.refl
 | step _ ih=>exact fun r hr=>Ye hF _ a r (ih r hr)
theorem hX {A R:Type} {F:(A->Option R)->A->Option R} (hF:Mi F) {n:Nat} {a:A} {r:R} (h:Ud F n a=some r):Pa F a=some r:=by
 have hex:∃ r,∃ n,Ud F n a=some r:=⟨r,n,h⟩
 unfold Pa
 rw [dif_pos hex]
 obtain⟨m,hm⟩:=aCq hex
 have h1:=fZ hF (Nat.le_max_left n m) a _ h
 have h2:=fZ hF (Nat.le_max_right n m) a _ hm
 rw [h1] at h2
 exact h2.symm
def up {S R:Type} (x:Option R):Option (Lp S R):=x.map .done
theorem Dr {S R:Type} {x:Option R} {o:Lp S R} {it:S->Option R} {r:R} (h:up x=some o) (hn:W7 it o=some r):x=some r:=by
 cases x with
 | none=>cases h
 | some y=>
  injection h with h
  subst h
  exact hn
theorem Cw.up_ {S R:Type} {x y:Option R} (h:Cw x y):Cw (up x:Option (Lp S R)) (up y):=fun r hr=>by
 cases hx:x with
 | none=>rw [hx] at hr; cases hr
 | some a=>rw [hx] at hr; rw [h a hx]; exact hr
theorem Ac {α β:Type} {x:Option α} {f:α->Option β} {b:β} (h:x.bind f=some b):∃ a,x=some a/\f a=some b:=by
 cases x with
 | none=>cases h
 | some a=>exact⟨a,rfl,h⟩
theorem wG {α:Type} {b:Bool} {x y:α} {z:α} (hb:b=true) (h:cond b x y=z):x=z:=by subst hb; exact h
theorem wA {α:Type} {b:Bool} {x y:α} {z:α} (hb:b=false) (h:cond b x y=z):y=z:=by subst hb; exact h
def W (x:Int):Int:=(x + 9223372036854775808) % 18446744073709551616 - 9223372036854775808
theorem Fv {x:Int} (h:-9223372036854775808<=x/\x<=9223372036854775807):W x=x:=by unfold W; omega
theorem Zd (x:Int):-9223372036854775808<=W x/\W x<=9223372036854775807:=by unfold W; omega
def u8 (x:Int):UInt8:=UInt8.ofNat (x % 256).toNat
theorem bT (x:Int):((u8 x).toNat:Int)=x % 256:=by
 unfold u8
 have h:(x % 256).toNat < 256:=by omega
 rw [aB4,aBv (by omega)]
 omega
def Dd {α:Type} (l:List α) (i:Int):Option α:=if i < 0 then none else l[i.toNat]?
theorem Nw {α:Type} {l:List α} {i:Int} {x:α} (h:Dd l i=some x):i=(i.toNat:Int):=by
 unfold Dd at h
 split at h
 ·cases h
 ·omega
theorem Aw {α:Type} {l:List α} {i:Int} {x:α} (h:Dd l i=some x):l[i.toNat]?=some x:=by
 unfold Dd at h
 split at h
 ·cases h
 ·exact h
theorem Hu {α:Type} {l:List α} {j:Nat}:Dd l (j:Int)=l[j]?:=by
 unfold Dd
 rw [if_neg (by omega),Int.toNat_natCast]
theorem qY {α:Type} {l:List α} {i:Int} (h:0<=i):Dd l i=l[i.toNat]?:=by
 unfold Dd
 rw [if_neg (by omega)]
def Q7 {α:Type} (l:List α) (a b:Int):Option (List α):=if 0<=a/\a<=b/\b<=l.length then some ((l.drop a.toNat).take (b.toNat - a.toNat)) else none
theorem Ru {α:Type} {l m:List α} {a b:Int} (h:Q7 l a b=some m):∃ i j:Nat,a=(i:Int)/\b=(j:Int)/\i<=j/\j<=l.length/\m=(l.drop i).take (j - i):=by
 unfold Q7 at h
 split at h
 ·rename_i h0
  injection h with h
  exact⟨a.toNat,b.toNat,by omega,by omega,by omega,by omega,h.symm⟩
 ·cases h
def Gn {α:Type} (k:Nat) (l m:List α):Option (List α):=if (l.length + m.length) * k<=140737488355328 then some (l ++ m) else none
theorem P0 {α:Type} {k:Nat} {l m x:List α} (h:Gn k l m=some x):(l.length + m.length) * k<=140737488355328/\x=l ++ m:=by
 unfold Gn at h
 split at h
 ·rename_i h0
  injection h with h
  exact⟨h0,h.symm⟩
 ·cases h
def Ir {α:Type} (l:List α) (j:Nat) (x:α):List α:=l.set j x
theorem fN {α:Type} {l m:List α} {a b:Int} (h:Q7 l a b=some m):a.toNat + (b.toNat - a.toNat)<=l.length:=by
 unfold Q7 at h
 split at h
 ·omega
 ·cases h
theorem gR {b:Bool} (h:b=true):(!b)=false:=by rw [h]; rfl
theorem gL {b:Bool} (h:b=false):(!b)=true:=by rw [h]; rfl
def xJ {α:Type} [Inhabited α] (n:Nat) (l:List α):List α:=(List.range n).map fun i=>l[i]!
def Rj (x y:Int):Option Int:=if y=0 then none else some (x.tmod y)
theorem iK {x y z:Int} (h:Rj x y=some z):y≠0/\z=x.tmod y:=by
 unfold Rj at h
 split at h
 ·cases h
 ·rename_i h0
  injection h with h
  exact⟨h0,h.symm⟩
def Rb (x y:Int):Option Int:=if y=0 then none else some (W (x.tdiv y))
theorem jC {x y z:Int} (h:Rb x y=some z):y≠0/\z=W (x.tdiv y):=by
 unfold Rb at h
 split at h
 ·cases h
 ·rename_i h0
  injection h with h
  exact⟨h0,h.symm⟩
def lQ (a b:ByteArray):Option ByteArray:=if a.size + b.size<=9223372036854775807 then some (a ++ b) else none
theorem jH {a b c:ByteArray} (h:lQ a b=some c):a.size + b.size<=9223372036854775807/\c=a ++ b:=by
 unfold lQ at h
 split at h
 ·rename_i h0
  injection h with h
  exact⟨h0,h.symm⟩
 ·cases h
def idxT (s:ByteArray) (i:Int):Option UInt8:=if i < 0 then none else s.data[i.toNat]?
def Wf (k:IntKind) (x y:Int):Int:=k.wrap (BitVec.ofInt k.bits x &&& BitVec.ofInt k.bits y).toNat
def Xq (k:IntKind) (x y:Int):Int:=k.wrap (BitVec.ofInt k.bits x ||| BitVec.ofInt k.bits y).toNat
def Zw (k:IntKind) (x y:Int):Int:=k.wrap (BitVec.ofInt k.bits x ^^^ BitVec.ofInt k.bits y).toNat
def rA (k:IntKind) (x:Int):Int:=Zw k (if k.signed then -1 else k.max) x
def Up (k:IntKind) (x y:Int):Option Int:=if y < 0 then none else some (x.fdiv (2 ^ min y.toNat k.bits))
theorem jR {k:IntKind} {x y z:Int} (h:Up k x y=some z):¬ y < 0/\z=x.fdiv (2 ^ min y.toNat k.bits):=by
 unfold Up at h
 split at h
 ·cases h
 ·rename_i h0
  injection h with h
  exact⟨h0,h.symm⟩
def bM (k:IntKind) (x y:Int):Option Int:=if y < 0 then none else some (k.wrap (x * 2 ^ min y.toNat k.bits))
theorem jO {k:IntKind} {x y z:Int} (h:bM k x y=some z):¬ y < 0/\z=k.wrap (x * 2 ^ min y.toNat k.bits):=by
 unfold bM at h
 split at h
 ·cases h
 ·rename_i h0
  injection h with h
  exact⟨h0,h.symm⟩
open Classical in
noncomputable def X4 {α β:Type} (l:List α) (a b:Option β):Option β:=if l=[] then (if a=b then a else none) else b
theorem nR {α β:Type} {l:List α} {a b:Option β} {r:β} (h:X4 l a b=some r):b=some r:=by
 unfold X4 at h
 split at h
 ·split at h
  ·rename_i e; rw [<- e]; exact h
  ·cases h
 ·exact h
theorem mG {α β:Type} {l:List α} {a b:Option β} {r:β} (hl:l=[]) (h:X4 l a b=some r):a=some r:=by
 unfold X4 at h
 rw [if_pos hl] at h
 split at h
 ·exact h
 ·cases h
def Xy (l:List UInt8):ByteArray:=⟨l.toArray⟩
def Ln (s:ByteArray):List UInt8:=s.data.toList
def kJ:List UInt8->List UInt8->Bool
 | _,[]=>false
 | [],_ :: _=>true
 | a :: x,b :: y=>a < b || (a == b && kJ x y)
section
variable {κ ν:Type} [DecidableEq κ]
end
end Go.Proofs.YtlfeokjhphpjeaaGreat
