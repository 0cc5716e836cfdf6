import Derived.Test.YtfanepojdefdpaaGreatZz
import GoSem.Core.View
namespace Go.Proofs.YtfanepojdefdpaaGreat
theorem oi_ {α:Type} {a b:α} (h:some a=some b):a=b:=Option.some.inj h
open Go
inductive Lp (S R:Type) where
 | next (s:S)
 | done (r:R)
def Xd {S R:Type} (it:S->Option R):Lp S R->Option R
 | .next s=>it s
 | .done r=>some r
def M3 {S R:Type} (body:S->Option (Lp S R)):Nat->S->Option R
 | 0,_=>none
 | n + 1,s=>(body s).bind (Xd (M3 body n))
theorem aA {S R:Type} {body:S->Option (Lp S R)} {r:R}:∀ {n:Nat} {s:S},M3 body n s=some r->M3 body (n + 1) s=some r
 | 0,_,h=>by cases h
 | n + 1,s,h=>by
  unfold M3 at h ⊢
  cases hb:body s with
  | none=>rw [hb] at h; cases h
  | some o=>
   rw [hb] at h
   cases o with
   | next s'=>exact aA (n:=n) h
   | done r'=>exact h
theorem lK {S R:Type} {body:S->Option (Lp S R)} {r:R} {s:S} {n m:Nat} (h:M3 body n s=some r) (hm:n<=m):M3 body m s=some r:=by
 induction hm with
 | refl=>exact h
 | step _ ih=>exact aA ih
open Classical in
noncomputable def Dp {S R:Type} (body:S->Option (Lp S R)) (s:S):Option R:=if h:∃ r,∃ n,M3 body n s=some r then some (Classical.choose h) else none
theorem Wk {S R:Type} {body:S->Option (Lp S R)} {s:S} {r:R} {n:Nat} (h:M3 body n s=some r):Dp body s=some r:=by
 have hex:∃ r,∃ n,M3 body n s=some r:=⟨r,n,h⟩
 unfold Dp
 rw [dif_pos hex]
 obtain⟨m,hm⟩:=aGx hex
 have h1:=lK h (Nat.le_max_left n m)
 have h2:=lK hm (Nat.le_max_right n m)
 rw [h1] at h2
 exact h2.symm
theorem Qo {S R:Type} {body:S->Option (Lp S R)} {s:S} {r:R} (h:Dp body s=some r):∃ n,M3 body n s=some r:=by
 unfold Dp at h
 split at h
 ·rename_i hex
  injection h with h
  subst h
  exact aGx hex
 ·cases h
theorem Gi {S R:Type} (body:S->Option (Lp S R)) (s:S):Dp body s=(body s).bind (Xd (Dp body)):=by
 cases h:(body s).bind (Xd (Dp body)) with
 | some r=>
  cases hb:body s with
  | none=>rw [hb] at h; cases h
  | some o=>
   rw [hb] at h
   cases o with
   | next s'=>
    obtain⟨n,hn⟩:=Qo (show Dp body s'=some r from h)
    exact Wk (n:=n + 1) (by unfold M3; rw [hb]; exact hn)
   | done r'=>exact Wk (n:=1) (by unfold M3; rw [hb]; exact h)
 | none=>
  cases hl:Dp body s with
  | none=>rfl
  | some r=>
   obtain⟨n,hn⟩:=Qo hl
   cases n with
   | zero=>cases hn
   | succ n=>
    unfold M3 at hn
    cases hb:body s with
    | none=>rw [hb] at hn; cases hn
    | some o=>
     rw [hb] at hn h
     cases o with
     | next s'=>rw [show (some (Lp.next s')).bind (Xd (Dp body))=Dp body s' from rfl,Wk hn] at h; cases h
     | done r'=>cases h
theorem nI {S R:Type} {body:S->Option (Lp S R)} {n:Nat} {s:S} {r:R} (h:M3 body n s=some r):∃ m o,n=m + 1/\body s=some o/\Xd (M3 body m) o=some r:=by
 cases n with
 | zero=>cases h
 | succ n=>
  unfold M3 at h
  cases hb:body s with
  | none=>rw [hb] at h; cases h
  | some o=>rw [hb] at h; exact⟨n,o,rfl,rfl,h⟩
theorem pE {S R:Type} {body:S->Option (Lp S R)} (Inv:S->Prop) (μ:S->Nat) (Q:R->Prop) (h:∀ s,Inv s->∃ o,body s=some o/\(match o with | .next s'=>Inv s'/\μ s' < μ s | .done r=>Q r)) (s:S) (hs:Inv s):∃ r,Dp body s=some r/\Q r:=by
 generalize hn:μ s=n
 induction n using Nat.strongRecOn generalizing s with
 | _ n ih=>
  obtain⟨o,h1,h2⟩:=h s hs
  rw [Gi,h1]
  cases o with
  | next s'=>exact ih (μ s') (hn ▸ h2.2) s' h2.1 rfl
  | done r=>exact⟨r,rfl,h2⟩
def Wc {A R:Type} (F:(A->Option R)->A->Option R):Nat->A->Option R
 | 0,_=>none
 | n + 1,a=>F (Wc F n) a
open Classical in
noncomputable def P0 {A R:Type} (F:(A->Option R)->A->Option R) (a:A):Option R:=if h:∃ r,∃ n,Wc F n a=some r then some (Classical.choose h) else none
theorem nB {A R:Type} {F:(A->Option R)->A->Option R} {a:A} {r:R} (h:P0 F a=some r):∃ n,Wc F n a=some r:=by
 unfold P0 at h
 split at h
 ·rename_i hex
  injection h with h
  subst h
  exact aGx hex
 ·cases h
theorem Kd {A R:Type} {F:(A->Option R)->A->Option R} {motive:A->R->Prop} (h:∀ rec:A->Option R,(∀ a r,rec a=some r->motive a r)->∀ a r,F rec a=some r->motive a r) (a:A) (r:R) (D:P0 F a=some r):motive a r:=by
 obtain⟨n,hn⟩:=nB D
 have key:∀ n a r,Wc F n a=some r->motive a r:=by
  intro n
  induction n with
  | zero=>intro a r h; cases h
  | succ n ih=>intro a r h'; exact h _ ih a r h'
 exact key n a r hn
def Cp {R:Type} (x y:Option R):Prop:=∀ r,x=some r->y=some r
theorem Cp.refl {R:Type} {x:Option R}:Cp x x:=fun _ h=>h
theorem Cp.bind_ {R T:Type} {x y:Option R} {f g:R->Option T} (h:Cp x y) (k:∀ a,Cp (f a) (g a)):Cp (x.bind f) (y.bind g):=fun r hr=>by
 cases hx:x with
 | none=>rw [hx] at hr; cases hr
 | some a=>
  rw [hx] at hr
  rw [h a hx]
  exact k a r hr
theorem Cp.cond_ {R:Type} {b:Bool} {x x' y y':Option R} (h:Cp x x') (k:Cp y y'):Cp (cond b x y) (cond b x' y'):=by cases b <;> assumption
theorem Cp.it {S R:Type} {f g:S->Option (Lp S R)} (h:∀ s,Cp (f s) (g s)):∀ n s,Cp (M3 f n s) (M3 g n s)
 | 0,_=>fun r h=>by cases h
 | n + 1,s=>by
  unfold M3
  refine Cp.bind_ (h s) fun o=>?_
  cases o with
  | next s'=>exact Cp.it h n s'
  | done r=>exact Cp.refl
theorem Cp.lp {S R:Type} {f g:S->Option (Lp S R)} (h:∀ s,Cp (f s) (g s)) (s:S):Cp (Dp f s) (Dp g s):=fun r hr=>by
 obtain⟨n,hn⟩:=Qo hr
 exact Wk (Cp.it h n s r hn)
def Nn {A R:Type} (F:(A->Option R)->A->Option R):Prop:=∀ p q:A->Option R,(∀ a,Cp (p a) (q a))->∀ a,Cp (F p a) (F q a)
theorem Z1 {A R:Type} {F:(A->Option R)->A->Option R} (hF:Nn F):∀ n a,Cp (Wc F n a) (Wc F (n + 1) a)
 | 0,_=>fun r h=>by cases h
 | n + 1,a=>hF _ _ (fun b=>Z1 hF n b) a
theorem kP {A R:Type} {F:(A->Option R)->A->Option R} (hF:Nn F) {n m:Nat} (h:n<=m) (a:A):Cp (Wc F n a) (Wc F m a):=by
 induction h with
 | refl=>exact Cp.refl
 | step _ ih=>exact fun r hr=>Z1 hF _ a r (ih r hr)
theorem kY {A R:Type} {F:(A->Option R)->A->Option R} (hF:Nn F) {n:Nat} {a:A} {r:R} (h:Wc F n a=some r):P0 F a=some r:=by
 have hex:∃ r,∃ n,Wc F n a=some r:=⟨r,n,h⟩
 unfold P0
 rw [dif_pos hex]
 obtain⟨m,hm⟩:=aGx hex
 have h1:=kP hF (Nat.le_max_left n m) a _ h
 have h2:=kP hF (Nat.le_max_right n m) a _ hm
 rw [h1] at h2
 exact h2.symm
def up {S R:Type} (x:Option R):Option (Lp S R):=x.map .done
theorem C5 {S R:Type} {x:Option R} {o:Lp S R} {it:S->Option R} {r:R} (h:up x=some o) (hn:Xd it o=some r):x=some r:=by
 cases x with
 | none=>cases h
 | some y=>
  injection h with h
  subst h
  exact hn
theorem Cp.up_ {S R:Type} {x y:Option R} (h:Cp x y):Cp (up x:Option (Lp S R)) (up y):=fun r hr=>by
 cases hx:x with
 | none=>rw [hx] at hr; cases hr
 | some a=>rw [hx] at hr; rw [h a hx]; exact hr
theorem Ae {α β:Type} {x:Option α} {f:α->Option β} {b:β} (h:x.bind f=some b):∃ a,x=some a/\f a=some b:=by
 cases x with
 | none=>cases h
 | some a=>exact⟨a,rfl,h⟩
theorem aBh {α:Type} {b:Bool} {x y:α} {z:α} (hb:b=true) (h:cond b x y=z):x=z:=by subst hb; exact h
theorem xL {α:Type} {b:Bool} {x y:α} {z:α} (hb:b=false) (h:cond b x y=z):y=z:=by subst hb; exact h
def W (x:Int):Int:=(x + 9223372036854775808) % 18446744073709551616 - 9223372036854775808
theorem Fx {x:Int} (h:-9223372036854775808<=x/\x<=9223372036854775807):W x=x:=by unfold W; omega
theorem aV (x:Int):-9223372036854775808<=W x/\W x<=9223372036854775807:=by unfold W; omega
def u8 (x:Int):UInt8:=UInt8.ofNat (x % 256).toNat
theorem dN (x:Int):((u8 x).toNat:Int)=x % 256:=by
 unfold u8
 have h:(x % 256).toNat < 256:=by omega
 rw [aG0,aFc (by omega)]
 omega
def C4 {α:Type} (l:List α) (i:Int):Option α:=if i < 0 then none else l[i.toNat]?
theorem Tk {α:Type} {l:List α} {i:Int} {x:α} (h:C4 l i=some x):i=(i.toNat:Int):=by
 unfold C4 at h
 split at h
 ·cases h
 ·omega
theorem Aq {α:Type} {l:List α} {i:Int} {x:α} (h:C4 l i=some x):l[i.toNat]?=some x:=by
 unfold C4 at h
 split at h
 ·cases h
 ·exact h
theorem Fs {α:Type} {l:List α} {j:Nat}:C4 l (j:Int)=l[j]?:=by
 unfold C4
 rw [if_neg (by omega),aGn]
theorem uW {α:Type} {l:List α} {i:Int} (h:0<=i):C4 l i=l[i.toNat]?:=by
 unfold C4
 rw [if_neg (by omega)]
def Q8 {α:Type} (l:List α) (a b:Int):Option (List α):=if 0<=a/\a<=b/\b<=l.length then some ((l.drop a.toNat).take (b.toNat - a.toNat)) else none
theorem S7 {α:Type} {l m:List α} {a b:Int} (h:Q8 l a b=some m):∃ i j:Nat,a=(i:Int)/\b=(j:Int)/\i<=j/\j<=l.length/\m=(l.drop i).take (j - i):=by
 unfold Q8 at h
 split at h
 ·rename_i h0
  injection h with h
  exact⟨a.toNat,b.toNat,by omega,by omega,by omega,by omega,h.symm⟩
 ·cases h
def Gl {α:Type} (k:Nat) (l m:List α):Option (List α):=if (l.length + m.length) * k<=140737488355328 then some (l ++ m) else none
theorem Qt {α:Type} {k:Nat} {l m x:List α} (h:Gl k l m=some x):(l.length + m.length) * k<=140737488355328/\x=l ++ m:=by
 unfold Gl at h
 split at h
 ·rename_i h0
  injection h with h
  exact⟨h0,h.symm⟩
 ·cases h
def Jy {α:Type} (l:List α) (j:Nat) (x:α):List α:=l.set j x
theorem Qb {α:Type} {l m:List α} {a b:Int} (h:Q8 l a b=some m):a.toNat + (b.toNat - a.toNat)<=l.length:=by
 unfold Q8 at h
 split at h
 ·omega
 ·cases h
theorem kH {b:Bool} (h:b=true):(!b)=false:=by rw [h]; rfl
theorem lF {b:Bool} (h:b=false):(!b)=true:=by rw [h]; rfl
def aC1 {α:Type} [Inhabited α] (n:Nat) (l:List α):List α:=(List.range n).map fun i=>l[i]!
def R4 (x y:Int):Option Int:=if y=0 then none else some (x.tmod y)
theorem mV {x y z:Int} (h:R4 x y=some z):y≠0/\z=x.tmod y:=by
 unfold R4 at h
 split at h
 ·cases h
 ·rename_i h0
  injection h with h
  exact⟨h0,h.symm⟩
def Sd (x y:Int):Option Int:=if y=0 then none else some (W (x.tdiv y))
theorem mB {x y z:Int} (h:Sd x y=some z):y≠0/\z=W (x.tdiv y):=by
 unfold Sd at h
 split at h
 ·cases h
 ·rename_i h0
  injection h with h
  exact⟨h0,h.symm⟩
def oX (a b:ByteArray):Option ByteArray:=if a.size + b.size<=9223372036854775807 then some (a ++ b) else none
theorem lX {a b c:ByteArray} (h:oX a b=some c):a.size + b.size<=9223372036854775807/\c=a ++ b:=by
 unfold oX at h
 split at h
 ·rename_i h0
  injection h with h
  exact⟨h0,h.symm⟩
 ·cases h
def idxT (s:ByteArray) (i:Int):Option UInt8:=if i < 0 then none else s.data[i.toNat]?
def Xh (k:IntKind) (x y:Int):Int:=k.wrap (BitVec.ofInt k.bits x &&& BitVec.ofInt k.bits y).toNat
def Zk (k:IntKind) (x y:Int):Int:=k.wrap (BitVec.ofInt k.bits x ||| BitVec.ofInt k.bits y).toNat
def Zg (k:IntKind) (x y:Int):Int:=k.wrap (BitVec.ofInt k.bits x ^^^ BitVec.ofInt k.bits y).toNat
def uD (k:IntKind) (x:Int):Int:=Zg k (if k.signed then -1 else k.max) x
def Sa (k:IntKind) (x y:Int):Option Int:=if y < 0 then none else some (x.fdiv (2 ^ min y.toNat k.bits))
theorem mQ {k:IntKind} {x y z:Int} (h:Sa k x y=some z):¬ y < 0/\z=x.fdiv (2 ^ min y.toNat k.bits):=by
 unfold Sa at h
 split at h
 ·cases h
 ·rename_i h0
  injection h with h
  exact⟨h0,h.symm⟩
def fF (k:IntKind) (x y:Int):Option Int:=if y < 0 then none else some (k.wrap (x * 2 ^ min y.toNat k.bits))
theorem nC {k:IntKind} {x y z:Int} (h:fF k x y=some z):¬ y < 0/\z=k.wrap (x * 2 ^ min y.toNat k.bits):=by
 unfold fF at h
 split at h
 ·cases h
 ·rename_i h0
  injection h with h
  exact⟨h0,h.symm⟩
open Classical in
noncomputable def Ze {α β:Type} (l:List α) (a b:Option β):Option β:=if l=[] then (if a=b then a else none) else b
theorem rC {α β:Type} {l:List α} {a b:Option β} {r:β} (h:Ze l a b=some r):b=some r:=by
 unfold Ze at h
 split at h
 ·split at h
  ·rename_i e; rw [<- e]; exact h
  ·cases h
 ·exact h
theorem pP {α β:Type} {l:List α} {a b:Option β} {r:β} (hl:l=[]) (h:Ze l a b=some r):a=some r:=by
 unfold Ze at h
 rw [if_pos hl] at h
 split at h
 ·exact h
 ·cases h
def Zr (l:List UInt8):ByteArray:=⟨l.toArray⟩
def J7 (s:ByteArray):List UInt8:=s.data.toList
def Q3:List UInt8->List UInt8->Bool
 | _,[]=>false
 | [],_ :: _=>true
 | a :: x,b :: y=>a < b || (a == b && Q3 x y)
theorem cS:∀ (a b:List UInt8),(!(Q3 a b || decide (a=b)))=Q3 b a
 | [],[]=>rfl
 | [],y :: b=>by simp [Q3]
 | x :: a,[]=>by simp [Q3]
 | x :: a,y :: b=>by
  have ih:=cS a b
  unfold Q3
  rcases aH5 x.toNat y.toNat with h | h | h
  ·have h1:x < y:=h
   have h2:¬ y < x:=fun h'=>by have:y.toNat < x.toNat:=h'; omega
   have h3:y≠x:=fun e=>by subst e; omega
   simp [h1,h2,h3]
  ·have h1:x=y:=aGa.1 h
   subst h1
   have h2:¬ x < x:=fun h'=>by have:x.toNat < x.toNat:=h'; omega
   simp [h2]
   simpa using ih
  ·have h1:y < x:=h
   have h2:¬ x < y:=fun h'=>by have:x.toNat < y.toNat:=h'; omega
   have h3:x≠y:=fun e=>by subst e; omega
   simp [h1,h2,h3]
def mO {α:Type} (k:Nat) (n c:Int) (z:α):Option (List α):=if 0<=n/\n<=c/\c.toNat * k<=140737488355328/\c<=1000000 then some (List.replicate n.toNat z) else none
def nD {α:Type} (l m:List α):Option (List α):=if l.length=m.length then some m else none
theorem mZ {α:Type} {k:Nat} {n c:Int} {z:α} {l:List α} (h:mO k n c z=some l):∃ m cap:Nat,n=(m:Int)/\c=(cap:Int)/\m<=cap/\cap * k<=140737488355328/\cap<=1000000/\l=List.replicate m z:=by
 unfold mO at h
 split at h
 ·rename_i hc
  injection h with h
  exact⟨n.toNat,c.toNat,by omega,by omega,by omega,hc.2.2.1,by omega,h.symm⟩
 ·cases h
theorem nM {α:Type} {l m r:List α} (h:nD l m=some r):l.length=m.length/\r=m:=by
 unfold nD at h
 split at h
 ·injection h with h; exact⟨by assumption,h.symm⟩
 ·cases h
def uA (x y:UInt8):Option UInt8:=if y=0 then none else some (x % y)
theorem mL {x y z:UInt8} (h:uA x y=some z):(y.toNat:Int)≠0/\(z.toNat:Int)=(x.toNat:Int).tmod (y.toNat:Int):=by
 unfold uA at h
 split at h
 ·cases h
 ·rename_i h0
  injection h with h
  subst h
  refine⟨fun e=>h0 (aGa.1 (by simpa using e)),?_⟩
  rw [UInt8.toNat_mod]
  exact (Int.ofNat_tmod _ _)
section
variable {κ ν:Type} [DecidableEq κ]
end
end Go.Proofs.YtfanepojdefdpaaGreat
