import Derived.Test.YtfanepojdefdpaaGreatZz
import GoSem.Core.View
namespace Go.Proofs.YtfanepojdefdpaaGreat
theorem oi_ {α:Type} {a b:α} (h:some a=some b):a=b:=Option.some.inj h
open Go
inductive Lp (S R:Type) where
 | next (s:S)
 | done (r:R)
def Um {S R:Type} (it:S->Option R):Lp S R->Option R
 | .next s=>it s
 | .done r=>some r
def Kp {S R:Type} (body:S->Option (Lp S R)):Nat->S->Option R
 | 0,_=>none
 | n + 1,s=>(body s).bind (Um (Kp body n))
theorem Vx {S R:Type} {body:S->Option (Lp S R)} {r:R}:∀ {n:Nat} {s:S},Kp body n s=some r->Kp body (n + 1) s=some r
 | 0,_,h=>by cases h
 | n + 1,s,h=>by
  unfold Kp at h ⊢
  cases hb:body s with
  | none=>rw [hb] at h; cases h
  | some o=>
   rw [hb] at h
   cases o with
   | next s'=>exact Vx (n:=n) h
   | done r'=>exact h
theorem cH {S R:Type} {body:S->Option (Lp S R)} {r:R} {s:S} {n m:Nat} (h:Kp body n s=some r) (hm:n<=m):Kp body m s=some r:=by
 induction hm with
 | refl=>exact h
 | step _ ih=>exact Vx ih
open Classical in
noncomputable def C5 {S R:Type} (body:S->Option (Lp S R)) (s:S):Option R:=if h:∃ r,∃ n,Kp body n s=some r then some (Classical.choose h) else none
theorem S2 {S R:Type} {body:S->Option (Lp S R)} {s:S} {r:R} {n:Nat} (h:Kp body n s=some r):C5 body s=some r:=by
 have hex:∃ r,∃ n,Kp body n s=some r:=⟨r,n,h⟩
 unfold C5
 rw [dif_pos hex]
 obtain⟨m,hm⟩:=yN hex
 have h1:=cH h (Nat.le_max_left n m)
 have h2:=cH hm (Nat.le_max_right n m)
 rw [h1] at h2
 exact h2.symm
theorem N1 {S R:Type} {body:S->Option (Lp S R)} {s:S} {r:R} (h:C5 body s=some r):∃ n,Kp body n s=some r:=by
 unfold C5 at h
 split at h
 ·rename_i hex
  injection h with h
  subst h
  exact yN hex
 ·cases h
theorem E9 {S R:Type} (body:S->Option (Lp S R)) (s:S):C5 body s=(body s).bind (Um (C5 body)):=by
 cases h:(body s).bind (Um (C5 body)) with
 | some r=>
  cases hb:body s with
  | none=>rw [hb] at h; cases h
  | some o=>
   rw [hb] at h
   cases o with
   | next s'=>
    obtain⟨n,hn⟩:=N1 (show C5 body s'=some r from h)
    exact S2 (n:=n + 1) (by unfold Kp; rw [hb]; exact hn)
   | done r'=>exact S2 (n:=1) (by unfold Kp; rw [hb]; exact h)
 | none=>
  cases hl:C5 body s with
  | none=>rfl
  | some r=>
   obtain⟨n,hn⟩:=N1 hl
   cases n with
   | zero=>cases hn
   | succ n=>
    unfold Kp at hn
    cases hb:body s with
    | none=>rw [hb] at hn; cases hn
    | some o=>
     rw [hb] at hn h
     cases o with
     | next s'=>rw [show (some (Lp.next s')).bind (Um (C5 body))=C5 body s' from rfl,S2 hn] at h; cases h
     | done r'=>cases h
theorem dU {S R:Type} {body:S->Option (Lp S R)} {n:Nat} {s:S} {r:R} (h:Kp body n s=some r):∃ m o,n=m + 1/\body s=some o/\Um (Kp body m) o=some r:=by
 cases n with
 | zero=>cases h
 | succ n=>
  unfold Kp at h
  cases hb:body s with
  | none=>rw [hb] at h; cases h
  | some o=>rw [hb] at h; exact⟨n,o,rfl,rfl,h⟩
theorem gK {S R:Type} {body:S->Option (Lp S R)} (Inv:S->Prop) (μ:S->Nat) (Q:R->Prop) (h:∀ s,Inv s->∃ o,body s=some o/\(match o with | .next s'=>Inv s'/\μ s' < μ s | .done r=>Q r)) (s:S) (hs:Inv s):∃ r,C5 body s=some r/\Q r:=by
 generalize hn:μ s=n
 induction n using Nat.strongRecOn generalizing s with
 | _ n ih=>
  obtain⟨o,h1,h2⟩:=h s hs
  rw [E9,h1]
  cases o with
  | next s'=>exact ih (μ s') (hn ▸ h2.2) s' h2.1 rfl
  | done r=>exact⟨r,rfl,h2⟩
def Pz {A R:Type} (F:(A->Option R)->A->Option R):Nat->A->Option R
 | 0,_=>none
 | n + 1,a=>F (Pz F n) a
open Classical in
noncomputable def O0 {A R:Type} (F:(A->Option R)->A->Option R) (a:A):Option R:=if h:∃ r,∃ n,Pz F n a=some r then some (Classical.choose h) else none
theorem dN {A R:Type} {F:(A->Option R)->A->Option R} {a:A} {r:R} (h:O0 F a=some r):∃ n,Pz F n a=some r:=by
 unfold O0 at h
 split at h
 ·rename_i hex
  injection h with h
  subst h
  exact yN hex
 ·cases h
theorem Je {A R:Type} {F:(A->Option R)->A->Option R} {motive:A->R->Prop} (h:∀ rec:A->Option R,(∀ a r,rec a=some r->motive a r)->∀ a r,F rec a=some r->motive a r) (a:A) (r:R) (D:O0 F a=some r):motive a r:=by
 obtain⟨n,hn⟩:=dN D
 have key:∀ n a r,Pz F n a=some r->motive a r:=by
  intro n
  induction n with
  | zero=>intro a r h; cases h
  | succ n ih=>intro a r h'; exact h _ ih a r h'
 exact key n a r hn
def Cg {R:Type} (x y:Option R):Prop:=∀ r,x=some r->y=some r
theorem Cg.refl {R:Type} {x:Option R}:Cg x x:=fun _ h=>h
theorem Cg.bind_ {R T:Type} {x y:Option R} {f g:R->Option T} (h:Cg x y) (k:∀ a,Cg (f a) (g a)):Cg (x.bind f) (y.bind g):=fun r hr=>by
 cases hx:x with
 | none=>rw [hx] at hr; cases hr
 | some a=>
  rw [hx] at hr
  rw [h a hx]
  exact k a r hr
theorem Cg.cond_ {R:Type} {b:Bool} {x x' y y':Option R} (h:Cg x x') (k:Cg y y'):Cg (cond b x y) (cond b x' y'):=by cases b <;> assumption
theorem Cg.it {S R:Type} {f g:S->Option (Lp S R)} (h:∀ s,Cg (f s) (g s)):∀ n s,Cg (Kp f n s) (Kp g n s)
 | 0,_=>fun r h=>by cases h
 | n + 1,s=>by
  unfold Kp
  refine Cg.bind_ (h s) fun o=>?_
  cases o with
  | next s'=>exact Cg.it h n s'
  | done r=>exact Cg.refl
theorem Cg.lp {S R:Type} {f g:S->Option (Lp S R)} (h:∀ s,Cg (f s) (g s)) (s:S):Cg (C5 f s) (C5 g s):=fun r hr=>by
 obtain⟨n,hn⟩:=N1 hr
 exact S2 (Cg.it h n s r hn)
def Ll {A R:Type} (F:(A->Option R)->A->Option R):Prop:=∀ p q:A->Option R,(∀ a,Cg (p a) (q a))->∀ a,Cg (F p a) (F q a)
theorem Vi {A R:Type} {F:(A->Option R)->A->Option R} (hF:Ll F):∀ n a,Cg (Pz F n a) (Pz F (n + 1) a)
 | 0,_=>fun r h=>by cases h
 | n + 1,a=>hF _ _ (fun b=>Vi hF n b) a
theorem bZ {A R:Type} {F:(A->Option R)->A->Option R} (hF:Ll F) {n m:Nat} (h:n<=m) (a:A):Cg (Pz F n a) (Pz F m a):=by
 induction h with
 | refl=>exact Cg.refl
 | step _ ih=>exact fun r hr=>Vi hF _ a r (ih r hr)
theorem cA {A R:Type} {F:(A->Option R)->A->Option R} (hF:Ll F) {n:Nat} {a:A} {r:R} (h:Pz F n a=some r):O0 F a=some r:=by
 have hex:∃ r,∃ n,Pz F n a=some r:=⟨r,n,h⟩
 unfold O0
 rw [dif_pos hex]
 obtain⟨m,hm⟩:=yN hex
 have h1:=bZ hF (Nat.le_max_left n m) a _ h
 have h2:=bZ hF (Nat.le_max_right n m) a _ hm
 rw [h1] at h2
 exact h2.symm
def up {S R:Type} (x:Option R):Option (Lp S R):=x.map .done
theorem C0 {S R:Type} {x:Option R} {o:Lp S R} {it:S->Option R} {r:R} (h:up x=some o) (hn:Um it o=some r):x=some r:=by
 cases x with
 | none=>cases h
 | some y=>
  injection h with h
  subst h
  exact hn
theorem Cg.up_ {S R:Type} {x y:Option R} (h:Cg x y):Cg (up x:Option (Lp S R)) (up y):=fun r hr=>by
 cases hx:x with
 | none=>rw [hx] at hr; cases hr
 | some a=>rw [hx] at hr; rw [h a hx]; exact hr
theorem Ad {α β:Type} {x:Option α} {f:α->Option β} {b:β} (h:x.bind f=some b):∃ a,x=some a/\f a=some b:=by
 cases x with
 | none=>cases h
 | some a=>exact⟨a,rfl,h⟩
theorem oW {α:Type} {b:Bool} {x y:α} {z:α} (hb:b=true) (h:cond b x y=z):x=z:=by subst hb; exact h
theorem qK {α:Type} {b:Bool} {x y:α} {z:α} (hb:b=false) (h:cond b x y=z):y=z:=by subst hb; exact h
def W (x:Int):Int:=(x + 9223372036854775808) % 18446744073709551616 - 9223372036854775808
theorem Hy {x:Int} (h:-9223372036854775808<=x/\x<=9223372036854775807):W x=x:=by unfold W; omega
theorem bG (x:Int):-9223372036854775808<=W x/\W x<=9223372036854775807:=by unfold W; omega
def u8 (x:Int):UInt8:=UInt8.ofNat (x % 256).toNat
theorem Yb (x:Int):((u8 x).toNat:Int)=x % 256:=by
 unfold u8
 have h:(x % 256).toNat < 256:=by omega
 rw [xS,xC (by omega)]
 omega
def C2 {α:Type} (l:List α) (i:Int):Option α:=if i < 0 then none else l[i.toNat]?
theorem Po {α:Type} {l:List α} {i:Int} {x:α} (h:C2 l i=some x):i=(i.toNat:Int):=by
 unfold C2 at h
 split at h
 ·cases h
 ·omega
theorem Ao {α:Type} {l:List α} {i:Int} {x:α} (h:C2 l i=some x):l[i.toNat]?=some x:=by
 unfold C2 at h
 split at h
 ·cases h
 ·exact h
theorem Ec {α:Type} {l:List α} {j:Nat}:C2 l (j:Int)=l[j]?:=by
 unfold C2
 rw [if_neg (by omega),yY]
theorem kO {α:Type} {l:List α} {i:Int} (h:0<=i):C2 l i=l[i.toNat]?:=by
 unfold C2
 rw [if_neg (by omega)]
def rD {α:Type} (l:List α) (a b:Int):Option (List α):=if 0<=a/\a<=b/\b<=l.length then some ((l.drop a.toNat).take (b.toNat - a.toNat)) else none
theorem fJ {α:Type} {l m:List α} {a b:Int} (h:rD l a b=some m):∃ i j:Nat,a=(i:Int)/\b=(j:Int)/\i<=j/\j<=l.length/\m=(l.drop i).take (j - i):=by
 unfold rD at h
 split at h
 ·rename_i h0
  injection h with h
  exact⟨a.toNat,b.toNat,by omega,by omega,by omega,by omega,h.symm⟩
 ·cases h
def Fk {α:Type} (k:Nat) (l m:List α):Option (List α):=if (l.length + m.length) * k<=140737488355328 then some (l ++ m) else none
theorem Q0 {α:Type} {k:Nat} {l m x:List α} (h:Fk k l m=some x):(l.length + m.length) * k<=140737488355328/\x=l ++ m:=by
 unfold Fk at h
 split at h
 ·rename_i h0
  injection h with h
  exact⟨h0,h.symm⟩
 ·cases h
def Hf {α:Type} (l:List α) (j:Nat) (x:α):List α:=l.set j x
theorem mC {α:Type} {l:List α} {j:Nat} {x x':α} (h:l[j]?=some x):(Hf l j x')[j]?=some x':=by
 unfold Hf
 rw [yI (vM.1 h).1]
theorem cD {b:Bool} (h:b=true):(!b)=false:=by rw [h]; rfl
theorem cI {b:Bool} (h:b=false):(!b)=true:=by rw [h]; rfl
def rJ {α:Type} [Inhabited α] (n:Nat) (l:List α):List α:=(List.range n).map fun i=>l[i]!
def Qy (x y:Int):Option Int:=if y=0 then none else some (x.tmod y)
theorem cR {x y z:Int} (h:Qy x y=some z):y≠0/\z=x.tmod y:=by
 unfold Qy at h
 split at h
 ·cases h
 ·rename_i h0
  injection h with h
  exact⟨h0,h.symm⟩
def Qq (x y:Int):Option Int:=if y=0 then none else some (W (x.tdiv y))
theorem dZ {x y z:Int} (h:Qq x y=some z):y≠0/\z=W (x.tdiv y):=by
 unfold Qq at h
 split at h
 ·cases h
 ·rename_i h0
  injection h with h
  exact⟨h0,h.symm⟩
def fE (a b:ByteArray):Option ByteArray:=if a.size + b.size<=9223372036854775807 then some (a ++ b) else none
theorem eC {a b c:ByteArray} (h:fE a b=some c):a.size + b.size<=9223372036854775807/\c=a ++ b:=by
 unfold fE at h
 split at h
 ·rename_i h0
  injection h with h
  exact⟨h0,h.symm⟩
 ·cases h
def idxT (s:ByteArray) (i:Int):Option UInt8:=if i < 0 then none else s.data[i.toNat]?
def dW (k:IntKind) (x y:Int):Int:=k.wrap (BitVec.ofInt k.bits x &&& BitVec.ofInt k.bits y).toNat
def X0 (k:IntKind) (x y:Int):Int:=k.wrap (BitVec.ofInt k.bits x ^^^ BitVec.ofInt k.bits y).toNat
def M3 (k:IntKind) (x y:Int):Option Int:=if y < 0 then none else some (x.fdiv (2 ^ min y.toNat k.bits))
theorem eH {k:IntKind} {x y z:Int} (h:M3 k x y=some z):¬ y < 0/\z=x.fdiv (2 ^ min y.toNat k.bits):=by
 unfold M3 at h
 split at h
 ·cases h
 ·rename_i h0
  injection h with h
  exact⟨h0,h.symm⟩
open Classical in
noncomputable def U8 {α β:Type} (l:List α) (a b:Option β):Option β:=if l=[] then (if a=b then a else none) else b
theorem hQ {α β:Type} {l:List α} {a b:Option β} {r:β} (h:U8 l a b=some r):b=some r:=by
 unfold U8 at h
 split at h
 ·split at h
  ·rename_i e; rw [<- e]; exact h
  ·cases h
 ·exact h
theorem gF {α β:Type} {l:List α} {a b:Option β} {r:β} (hl:l=[]) (h:U8 l a b=some r):a=some r:=by
 unfold U8 at h
 rw [if_pos hl] at h
 split at h
 ·exact h
 ·cases h
def uI (l:List UInt8):ByteArray:=⟨l.toArray⟩
def Hs (s:ByteArray):List UInt8:=s.data.toList
def Ns:List UInt8->List UInt8->Bool
 | _,[]=>false
 | [],_ :: _=>true
 | a :: x,b :: y=>a < b || (a == b && Ns x y)
theorem Wh:∀ (a b:List UInt8),(!(Ns a b || decide (a=b)))=Ns b a
 | [],[]=>rfl
 | [],y :: b=>by simp [Ns]
 | x :: a,[]=>by simp [Ns]
 | x :: a,y :: b=>by
  have ih:=Wh a b
  unfold Ns
  rcases Nat.lt_trichotomy x.toNat y.toNat with h | h | h
  ·have h1:x < y:=h
   have h2:¬ y < x:=fun h'=>by have:y.toNat < x.toNat:=h'; omega
   have h3:y≠x:=fun e=>by subst e; omega
   simp [h1,h2,h3]
  ·have h1:x=y:=yX.1 h
   subst h1
   have h2:¬ x < x:=fun h'=>by have:x.toNat < x.toNat:=h'; omega
   simp [h2]
   simpa using ih
  ·have h1:y < x:=h
   have h2:¬ x < y:=fun h'=>by have:x.toNat < y.toNat:=h'; omega
   have h3:x≠y:=fun e=>by subst e; omega
   simp [h1,h2,h3]
def dR {α:Type} (k:Nat) (n c:Int) (z:α):Option (List α):=if 0<=n/\n<=c/\c.toNat * k<=140737488355328/\c<=1000000 then some (List.replicate n.toNat z) else none
def cO {α:Type} (l m:List α):Option (List α):=if l.length=m.length then some m else none
theorem dD {α:Type} {k:Nat} {n c:Int} {z:α} {l:List α} (h:dR k n c z=some l):∃ m cap:Nat,n=(m:Int)/\c=(cap:Int)/\m<=cap/\cap * k<=140737488355328/\cap<=1000000/\l=List.replicate m z:=by
 unfold dR at h
 split at h
 ·rename_i hc
  injection h with h
  exact⟨n.toNat,c.toNat,by omega,by omega,by omega,hc.2.2.1,by omega,h.symm⟩
 ·cases h
theorem cS {α:Type} {l m r:List α} (h:cO l m=some r):l.length=m.length/\r=m:=by
 unfold cO at h
 split at h
 ·injection h with h; exact⟨by assumption,h.symm⟩
 ·cases h
section
variable {κ ν:Type} [DecidableEq κ]
end
end Go.Proofs.YtfanepojdefdpaaGreat
