import Derived.Test.YtkioneinddihlaaGreatZz
import GoSem.Core.View
namespace Go.Proofs.YtkioneinddihlaaGreat
theorem oi_ {α:Type} {a b:α} (h:some a=some b):a=b:=Option.some.inj h
open Go
inductive Lp (S R:Type) where
 | next (s:S)
 | done (r:R)
def W0 {S R:Type} (it:S->Option R):Lp S R->Option R
 | .next s=>it s
 | .done r=>some r
def Nw {S R:Type} (body:S->Option (Lp S R)):Nat->S->Option R
 | 0,_=>none
 | n + 1,s=>(body s).bind (W0 (Nw body n))
theorem bY {S R:Type} {body:S->Option (Lp S R)} {r:R}:∀ {n:Nat} {s:S},Nw body n s=some r->Nw body (n + 1) s=some r
 | 0,_,h=>by cases h
 | n + 1,s,h=>by
  unfold Nw at h ⊢
  cases hb:body s with
  | none=>rw [hb] at h; cases h
  | some o=>
   rw [hb] at h
   cases o with
   | next s'=>exact bY (n:=n) h
   | done r'=>exact h
theorem mL {S R:Type} {body:S->Option (Lp S R)} {r:R} {s:S} {n m:Nat} (h:Nw body n s=some r) (hm:n<=m):Nw body m s=some r:=by
 induction hm with
 | refl=>exact h
 | step _ ih=>exact bY ih
open Classical in
noncomputable def B1 {S R:Type} (body:S->Option (Lp S R)) (s:S):Option R:=if h:∃ r,∃ n,Nw body n s=some r then some (Classical.choose h) else none
theorem X0 {S R:Type} {body:S->Option (Lp S R)} {s:S} {r:R} {n:Nat} (h:Nw body n s=some r):B1 body s=some r:=by
 have hex:∃ r,∃ n,Nw body n s=some r:=⟨r,n,h⟩
 unfold B1
 rw [dif_pos hex]
 obtain⟨m,hm⟩:=aOw hex
 have h1:=mL h (Nat.le_max_left n m)
 have h2:=mL hm (Nat.le_max_right n m)
 rw [h1] at h2
 exact h2.symm
theorem R9 {S R:Type} {body:S->Option (Lp S R)} {s:S} {r:R} (h:B1 body s=some r):∃ n,Nw body n s=some r:=by
 unfold B1 at h
 split at h
 ·rename_i hex
  injection h with h
  subst h
  exact aOw hex
 ·cases h
theorem Hp {S R:Type} (body:S->Option (Lp S R)) (s:S):B1 body s=(body s).bind (W0 (B1 body)):=by
 cases h:(body s).bind (W0 (B1 body)) with
 | some r=>
  cases hb:body s with
  | none=>rw [hb] at h; cases h
  | some o=>
   rw [hb] at h
   cases o with
   | next s'=>
    obtain⟨n,hn⟩:=R9 (show B1 body s'=some r from h)
    exact X0 (n:=n + 1) (by unfold Nw; rw [hb]; exact hn)
   | done r'=>exact X0 (n:=1) (by unfold Nw; rw [hb]; exact h)
 | none=>
  cases hl:B1 body s with
  | none=>rfl
  | some r=>
   obtain⟨n,hn⟩:=R9 hl
   cases n with
   | zero=>cases hn
   | succ n=>
    unfold Nw at hn
    cases hb:body s with
    | none=>rw [hb] at hn; cases hn
    | some o=>
     rw [hb] at hn h
     cases o with
     | next s'=>rw [show (some (Lp.next s')).bind (W0 (B1 body))=B1 body s' from rfl,X0 hn] at h; cases h
     | done r'=>cases h
theorem pB {S R:Type} {body:S->Option (Lp S R)} {n:Nat} {s:S} {r:R} (h:Nw body n s=some r):∃ m o,n=m + 1/\body s=some o/\W0 (Nw body m) o=some r:=by
 cases n with
 | zero=>cases h
 | succ n=>
  unfold Nw at h
  cases hb:body s with
  | none=>rw [hb] at h; cases h
  | some o=>rw [hb] at h; exact⟨n,o,rfl,rfl,h⟩
theorem uZ {S R:Type} {body:S->Option (Lp S R)} (Inv:S->Prop) (μ:S->Nat) (Q:R->Prop) (h:∀ s,Inv s->∃ o,body s=some o/\(match o with | .next s'=>Inv s'/\μ s' < μ s | .done r=>Q r)) (s:S) (hs:Inv s):∃ r,B1 body s=some r/\Q r:=by
 generalize hn:μ s=n
 induction n using Nat.strongRecOn generalizing s with
 | _ n ih=>
  obtain⟨o,h1,h2⟩:=h s hs
  rw [Hp,h1]
  cases o with
  | next s'=>exact ih (μ s') (hn ▸ h2.2) s' h2.1 rfl
  | done r=>exact⟨r,rfl,h2⟩
def Xq {A R:Type} (F:(A->Option R)->A->Option R):Nat->A->Option R
 | 0,_=>none
 | n + 1,a=>F (Xq F n) a
open Classical in
noncomputable def Xm {A R:Type} (F:(A->Option R)->A->Option R) (a:A):Option R:=if h:∃ r,∃ n,Xq F n a=some r then some (Classical.choose h) else none
theorem oQ {A R:Type} {F:(A->Option R)->A->Option R} {a:A} {r:R} (h:Xm F a=some r):∃ n,Xq F n a=some r:=by
 unfold Xm at h
 split at h
 ·rename_i hex
  injection h with h
  subst h
  exact aOw hex
 ·cases h
theorem Rn {A R:Type} {F:(A->Option R)->A->Option R} {motive:A->R->Prop} (h:∀ rec:A->Option R,(∀ a r,rec a=some r->motive a r)->∀ a r,F rec a=some r->motive a r) (a:A) (r:R) (G:Xm F a=some r):motive a r:=by
 obtain⟨n,hn⟩:=oQ G
 have key:∀ n a r,Xq F n a=some r->motive a r:=by
  intro n
  induction n with
  | zero=>intro a r h; cases h
  | succ n ih=>intro a r h'; exact h _ ih a r h'
 exact key n a r hn
def Fh {R:Type} (x y:Option R):Prop:=∀ r,x=some r->y=some r
theorem Fh.refl {R:Type} {x:Option R}:Fh x x:=fun _ h=>h
theorem Fh.bind_ {R T:Type} {x y:Option R} {f g:R->Option T} (h:Fh x y) (k:∀ a,Fh (f a) (g a)):Fh (x.bind f) (y.bind g):=fun r hr=>by
 cases hx:x with
 | none=>rw [hx] at hr; cases hr
 | some a=>
  rw [hx] at hr
  rw [h a hx]
  exact k a r hr
theorem Fh.cond_ {R:Type} {b:Bool} {x x' y y':Option R} (h:Fh x x') (k:Fh y y'):Fh (cond b x y) (cond b x' y'):=by cases b <;> assumption
theorem Fh.it {S R:Type} {f g:S->Option (Lp S R)} (h:∀ s,Fh (f s) (g s)):∀ n s,Fh (Nw f n s) (Nw g n s)
 | 0,_=>fun r h=>by cases h
 | n + 1,s=>by
  unfold Nw
  refine Fh.bind_ (h s) fun o=>?_
  cases o with
  | next s'=>exact Fh.it h n s'
  | done r=>exact Fh.refl
theorem Fh.lp {S R:Type} {f g:S->Option (Lp S R)} (h:∀ s,Fh (f s) (g s)) (s:S):Fh (B1 f s) (B1 g s):=fun r hr=>by
 obtain⟨n,hn⟩:=R9 hr
 exact X0 (Fh.it h n s r hn)
def S4 {A R:Type} (F:(A->Option R)->A->Option R):Prop:=∀ p q:A->Option R,(∀ a,Fh (p a) (q a))->∀ a,Fh (F p a) (F q a)
theorem bO {A R:Type} {F:(A->Option R)->A->Option R} (hF:S4 F):∀ n a,Fh (Xq F n a) (Xq F (n + 1) a)
 | 0,_=>fun r h=>by cases h
 | n + 1,a=>hF _ _ (fun b=>bO hF n b) a
theorem lN {A R:Type} {F:(A->Option R)->A->Option R} (hF:S4 F) {n m:Nat} (h:n<=m) (a:A):Fh (Xq F n a) (Xq F m a):=by
 induction h with
 | refl=>exact Fh.refl
 | step _ ih=>exact fun r hr=>bO hF _ a r (ih r hr)
theorem mR {A R:Type} {F:(A->Option R)->A->Option R} (hF:S4 F) {n:Nat} {a:A} {r:R} (h:Xq F n a=some r):Xm F a=some r:=by
 have hex:∃ r,∃ n,Xq F n a=some r:=⟨r,n,h⟩
 unfold Xm
 rw [dif_pos hex]
 obtain⟨m,hm⟩:=aOw hex
 have h1:=lN hF (Nat.le_max_left n m) a _ h
 have h2:=lN hF (Nat.le_max_right n m) a _ hm
 rw [h1] at h2
 exact h2.symm
def up {S R:Type} (x:Option R):Option (Lp S R):=x.map .done
theorem bK {S R:Type} {x:Option R} {o:Lp S R} {it:S->Option R} {r:R} (h:up x=some o) (hn:W0 it o=some r):x=some r:=by
 cases x with
 | none=>cases h
 | some y=>
  injection h with h
  subst h
  exact hn
theorem Fh.up_ {S R:Type} {x y:Option R} (h:Fh x y):Fh (up x:Option (Lp S R)) (up y):=fun r hr=>by
 cases hx:x with
 | none=>rw [hx] at hr; cases hr
 | some a=>rw [hx] at hr; rw [h a hx]; exact hr
theorem Aq {α β:Type} {x:Option α} {f:α->Option β} {b:β} (h:x.bind f=some b):∃ a,x=some a/\f a=some b:=by
 cases x with
 | none=>cases h
 | some a=>exact⟨a,rfl,h⟩
theorem aD1 {α:Type} {b:Bool} {x y:α} {z:α} (hb:b=true) (h:cond b x y=z):x=z:=by subst hb; exact h
theorem aAz {α:Type} {b:Bool} {x y:α} {z:α} (hb:b=false) (h:cond b x y=z):y=z:=by subst hb; exact h
def W (x:Int):Int:=(x + 9223372036854775808) % 18446744073709551616 - 9223372036854775808
theorem Db {x:Int} (h:-9223372036854775808<=x/\x<=9223372036854775807):W x=x:=by unfold W; omega
theorem nB (x:Int):-9223372036854775808<=W x/\W x<=9223372036854775807:=by unfold W; omega
def u8 (x:Int):UInt8:=UInt8.ofNat (x % 256).toNat
theorem iD (x:Int):((u8 x).toNat:Int)=x % 256:=by
 unfold u8
 have h:(x % 256).toNat < 256:=by omega
 rw [aPq,aLg (by omega)]
 omega
def Bo {α:Type} (l:List α) (i:Int):Option α:=if i < 0 then none else l[i.toNat]?
theorem H6 {α:Type} {l:List α} {i:Int} {x:α} (h:Bo l i=some x):i=(i.toNat:Int):=by
 unfold Bo at h
 split at h
 ·cases h
 ·omega
theorem Cc {α:Type} {l:List α} {i:Int} {x:α} (h:Bo l i=some x):l[i.toNat]?=some x:=by
 unfold Bo at h
 split at h
 ·cases h
 ·exact h
theorem Cr {α:Type} {l:List α} {j:Nat}:Bo l (j:Int)=l[j]?:=by
 unfold Bo
 rw [if_neg (by omega),aIm]
theorem xG {α:Type} {l:List α} {i:Int} (h:0<=i):Bo l i=l[i.toNat]?:=by
 unfold Bo
 rw [if_neg (by omega)]
def Xx {α:Type} (l:List α) (a b:Int):Option (List α):=if 0<=a/\a<=b/\b<=l.length then some ((l.drop a.toNat).take (b.toNat - a.toNat)) else none
theorem Uy {α:Type} {l m:List α} {a b:Int} (h:Xx l a b=some m):∃ i j:Nat,a=(i:Int)/\b=(j:Int)/\i<=j/\j<=l.length/\m=(l.drop i).take (j - i):=by
 unfold Xx at h
 split at h
 ·rename_i h0
  injection h with h
  exact⟨a.toNat,b.toNat,by omega,by omega,by omega,by omega,h.symm⟩
 ·cases h
def Gs {α:Type} (k:Nat) (l m:List α):Option (List α):=if (l.length + m.length) * k<=140737488355328 then some (l ++ m) else none
theorem bU {α:Type} {k:Nat} {l m x:List α} (h:Gs k l m=some x):(l.length + m.length) * k<=140737488355328/\x=l ++ m:=by
 unfold Gs at h
 split at h
 ·rename_i h0
  injection h with h
  exact⟨h0,h.symm⟩
 ·cases h
def oL {α:Type} (k:Nat) (n:Int) (z:α):Option (List α):=if 0<=n/\n.toNat * k<=140737488355328/\n<=1000000 then some (List.replicate n.toNat z) else none
theorem oF {α:Type} {k:Nat} {n:Int} {z:α} {x:List α} (h:oL k n z=some x):∃ m:Nat,n=(m:Int)/\m * k<=140737488355328/\m<=1000000/\x=List.replicate m z:=by
 unfold oL at h
 split at h
 ·rename_i h0
  injection h with h
  exact⟨n.toNat,by omega,h0.2.1,by omega,h.symm⟩
 ·cases h
def Dj {α:Type} (l:List α) (j:Nat) (x:α):List α:=l.set j x
theorem V9 {α:Type} {l m:List α} {a b:Int} (h:Xx l a b=some m):a.toNat + (b.toNat - a.toNat)<=l.length:=by
 unfold Xx at h
 split at h
 ·omega
 ·cases h
theorem Zb {b:Bool} (h:b=true):(!b)=false:=by rw [h]; rfl
theorem Y3 {b:Bool} (h:b=false):(!b)=true:=by rw [h]; rfl
def aE0 {α:Type} [Inhabited α] (n:Nat) (l:List α):List α:=(List.range n).map fun i=>l[i]!
def V2 (x y:Int):Option Int:=if y=0 then none else some (x.tmod y)
theorem pD {x y z:Int} (h:V2 x y=some z):y≠0/\z=x.tmod y:=by
 unfold V2 at h
 split at h
 ·cases h
 ·rename_i h0
  injection h with h
  exact⟨h0,h.symm⟩
def Ml (x y:Int):Option Int:=if y=0 then none else some (W (x.tdiv y))
theorem nU {x y z:Int} (h:Ml x y=some z):y≠0/\z=W (x.tdiv y):=by
 unfold Ml at h
 split at h
 ·cases h
 ·rename_i h0
  injection h with h
  exact⟨h0,h.symm⟩
def uF (a b:ByteArray):Option ByteArray:=if a.size + b.size<=9223372036854775807 then some (a ++ b) else none
theorem oH {a b c:ByteArray} (h:uF a b=some c):a.size + b.size<=9223372036854775807/\c=a ++ b:=by
 unfold uF at h
 split at h
 ·rename_i h0
  injection h with h
  exact⟨h0,h.symm⟩
 ·cases h
def idxT (s:ByteArray) (i:Int):Option UInt8:=if i < 0 then none else s.data[i.toNat]?
def nP (k:IntKind) (x y:Int):Int:=k.wrap (BitVec.ofInt k.bits x &&& BitVec.ofInt k.bits y).toNat
def Qj (k:IntKind) (x y:Int):Int:=k.wrap (BitVec.ofInt k.bits x ^^^ BitVec.ofInt k.bits y).toNat
def S0 (k:IntKind) (x y:Int):Option Int:=if y < 0 then none else some (x.fdiv (2 ^ min y.toNat k.bits))
theorem nY {k:IntKind} {x y z:Int} (h:S0 k x y=some z):¬ y < 0/\z=x.fdiv (2 ^ min y.toNat k.bits):=by
 unfold S0 at h
 split at h
 ·cases h
 ·rename_i h0
  injection h with h
  exact⟨h0,h.symm⟩
def bG (k:IntKind) (x y:Int):Option Int:=if y < 0 then none else some (k.wrap (x * 2 ^ min y.toNat k.bits))
theorem nX {k:IntKind} {x y z:Int} (h:bG k x y=some z):¬ y < 0/\z=k.wrap (x * 2 ^ min y.toNat k.bits):=by
 unfold bG at h
 split at h
 ·cases h
 ·rename_i h0
  injection h with h
  exact⟨h0,h.symm⟩
open Classical in
noncomputable def gN {α β:Type} (l:List α) (a b:Option β):Option β:=if l=[] then (if a=b then a else none) else b
theorem aB8 {α β:Type} {l:List α} {a b:Option β} {r:β} (h:gN l a b=some r):b=some r:=by
 unfold gN at h
 split at h
 ·split at h
  ·rename_i e; rw [<- e]; exact h
  ·cases h
 ·exact h
theorem aBw {α β:Type} {l:List α} {a b:Option β} {r:β} (hl:l=[]) (h:gN l a b=some r):a=some r:=by
 unfold gN at h
 rw [if_pos hl] at h
 split at h
 ·exact h
 ·cases h
def K0 (s:ByteArray):List UInt8:=s.data.toList
def fS:List UInt8->List UInt8->Bool
 | _,[]=>false
 | [],_ :: _=>true
 | a :: x,b :: y=>a < b || (a == b && fS x y)
def tK {α:Type} (l:List α) (a m:Nat) (z:α):Option (List α):=if a + m<=l.length then some (l.take a ++ List.replicate m z ++ l.drop (a + m)) else none
theorem pT {α:Type} {l:List α} {a m:Nat} {z:α} {r:List α} (h:tK l a m z=some r):a + m<=l.length/\r=l.take a ++ List.replicate m z ++ l.drop (a + m):=by
 unfold tK at h
 split at h
 ·injection h with h; exact⟨by assumption,h.symm⟩
 ·cases h
def eO (s:ByteArray) (c:UInt8):Int:=match (List.range s.size).find? fun i=>s[i]! == c with | some i=>(i:Int) | none=>-1
section
variable {κ ν:Type} [DecidableEq κ]
def Ga (l:List (κ×ν)) (x:κ) (z:ν):ν:=match l.find? fun p=>decide (p.1=x) with | some p=>p.2 | none=>z
def Rw (l:List (κ×ν)) (x:κ):Bool:=l.any fun p=>decide (p.1=x)
def Kg (l:List (κ×ν)) (x:κ) (v:ν):List (κ×ν):=match l.findIdx? fun p=>decide (p.1=x) with | some i=>l.set i (x,v) | none=>l ++ [(x,v)]
end
end Go.Proofs.YtkioneinddihlaaGreat
