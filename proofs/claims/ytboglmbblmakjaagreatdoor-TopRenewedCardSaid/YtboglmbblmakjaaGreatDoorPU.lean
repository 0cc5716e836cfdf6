/- Plain texts, joined. No program is in sight here. -/
import Derived.Test.YtboglmbblmakjaaGreatDoorZz
import GoSem.Core.View
import Derived.Lib.Join
set_option linter.unusedVariables false
set_option linter.unusedSimpArgs false
namespace Go.Proofs.YtboglmbblmakjaaGreatDoor
section
theorem oi_ {α:Type} {a b:α} (h:some a=some b):a=b:=Option.some.inj h
open Go
inductive Lp (S R:Type) where
 | next (s:S)
 | done (r:R)
def U1 {S R:Type} (it:S->Option R):Lp S R->Option R
 | .next s=>it s
 | .done r=>some r
def Sz {S R:Type} (body:S->Option (Lp S R)):Nat->S->Option R
 | 0,_=>none
 | n + 1,s=>(body s).bind (U1 (Sz body n))
theorem mR {S R:Type} {body:S->Option (Lp S R)} {r:R}:∀ {n:Nat} {s:S},Sz body n s=some r->Sz body (n + 1) s=some r
 | 0,_,h=>by cases h
 | n + 1,s,h=>by
  unfold Sz at h ⊢
  cases hb:body s with
  | none=>rw [hb] at h; cases h
  | some o=>
   rw [hb] at h
   cases o with
   | next s'=>exact mR (n:=n) h
   | done r'=>exact h
theorem wI {S R:Type} {body:S->Option (Lp S R)} {r:R} {s:S} {n m:Nat} (h:Sz body n s=some r) (hm:n<=m):Sz body m s=some r:=by
 induction hm with
 | refl=>exact h
 | step _ ih=>exact mR ih
open Classical in
noncomputable def C7 {S R:Type} (body:S->Option (Lp S R)) (s:S):Option R:=if h:∃ r,∃ n,Sz body n s=some r then some (Classical.choose h) else none
theorem Z5 {S R:Type} {body:S->Option (Lp S R)} {s:S} {r:R} {n:Nat} (h:Sz body n s=some r):C7 body s=some r:=by
 have hex:∃ r,∃ n,Sz body n s=some r:=⟨r,n,h⟩
 unfold C7
 rw [dif_pos hex]
 obtain⟨m,hm⟩:=aU2 hex
 have h1:=wI h (Nat.le_max_left n m)
 have h2:=wI hm (Nat.le_max_right n m)
 rw [h1] at h2
 exact h2.symm
theorem X8 {S R:Type} {body:S->Option (Lp S R)} {s:S} {r:R} (h:C7 body s=some r):∃ n,Sz body n s=some r:=by
 unfold C7 at h
 split at h
 ·rename_i hex
  injection h with h
  subst h
  exact aU2 hex
 ·cases h
theorem G8 {S R:Type} (body:S->Option (Lp S R)) (s:S):C7 body s=(body s).bind (U1 (C7 body)):=by
 cases h:(body s).bind (U1 (C7 body)) with
 | some r=>
  cases hb:body s with
  | none=>rw [hb] at h; cases h
  | some o=>
   rw [hb] at h
   cases o with
   | next s'=>
    obtain⟨n,hn⟩:=X8 (show C7 body s'=some r from h)
    exact Z5 (n:=n + 1) (by unfold Sz; rw [hb]; exact hn)
   | done r'=>exact Z5 (n:=1) (by unfold Sz; rw [hb]; exact h)
 | none=>
  cases hl:C7 body s with
  | none=>rfl
  | some r=>
   obtain⟨n,hn⟩:=X8 hl
   cases n with
   | zero=>cases hn
   | succ n=>
    unfold Sz at hn
    cases hb:body s with
    | none=>rw [hb] at hn; cases hn
    | some o=>
     rw [hb] at hn h
     cases o with
     | next s'=>rw [show (some (Lp.next s')).bind (U1 (C7 body))=C7 body s' from rfl,Z5 hn] at h; cases h
     | done r'=>cases h
theorem yR {S R:Type} {body:S->Option (Lp S R)} {n:Nat} {s:S} {r:R} (h:Sz body n s=some r):∃ m o,n=m + 1/\body s=some o/\U1 (Sz body m) o=some r:=by
 cases n with
 | zero=>cases h
 | succ n=>
  unfold Sz at h
  cases hb:body s with
  | none=>rw [hb] at h; cases h
  | some o=>rw [hb] at h; exact⟨n,o,rfl,rfl,h⟩
theorem aFe {S R:Type} {body:S->Option (Lp S R)} (Inv:S->Prop) (μ:S->Nat) (Q:R->Prop) (h:∀ s,Inv s->∃ o,body s=some o/\(match o with | .next s'=>Inv s'/\μ s' < μ s | .done r=>Q r)) (s:S) (hs:Inv s):∃ r,C7 body s=some r/\Q r:=by
 generalize hn:μ s=n
 induction n using Nat.strongRecOn generalizing s with
 | _ n ih=>
  obtain⟨o,h1,h2⟩:=h s hs
  rw [G8,h1]
  cases o with
  | next s'=>exact ih (μ s') (hn ▸ h2.2) s' h2.1 rfl
  | done r=>exact⟨r,rfl,h2⟩
def iW {A R:Type} (F:(A->Option R)->A->Option R):Nat->A->Option R
 | 0,_=>none
 | n + 1,a=>F (iW F n) a
open Classical in
noncomputable def aB {A R:Type} (F:(A->Option R)->A->Option R) (a:A):Option R:=if h:∃ r,∃ n,iW F n a=some r then some (Classical.choose h) else none
theorem aBa {A R:Type} {F:(A->Option R)->A->Option R} {a:A} {r:R} (h:aB F a=some r):∃ n,iW F n a=some r:=by
 unfold aB at h
 split at h
 ·rename_i hex
  injection h with h
  subst h
  exact aU2 hex
 ·cases h
theorem Ro {A R:Type} {F:(A->Option R)->A->Option R} {motive:A->R->Prop} (h:∀ rec:A->Option R,(∀ a r,rec a=some r->motive a r)->∀ a r,F rec a=some r->motive a r) (a:A) (r:R) (G:aB F a=some r):motive a r:=by
 obtain⟨n,hn⟩:=aBa G
 have key:∀ n a r,iW F n a=some r->motive a r:=by
  intro n
  induction n with
  | zero=>intro a r h; cases h
  | succ n ih=>intro a r h'; exact h _ ih a r h'
 exact key n a r hn
def As {R:Type} (x y:Option R):Prop:=∀ r,x=some r->y=some r
theorem As.refl {R:Type} {x:Option R}:As x x:=fun _ h=>h
theorem As.bind_ {R T:Type} {x y:Option R} {f g:R->Option T} (h:As x y) (k:∀ a,As (f a) (g a)):As (x.bind f) (y.bind g):=fun r hr=>by
 cases hx:x with
 | none=>rw [hx] at hr; cases hr
 | some a=>
  rw [hx] at hr
  rw [h a hx]
  exact k a r hr
theorem As.cond_ {R:Type} {b:Bool} {x x' y y':Option R} (h:As x x') (k:As y y'):As (cond b x y) (cond b x' y'):=by cases b <;> assumption
theorem As.it {S R:Type} {f g:S->Option (Lp S R)} (h:∀ s,As (f s) (g s)):∀ n s,As (Sz f n s) (Sz g n s)
 | 0,_=>fun r h=>by cases h
 | n + 1,s=>by
  unfold Sz
  refine As.bind_ (h s) fun o=>?_
  cases o with
  | next s'=>exact As.it h n s'
  | done r=>exact As.refl
theorem As.lp {S R:Type} {f g:S->Option (Lp S R)} (h:∀ s,As (f s) (g s)) (s:S):As (C7 f s) (C7 g s):=fun r hr=>by
 obtain⟨n,hn⟩:=X8 hr
 exact Z5 (As.it h n s r hn)
def Wi {A R:Type} (F:(A->Option R)->A->Option R):Prop:=∀ p q:A->Option R,(∀ a,As (p a) (q a))->∀ a,As (F p a) (F q a)
theorem nC {A R:Type} {F:(A->Option R)->A->Option R} (hF:Wi F):∀ n a,As (iW F n a) (iW F (n + 1) a)
 | 0,_=>fun r h=>by cases h
 | n + 1,a=>hF _ _ (fun b=>nC hF n b) a
theorem wJ {A R:Type} {F:(A->Option R)->A->Option R} (hF:Wi F) {n m:Nat} (h:n<=m) (a:A):As (iW F n a) (iW F m a):=by
 induction h with
 | refl=>exact As.refl
 | step _ ih=>exact fun r hr=>nC hF _ a r (ih r hr)
theorem aG8 {A R:Type} {F:(A->Option R)->A->Option R} (hF:Wi F) {n:Nat} {a:A} {r:R} (h:iW F n a=some r):aB F a=some r:=by
 have hex:∃ r,∃ n,iW F n a=some r:=⟨r,n,h⟩
 unfold aB
 rw [dif_pos hex]
 obtain⟨m,hm⟩:=aU2 hex
 have h1:=wJ hF (Nat.le_max_left n m) a _ h
 have h2:=wJ hF (Nat.le_max_right n m) a _ hm
 rw [h1] at h2
 exact h2.symm
def up {S R:Type} (x:Option R):Option (Lp S R):=x.map .done
theorem Lt {S R:Type} {x:Option R} {o:Lp S R} {it:S->Option R} {r:R} (h:up x=some o) (hn:U1 it o=some r):x=some r:=by
 cases x with
 | none=>cases h
 | some y=>
  injection h with h
  subst h
  exact hn
theorem As.up_ {S R:Type} {x y:Option R} (h:As x y):As (up x:Option (Lp S R)) (up y):=fun r hr=>by
 cases hx:x with
 | none=>rw [hx] at hr; cases hr
 | some a=>rw [hx] at hr; rw [h a hx]; exact hr
theorem Af {α β:Type} {x:Option α} {f:α->Option β} {b:β} (h:x.bind f=some b):∃ a,x=some a/\f a=some b:=by
 cases x with
 | none=>cases h
 | some a=>exact⟨a,rfl,h⟩
theorem aN3 {α:Type} {b:Bool} {x y:α} {z:α} (hb:b=true) (h:cond b x y=z):x=z:=by subst hb; exact h
theorem aO0 {α:Type} {b:Bool} {x y:α} {z:α} (hb:b=false) (h:cond b x y=z):y=z:=by subst hb; exact h
def W (x:Int):Int:=(x + 9223372036854775808) % 18446744073709551616 - 9223372036854775808
theorem Hh {x:Int} (h:-9223372036854775808<=x/\x<=9223372036854775807):W x=x:=by unfold W; omega
theorem xX (x:Int):-9223372036854775808<=W x/\W x<=9223372036854775807:=by unfold W; omega
def u8 (x:Int):UInt8:=UInt8.ofNat (x % 256).toNat
theorem qW (x:Int):((u8 x).toNat:Int)=x % 256:=by
 unfold u8
 have h:(x % 256).toNat < 256:=by omega
 rw [aUr,aYa (by omega)]
 omega
def Bn {α:Type} (l:List α) (i:Int):Option α:=if i < 0 then none else l[i.toNat]?
theorem L0 {α:Type} {l:List α} {i:Int} {x:α} (h:Bn l i=some x):i=(i.toNat:Int):=by
 unfold Bn at h
 split at h
 ·cases h
 ·omega
theorem Cf {α:Type} {l:List α} {i:Int} {x:α} (h:Bn l i=some x):l[i.toNat]?=some x:=by
 unfold Bn at h
 split at h
 ·cases h
 ·exact h
theorem F4 {α:Type} {l:List α} {j:Nat}:Bn l (j:Int)=l[j]?:=by
 unfold Bn
 rw [if_neg (by omega),aQb]
theorem aIo {α:Type} {l:List α} {i:Int} (h:0<=i):Bn l i=l[i.toNat]?:=by
 unfold Bn
 rw [if_neg (by omega)]
def pY {α:Type} (l:List α) (a b:Int):Option (List α):=if 0<=a/\a<=b/\b<=l.length then some ((l.drop a.toNat).take (b.toNat - a.toNat)) else none
theorem aA {α:Type} {l m:List α} {a b:Int} (h:pY l a b=some m):∃ i j:Nat,a=(i:Int)/\b=(j:Int)/\i<=j/\j<=l.length/\m=(l.drop i).take (j - i):=by
 unfold pY at h
 split at h
 ·rename_i h0
  injection h with h
  exact⟨a.toNat,b.toNat,by omega,by omega,by omega,by omega,h.symm⟩
 ·cases h
def Hc {α:Type} (k:Nat) (l m:List α):Option (List α):=if (l.length + m.length) * k<=140737488355328 then some (l ++ m) else none
theorem zG {α:Type} {k:Nat} {l m x:List α} (h:Hc k l m=some x):(l.length + m.length) * k<=140737488355328/\x=l ++ m:=by
 unfold Hc at h
 split at h
 ·rename_i h0
  injection h with h
  exact⟨h0,h.symm⟩
 ·cases h
def jI {α:Type} (k:Nat) (n:Int) (z:α):Option (List α):=if 0<=n/\n.toNat * k<=140737488355328/\n<=1000000 then some (List.replicate n.toNat z) else none
theorem aA9 {α:Type} {k:Nat} {n:Int} {z:α} {x:List α} (h:jI k n z=some x):∃ m:Nat,n=(m:Int)/\m * k<=140737488355328/\m<=1000000/\x=List.replicate m z:=by
 unfold jI at h
 split at h
 ·rename_i h0
  injection h with h
  exact⟨n.toNat,by omega,h0.2.1,by omega,h.symm⟩
 ·cases h
def Jd {α:Type} (l:List α) (j:Nat) (x:α):List α:=l.set j x
theorem aP3 {α:Type} {l m:List α} {a b:Int} (h:pY l a b=some m):a.toNat + (b.toNat - a.toNat)<=l.length:=by
 unfold pY at h
 split at h
 ·omega
 ·cases h
theorem kE {b:Bool} (h:b=true):(!b)=false:=by rw [h]; rfl
theorem iQ {b:Bool} (h:b=false):(!b)=true:=by rw [h]; rfl
def aTq {α:Type} [Inhabited α] (n:Nat) (l:List α):List α:=(List.range n).map fun i=>l[i]!
def dW (x y:Int):Option Int:=if y=0 then none else some (x.tmod y)
theorem zN {x y z:Int} (h:dW x y=some z):y≠0/\z=x.tmod y:=by
 unfold dW at h
 split at h
 ·cases h
 ·rename_i h0
  injection h with h
  exact⟨h0,h.symm⟩
def cD (x y:Int):Option Int:=if y=0 then none else some (W (x.tdiv y))
theorem zJ {x y z:Int} (h:cD x y=some z):y≠0/\z=W (x.tdiv y):=by
 unfold cD at h
 split at h
 ·cases h
 ·rename_i h0
  injection h with h
  exact⟨h0,h.symm⟩
def aFv (a b:ByteArray):Option ByteArray:=if a.size + b.size<=9223372036854775807 then some (a ++ b) else none
theorem zW {a b c:ByteArray} (h:aFv a b=some c):a.size + b.size<=9223372036854775807/\c=a ++ b:=by
 unfold aFv at h
 split at h
 ·rename_i h0
  injection h with h
  exact⟨h0,h.symm⟩
 ·cases h
def Wo (s:ByteArray) (i:Int):Option UInt8:=if i < 0 then none else s.data[i.toNat]?
def W7 (k:IntKind) (x y:Int):Int:=k.wrap (BitVec.ofInt k.bits x &&& BitVec.ofInt k.bits y).toNat
def cA (k:IntKind) (x y:Int):Int:=k.wrap (BitVec.ofInt k.bits x ||| BitVec.ofInt k.bits y).toNat
def bS (k:IntKind) (x y:Int):Int:=k.wrap (BitVec.ofInt k.bits x ^^^ BitVec.ofInt k.bits y).toNat
def aFn (k:IntKind) (x:Int):Int:=bS k (if k.signed then -1 else k.max) x
def Qn (k:IntKind) (x y:Int):Int:=k.wrap (BitVec.ofInt k.bits x &&& ~~~(BitVec.ofInt k.bits y)).toNat
def Q3 (k:IntKind) (x y:Int):Option Int:=if y < 0 then none else some (x.fdiv (2 ^ min y.toNat k.bits))
theorem zE {k:IntKind} {x y z:Int} (h:Q3 k x y=some z):¬ y < 0/\z=x.fdiv (2 ^ min y.toNat k.bits):=by
 unfold Q3 at h
 split at h
 ·cases h
 ·rename_i h0
  injection h with h
  exact⟨h0,h.symm⟩
def cE (k:IntKind) (x y:Int):Option Int:=if y < 0 then none else some (k.wrap (x * 2 ^ min y.toNat k.bits))
theorem zV {k:IntKind} {x y z:Int} (h:cE k x y=some z):¬ y < 0/\z=k.wrap (x * 2 ^ min y.toNat k.bits):=by
 unfold cE at h
 split at h
 ·cases h
 ·rename_i h0
  injection h with h
  exact⟨h0,h.symm⟩
open Classical in
noncomputable def Yr {α β:Type} (l:List α) (a b:Option β):Option β:=if l=[] then (if a=b then a else none) else b
theorem cR {α β:Type} {l:List α} {a b:Option β} {r:β} (h:Yr l a b=some r):b=some r:=by
 unfold Yr at h
 split at h
 ·split at h
  ·rename_i e; rw [<- e]; exact h
  ·cases h
 ·exact h
theorem eC {α β:Type} {l:List α} {a b:Option β} {r:β} (hl:l=[]) (h:Yr l a b=some r):a=some r:=by
 unfold Yr at h
 rw [if_pos hl] at h
 split at h
 ·exact h
 ·cases h
def Q2 (s:ByteArray):List UInt8:=s.data.toList
def eM (s:ByteArray) (a b:Int):Option ByteArray:=if 0<=a/\a<=b/\b<=s.size then some (s.extract a.toNat b.toNat) else none
def tP:List UInt8->List UInt8->Bool
 | _,[]=>false
 | [],_ :: _=>true
 | a :: x,b :: y=>a < b || (a == b && tP x y)
def aIk {α:Type} (l:List α) (a m:Nat) (z:α):Option (List α):=if a + m<=l.length then some (l.take a ++ List.replicate m z ++ l.drop (a + m)) else none
theorem aA5 {α:Type} {l:List α} {a m:Nat} {z:α} {r:List α} (h:aIk l a m z=some r):a + m<=l.length/\r=l.take a ++ List.replicate m z ++ l.drop (a + m):=by
 unfold aIk at h
 split at h
 ·injection h with h; exact⟨by assumption,h.symm⟩
 ·cases h
def pH (s:ByteArray) (c:UInt8):Int:=match (List.range s.size).find? fun i=>s[i]! == c with | some i=>(i:Int) | none=>-1
def zF {α R:Type} (o:Option α) (a:R) (b:α->R):R:=match o with | none=>a | some v=>b v
theorem aP6 {α R:Type} {a:R} {b:α->R} {r:R} (h:zF (none:Option α) a b=r):a=r:=h
theorem aO2 {α R:Type} {a:R} {b:α->R} {r:R} {v:α} (h:zF (some v) a b=r):b v=r:=h
section
variable {κ ν:Type} [DecidableEq κ]
def Pm (l:List (κ×ν)) (x:κ) (z:ν):ν:=match l.find? fun p=>decide (p.1=x) with | some p=>p.2 | none=>z
def dE (l:List (κ×ν)) (x:κ):Bool:=l.any fun p=>decide (p.1=x)
def Rc (l:List (κ×ν)) (x:κ) (v:ν):List (κ×ν):=match l.findIdx? fun p=>decide (p.1=x) with | some i=>l.set i (x,v) | none=>l ++ [(x,v)]
end
end
section
open Go
section
variable {α S R:Type}
def rH (body:α->S->Option (Lp S R)) (ed:S->Option (Lp S R)):List α->S->Option R
 | [],s=>(ed s).bind (U1 fun _=>none)
 | p :: l,s=>(body p s).bind (U1 (rH body ed l))
open Classical in
noncomputable def sG (body:α->S->Option (Lp S R)) (ed:S->Option (Lp S R)) (l:List α) (s:S):Option R:=
 if h:∃ r,∀ l',l'.Perm l->rH body ed l' s=some r then some (Classical.choose h) else none
variable {body:α->S->Option (Lp S R)} {ed:S->Option (Lp S R)} {l:List α} {s:S} {r:R}
theorem vC (h:sG body ed l s=some r):∀ l',l'.Perm l->rH body ed l' s=some r:=by
 unfold sG at h
 split at h
 ·rename_i hex
  injection h with h
  subst h
  exact aU2 hex
 ·cases h
def rest (n:Nat) (seen:List Nat):List Nat:=(List.range n).filter fun i=>!seen.contains i
theorem kG {n:Nat} {seen:List Nat} {i:Nat}:i∈rest n seen↔i < n/\i∉seen:=by simp [rest]
theorem xP (n:Nat) (seen:List Nat):(rest n seen).Nodup:=List.nodup_range.filter _
theorem aCf (n:Nat):rest n []=List.range n:=by
 unfold rest
 rw [List.filter_eq_self]
 intro a _
 rfl
theorem nD {n:Nat} {seen:List Nat} {i:Nat} (hi:i < n) (hn:i∉seen):(rest n seen).Perm (i :: rest n (seen ++ [i])):=by
 rw [List.perm_ext_iff_of_nodup (xP _ _) (List.nodup_cons.2 ⟨by rw [kG]; simp,xP _ _⟩)]
 intro a
 simp only [aF6,kG,aKi,aGr,aSy]
 constructor
 ·rintro⟨h1,h2⟩
  by_cases h:a=i
  ·exact .inl h
  ·exact .inr ⟨h1,fun hh=>hh.elim h2 h⟩
 ·rintro (rfl | ⟨h1,h2⟩)
  ·exact⟨hi,hn⟩
  ·exact⟨h1,fun hh=>h2 (.inl hh)⟩
theorem aIx {n:Nat} {seen:List Nat} {i:Nat} (hi:i < n) (hn:i∉seen):(rest n (seen ++ [i])).length < (rest n seen).length:=by
 rw [(nD hi hn).length_eq]
 simp
theorem yW (l:List α):(List.range l.length).filterMap (l[·]?)=l:=by
 induction l with
 | nil=>rfl
 | cons x l ih=>
  rw [aP9,List.range_succ_eq_map,List.filterMap_cons]
  simp only [List.getElem?_cons_zero,List.filterMap_map]
  exact congrArg (x :: ·) ih
def MH (body:α->S->Option (Lp S R)) (ed:S->Option (Lp S R)) (l:List α) (r:R) (seen:List Nat) (s:S):Prop:=
 ∀ l',l'.Perm ((rest l.length seen).filterMap (l[·]?))->rH body ed l' s=some r
theorem MH.init (h:sG body ed l s=some r):MH body ed l r [] s:=by
 intro l' hl
 rw [aCf,yW] at hl
 exact vC h l' hl
theorem MH.fin {seen:List Nat} (h:MH body ed l r seen s) (ha:∀ i,i < l.length->i∈seen):∃ o,ed s=some o/\U1 (fun _=>none) o=some r:=by
 have h0:rest l.length seen=[]:=by
  rw [List.eq_nil_iff_forall_not_mem]
  intro i hi
  rw [kG] at hi
  exact hi.2 (ha i hi.1)
 have:=h [] (by rw [h0]; exact .refl _)
 unfold rH at this
 cases hf:ed s with
 | none=>rw [hf] at this; cases this
 | some o=>rw [hf] at this; exact⟨o,rfl,this⟩
open Classical in
noncomputable def itH (body:α->S->Option (Lp S R)) (ed:S->Option (Lp S R)) (l:List α) (r:R) (seen:List Nat) (s:S):Option R:=if MH body ed l r seen s then some r else none
theorem rW {seen:List Nat} {r':R} (h:U1 (itH body ed l r seen) (.next s)=some r'):MH body ed l r seen s:=by
 have h:itH body ed l r seen s=some r':=h
 unfold itH at h
 split at h
 ·assumption
 ·cases h
theorem MH.el {seen:List Nat} {i:Nat} {p:α} (h:MH body ed l r seen s) (hp:l[i]?=some p) (hn:i∉seen):∃ o,body p s=some o/\U1 (itH body ed l r (seen ++ [i])) o=some r:=by
 have hi:i < l.length:=(aBe.1 hp).1
 have key:∀ l',l'.Perm ((rest l.length (seen ++ [i])).filterMap (l[·]?))->rH body ed (p :: l') s=some r:=by
  intro l' hl
  refine h _ ?_
  have h1:=(nD hi hn).filterMap (l[·]?)
  rw [List.filterMap_cons,hp] at h1
  exact (hl.cons p).trans h1.symm
 have h0:=key _ (.refl _)
 unfold rH at h0
 cases hb:body p s with
 | none=>rw [hb] at h0; cases h0
 | some o=>
  rw [hb] at h0
  refine⟨o,rfl,?_⟩
  cases o with
  | done r'=>exact h0
  | next s'=>
   have:MH body ed l r (seen ++ [i]) s':=by
    intro l' hl
    have:=key l' hl
    unfold rH at this
    rw [hb] at this
    exact this
   show itH body ed l r (seen ++ [i]) s'=some r
   unfold itH
   rw [if_pos this]
end
end
section
def tO {S:Type} (rnd:S->Option (Nat×S)) (q:Nat×S):Option (Bool×(Nat×S)):=match q with
 | (0,s)=>(rnd s).map fun y=>(Nat.beq y.1 0,y)
 | _=>none
theorem W6 {S:Type} {rnd:S->Option (Nat×S)} {q:Nat×S} {y:Bool×(Nat×S)} (h:tO rnd q=some y):∃ s z,q=(0,s)/\y=(Nat.beq z.1 0,z)/\rnd s=some z:=by
 obtain⟨c,s⟩:=q
 cases c with
 | succ c=>exact nomatch (show (none:Option (Bool×(Nat×S)))=some y from h)
 | zero=>
  replace h:(rnd s).map (fun y=>(Nat.beq y.1 0,y))=some y:=h
  cases hr:rnd s with
  | none=>rw [hr] at h; cases h
  | some z=>rw [hr] at h; injection h with h; exact⟨s,z,rfl,h.symm,hr⟩
theorem jc_ {R:Type} {c k:Nat} {X Y:Option R} {r:R} (h:cond (Nat.beq c k) X Y=some r):(c=k/\X=some r)\/Y=some r:=by
 cases hb:Nat.beq c k with
 | true=>rw [hb] at h; exact .inl ⟨aFs hb,h⟩
 | false=>rw [hb] at h; exact .inr h
end
section
def N8 (elems:List ByteArray) (sep:ByteArray):Option ByteArray:=
 if elems.length<=1000000/\(Go.Lib.join (elems.map (·.data.toList)) sep.data.toList).length<=1000000 then some ⟨(Go.Lib.join (elems.map (·.data.toList)) sep.data.toList).toArray⟩ else none
end
end Go.Proofs.YtboglmbblmakjaaGreatDoor
