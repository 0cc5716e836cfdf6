/- Plain texts, joined. No program is in sight here. -/
import Derived.Test.YtobamahlipiakaaGreatZz
import GoSem.Core.View
set_option linter.unusedVariables false
set_option linter.unusedSimpArgs false
namespace Go.Proofs.YtobamahlipiakaaGreat
section
theorem oi_ {α:Type} {a b:α} (h:some a=some b):a=b:=Option.some.inj h
open Go
inductive Lp (S R:Type) where
 | next (s:S)
 | done (r:R)
def R4 {S R:Type} (it:S->Option R):Lp S R->Option R
 | .next s=>it s
 | .done r=>some r
def Q6 {S R:Type} (body:S->Option (Lp S R)):Nat->S->Option R
 | 0,_=>none
 | n + 1,s=>(body s).bind (R4 (Q6 body n))
theorem lH {S R:Type} {body:S->Option (Lp S R)} {r:R}:∀ {n:Nat} {s:S},Q6 body n s=some r->Q6 body (n + 1) s=some r
 | 0,_,h=>by cases h
 | n + 1,s,h=>by
  unfold Q6 at h ⊢
  cases hb:body s with
  | none=>rw [hb] at h; cases h
  | some o=>
   rw [hb] at h
   cases o with
   | next s'=>exact lH (n:=n) h
   | done r'=>exact h
theorem yB {S R:Type} {body:S->Option (Lp S R)} {r:R} {s:S} {n m:Nat} (h:Q6 body n s=some r) (hm:n<=m):Q6 body m s=some r:=by
 induction hm with
 | refl=>exact h
 | step _ ih=>exact lH ih
open Classical in
noncomputable def Bz {S R:Type} (body:S->Option (Lp S R)) (s:S):Option R:=if h:∃ r,∃ n,Q6 body n s=some r then some (Classical.choose h) else none
theorem dP {S R:Type} {body:S->Option (Lp S R)} {s:S} {r:R} {n:Nat} (h:Q6 body n s=some r):Bz body s=some r:=by
 have hex:∃ r,∃ n,Q6 body n s=some r:=⟨r,n,h⟩
 unfold Bz
 rw [dif_pos hex]
 obtain⟨m,hm⟩:=aWt hex
 have h1:=yB h (Nat.le_max_left n m)
 have h2:=yB hm (Nat.le_max_right n m)
 rw [h1] at h2
 exact h2.symm
theorem Wf {S R:Type} {body:S->Option (Lp S R)} {s:S} {r:R} (h:Bz body s=some r):∃ n,Q6 body n s=some r:=by
 unfold Bz at h
 split at h
 ·rename_i hex
  injection h with h
  subst h
  exact aWt hex
 ·cases h
theorem Fj {S R:Type} (body:S->Option (Lp S R)) (s:S):Bz body s=(body s).bind (R4 (Bz body)):=by
 cases h:(body s).bind (R4 (Bz body)) with
 | some r=>
  cases hb:body s with
  | none=>rw [hb] at h; cases h
  | some o=>
   rw [hb] at h
   cases o with
   | next s'=>
    obtain⟨n,hn⟩:=Wf (show Bz body s'=some r from h)
    exact dP (n:=n + 1) (by unfold Q6; rw [hb]; exact hn)
   | done r'=>exact dP (n:=1) (by unfold Q6; rw [hb]; exact h)
 | none=>
  cases hl:Bz body s with
  | none=>rfl
  | some r=>
   obtain⟨n,hn⟩:=Wf hl
   cases n with
   | zero=>cases hn
   | succ n=>
    unfold Q6 at hn
    cases hb:body s with
    | none=>rw [hb] at hn; cases hn
    | some o=>
     rw [hb] at hn h
     cases o with
     | next s'=>rw [show (some (Lp.next s')).bind (R4 (Bz body))=Bz body s' from rfl,dP hn] at h; cases h
     | done r'=>cases h
theorem aAq {S R:Type} {body:S->Option (Lp S R)} {n:Nat} {s:S} {r:R} (h:Q6 body n s=some r):∃ m o,n=m + 1/\body s=some o/\R4 (Q6 body m) o=some r:=by
 cases n with
 | zero=>cases h
 | succ n=>
  unfold Q6 at h
  cases hb:body s with
  | none=>rw [hb] at h; cases h
  | some o=>rw [hb] at h; exact⟨n,o,rfl,rfl,h⟩
theorem aE5 {S R:Type} {body:S->Option (Lp S R)} (Inv:S->Prop) (μ:S->Nat) (Q:R->Prop) (h:∀ s,Inv s->∃ o,body s=some o/\(match o with | .next s'=>Inv s'/\μ s' < μ s | .done r=>Q r)) (s:S) (hs:Inv s):∃ r,Bz body s=some r/\Q r:=by
 generalize hn:μ s=n
 induction n using Nat.strongRecOn generalizing s with
 | _ n ih=>
  obtain⟨o,h1,h2⟩:=h s hs
  rw [Fj,h1]
  cases o with
  | next s'=>exact ih (μ s') (hn ▸ h2.2) s' h2.1 rfl
  | done r=>exact⟨r,rfl,h2⟩
def Xt {A R:Type} (F:(A->Option R)->A->Option R):Nat->A->Option R
 | 0,_=>none
 | n + 1,a=>F (Xt F n) a
open Classical in
noncomputable def U0 {A R:Type} (F:(A->Option R)->A->Option R) (a:A):Option R:=if h:∃ r,∃ n,Xt F n a=some r then some (Classical.choose h) else none
theorem yY {A R:Type} {F:(A->Option R)->A->Option R} {a:A} {r:R} (h:U0 F a=some r):∃ n,Xt F n a=some r:=by
 unfold U0 at h
 split at h
 ·rename_i hex
  injection h with h
  subst h
  exact aWt hex
 ·cases h
theorem N8 {A R:Type} {F:(A->Option R)->A->Option R} {motive:A->R->Prop} (h:∀ rec:A->Option R,(∀ a r,rec a=some r->motive a r)->∀ a r,F rec a=some r->motive a r) (a:A) (r:R) (G:U0 F a=some r):motive a r:=by
 obtain⟨n,hn⟩:=yY G
 have key:∀ n a r,Xt F n a=some r->motive a r:=by
  intro n
  induction n with
  | zero=>intro a r h; cases h
  | succ n ih=>intro a r h'; exact h _ ih a r h'
 exact key n a r hn
def Dq {R:Type} (x y:Option R):Prop:=∀ r,x=some r->y=some r
theorem Dq.refl {R:Type} {x:Option R}:Dq x x:=fun _ h=>h
theorem Dq.bind_ {R T:Type} {x y:Option R} {f g:R->Option T} (h:Dq x y) (k:∀ a,Dq (f a) (g a)):Dq (x.bind f) (y.bind g):=fun r hr=>by
 cases hx:x with
 | none=>rw [hx] at hr; cases hr
 | some a=>
  rw [hx] at hr
  rw [h a hx]
  exact k a r hr
theorem Dq.cond_ {R:Type} {b:Bool} {x x' y y':Option R} (h:Dq x x') (k:Dq y y'):Dq (cond b x y) (cond b x' y'):=by cases b <;> assumption
theorem Dq.it {S R:Type} {f g:S->Option (Lp S R)} (h:∀ s,Dq (f s) (g s)):∀ n s,Dq (Q6 f n s) (Q6 g n s)
 | 0,_=>fun r h=>by cases h
 | n + 1,s=>by
  unfold Q6
  refine Dq.bind_ (h s) fun o=>?_
  cases o with
  | next s'=>exact Dq.it h n s'
  | done r=>exact Dq.refl
theorem Dq.lp {S R:Type} {f g:S->Option (Lp S R)} (h:∀ s,Dq (f s) (g s)) (s:S):Dq (Bz f s) (Bz g s):=fun r hr=>by
 obtain⟨n,hn⟩:=Wf hr
 exact dP (Dq.it h n s r hn)
def Rh {A R:Type} (F:(A->Option R)->A->Option R):Prop:=∀ p q:A->Option R,(∀ a,Dq (p a) (q a))->∀ a,Dq (F p a) (F q a)
theorem lQ {A R:Type} {F:(A->Option R)->A->Option R} (hF:Rh F):∀ n a,Dq (Xt F n a) (Xt F (n + 1) a)
 | 0,_=>fun r h=>by cases h
 | n + 1,a=>hF _ _ (fun b=>lQ hF n b) a
theorem yF {A R:Type} {F:(A->Option R)->A->Option R} (hF:Rh F) {n m:Nat} (h:n<=m) (a:A):Dq (Xt F n a) (Xt F m a):=by
 induction h with
 | refl=>exact Dq.refl
 | step _ ih=>exact fun r hr=>lQ hF _ a r (ih r hr)
theorem nP {A R:Type} {F:(A->Option R)->A->Option R} (hF:Rh F) {n:Nat} {a:A} {r:R} (h:Xt F n a=some r):U0 F a=some r:=by
 have hex:∃ r,∃ n,Xt F n a=some r:=⟨r,n,h⟩
 unfold U0
 rw [dif_pos hex]
 obtain⟨m,hm⟩:=aWt hex
 have h1:=yF hF (Nat.le_max_left n m) a _ h
 have h2:=yF hF (Nat.le_max_right n m) a _ hm
 rw [h1] at h2
 exact h2.symm
def up {S R:Type} (x:Option R):Option (Lp S R):=x.map .done
theorem sU {S R:Type} {x:Option R} {o:Lp S R} {it:S->Option R} {r:R} (h:up x=some o) (hn:R4 it o=some r):x=some r:=by
 cases x with
 | none=>cases h
 | some y=>
  injection h with h
  subst h
  exact hn
theorem Dq.up_ {S R:Type} {x y:Option R} (h:Dq x y):Dq (up x:Option (Lp S R)) (up y):=fun r hr=>by
 cases hx:x with
 | none=>rw [hx] at hr; cases hr
 | some a=>rw [hx] at hr; rw [h a hx]; exact hr
theorem An {α β:Type} {x:Option α} {f:α->Option β} {b:β} (h:x.bind f=some b):∃ a,x=some a/\f a=some b:=by
 cases x with
 | none=>cases h
 | some a=>exact⟨a,rfl,h⟩
theorem aM0 {α:Type} {b:Bool} {x y:α} {z:α} (hb:b=true) (h:cond b x y=z):x=z:=by subst hb; exact h
theorem aN0 {α:Type} {b:Bool} {x y:α} {z:α} (hb:b=false) (h:cond b x y=z):y=z:=by subst hb; exact h
def W (x:Int):Int:=(x + 9223372036854775808) % 18446744073709551616 - 9223372036854775808
theorem Ej {x:Int} (h:-9223372036854775808<=x/\x<=9223372036854775807):W x=x:=by unfold W; omega
theorem xZ (x:Int):-9223372036854775808<=W x/\W x<=9223372036854775807:=by unfold W; omega
def u8 (x:Int):UInt8:=UInt8.ofNat (x % 256).toNat
theorem sM (x:Int):((u8 x).toNat:Int)=x % 256:=by
 unfold u8
 have h:(x % 256).toNat < 256:=by omega
 rw [aXk,bAl (by omega)]
 omega
def Bm {α:Type} (l:List α) (i:Int):Option α:=if i < 0 then none else l[i.toNat]?
theorem Tl {α:Type} {l:List α} {i:Int} {x:α} (h:Bm l i=some x):i=(i.toNat:Int):=by
 unfold Bm at h
 split at h
 ·cases h
 ·omega
theorem D5 {α:Type} {l:List α} {i:Int} {x:α} (h:Bm l i=some x):l[i.toNat]?=some x:=by
 unfold Bm at h
 split at h
 ·cases h
 ·exact h
theorem Ef {α:Type} {l:List α} {j:Nat}:Bm l (j:Int)=l[j]?:=by
 unfold Bm
 rw [if_neg (by omega),aMr]
theorem aGj {α:Type} {l:List α} {i:Int} (h:0<=i):Bm l i=l[i.toNat]?:=by
 unfold Bm
 rw [if_neg (by omega)]
def Zz {α:Type} (l:List α) (a b:Int):Option (List α):=if 0<=a/\a<=b/\b<=l.length then some ((l.drop a.toNat).take (b.toNat - a.toNat)) else none
theorem Zb {α:Type} {l m:List α} {a b:Int} (h:Zz l a b=some m):∃ i j:Nat,a=(i:Int)/\b=(j:Int)/\i<=j/\j<=l.length/\m=(l.drop i).take (j - i):=by
 unfold Zz at h
 split at h
 ·rename_i h0
  injection h with h
  exact⟨a.toNat,b.toNat,by omega,by omega,by omega,by omega,h.symm⟩
 ·cases h
def Gy {α:Type} (k:Nat) (l m:List α):Option (List α):=if (l.length + m.length) * k<=140737488355328 then some (l ++ m) else none
theorem zQ {α:Type} {k:Nat} {l m x:List α} (h:Gy k l m=some x):(l.length + m.length) * k<=140737488355328/\x=l ++ m:=by
 unfold Gy at h
 split at h
 ·rename_i h0
  injection h with h
  exact⟨h0,h.symm⟩
 ·cases h
def Ex {α:Type} (l:List α) (j:Nat) (x:α):List α:=l.set j x
theorem oX {α:Type} {l m:List α} {a b:Int} (h:Zz l a b=some m):a.toNat + (b.toNat - a.toNat)<=l.length:=by
 unfold Zz at h
 split at h
 ·omega
 ·cases h
theorem hQ {b:Bool} (h:b=true):(!b)=false:=by rw [h]; rfl
theorem fG {b:Bool} (h:b=false):(!b)=true:=by rw [h]; rfl
def aPl {α:Type} [Inhabited α] (n:Nat) (l:List α):List α:=(List.range n).map fun i=>l[i]!
def Vk (x y:Int):Option Int:=if y=0 then none else some (x.tmod y)
theorem zX {x y z:Int} (h:Vk x y=some z):y≠0/\z=x.tmod y:=by
 unfold Vk at h
 split at h
 ·cases h
 ·rename_i h0
  injection h with h
  exact⟨h0,h.symm⟩
def Pm (x y:Int):Option Int:=if y=0 then none else some (W (x.tdiv y))
theorem yZ {x y z:Int} (h:Pm x y=some z):y≠0/\z=W (x.tdiv y):=by
 unfold Pm at h
 split at h
 ·cases h
 ·rename_i h0
  injection h with h
  exact⟨h0,h.symm⟩
def aEs (a b:ByteArray):Option ByteArray:=if a.size + b.size<=9223372036854775807 then some (a ++ b) else none
theorem zI {a b c:ByteArray} (h:aEs a b=some c):a.size + b.size<=9223372036854775807/\c=a ++ b:=by
 unfold aEs at h
 split at h
 ·rename_i h0
  injection h with h
  exact⟨h0,h.symm⟩
 ·cases h
def oI (s:ByteArray) (i:Int):Option UInt8:=if i < 0 then none else s.data[i.toNat]?
def eX (k:IntKind) (x y:Int):Int:=k.wrap (BitVec.ofInt k.bits x &&& BitVec.ofInt k.bits y).toNat
def Sr (k:IntKind) (x y:Int):Int:=k.wrap (BitVec.ofInt k.bits x ^^^ BitVec.ofInt k.bits y).toNat
def Rn (k:IntKind) (x y:Int):Option Int:=if y < 0 then none else some (x.fdiv (2 ^ min y.toNat k.bits))
theorem aA1 {k:IntKind} {x y z:Int} (h:Rn k x y=some z):¬ y < 0/\z=x.fdiv (2 ^ min y.toNat k.bits):=by
 unfold Rn at h
 split at h
 ·cases h
 ·rename_i h0
  injection h with h
  exact⟨h0,h.symm⟩
def jL (k:IntKind) (x y:Int):Option Int:=if y < 0 then none else some (k.wrap (x * 2 ^ min y.toNat k.bits))
theorem zF {k:IntKind} {x y z:Int} (h:jL k x y=some z):¬ y < 0/\z=k.wrap (x * 2 ^ min y.toNat k.bits):=by
 unfold jL at h
 split at h
 ·cases h
 ·rename_i h0
  injection h with h
  exact⟨h0,h.symm⟩
open Classical in
noncomputable def kO {α β:Type} (l:List α) (a b:Option β):Option β:=if l=[] then (if a=b then a else none) else b
theorem aFb {α β:Type} {l:List α} {a b:Option β} {r:β} (h:kO l a b=some r):b=some r:=by
 unfold kO at h
 split at h
 ·split at h
  ·rename_i e; rw [<- e]; exact h
  ·cases h
 ·exact h
theorem aFe {α β:Type} {l:List α} {a b:Option β} {r:β} (hl:l=[]) (h:kO l a b=some r):a=some r:=by
 unfold kO at h
 rw [if_pos hl] at h
 split at h
 ·exact h
 ·cases h
def Oz (s:ByteArray):List UInt8:=s.data.toList
def ltT:List UInt8->List UInt8->Bool
 | _,[]=>false
 | [],_ :: _=>true
 | a :: x,b :: y=>a < b || (a == b && ltT x y)
def pS (s:ByteArray) (c:UInt8):Int:=match (List.range s.size).find? fun i=>s[i]! == c with | some i=>(i:Int) | none=>-1
def aB7 (x y:UInt8):Option UInt8:=if y=0 then none else some (x % y)
theorem aAj {x y z:UInt8} (h:aB7 x y=some z):(y.toNat:Int)≠0/\(z.toNat:Int)=(x.toNat:Int).tmod (y.toNat:Int):=by
 unfold aB7 at h
 split at h
 ·cases h
 ·rename_i h0
  injection h with h
  subst h
  refine⟨fun e=>h0 (bAf.1 (by simpa using e)),?_⟩
  rw [UInt8.toNat_mod]
  exact (Int.ofNat_tmod _ _)
section
variable {κ ν:Type} [DecidableEq κ]
def M3 (l:List (κ×ν)) (x:κ) (z:ν):ν:=match l.find? fun p=>decide (p.1=x) with | some p=>p.2 | none=>z
def Vc (l:List (κ×ν)) (x:κ):Bool:=l.any fun p=>decide (p.1=x)
def Oc (l:List (κ×ν)) (x:κ) (v:ν):List (κ×ν):=match l.findIdx? fun p=>decide (p.1=x) with | some i=>l.set i (x,v) | none=>l ++ [(x,v)]
end
end
section
open Go
section
variable {α S R:Type}
def Z4 (body:α->S->Option (Lp S R)) (ed:S->Option (Lp S R)):List α->S->Option R
 | [],s=>(ed s).bind (R4 fun _=>none)
 | p :: l,s=>(body p s).bind (R4 (Z4 body ed l))
open Classical in
noncomputable def fV (body:α->S->Option (Lp S R)) (ed:S->Option (Lp S R)) (l:List α) (s:S):Option R:=
 if h:∃ r,∀ l',l'.Perm l->Z4 body ed l' s=some r then some (Classical.choose h) else none
variable {body:α->S->Option (Lp S R)} {ed:S->Option (Lp S R)} {l:List α} {s:S} {r:R}
theorem uS (h:fV body ed l s=some r):∀ l',l'.Perm l->Z4 body ed l' s=some r:=by
 unfold fV at h
 split at h
 ·rename_i hex
  injection h with h
  subst h
  exact aWt hex
 ·cases h
theorem aBc (h:∀ l',l'.Perm l->Z4 body ed l' s=some r):fV body ed l s=some r:=by
 have hex:∃ r,∀ l',l'.Perm l->Z4 body ed l' s=some r:=⟨r,h⟩
 unfold fV
 rw [dif_pos hex]
 exact (aWt hex l (.refl _)).symm.trans (h l (.refl _))
def rest (n:Nat) (seen:List Nat):List Nat:=(List.range n).filter fun i=>!seen.contains i
theorem fR {n:Nat} {seen:List Nat} {i:Nat}:i∈rest n seen↔i < n/\i∉seen:=by simp [rest]
theorem wW (n:Nat) (seen:List Nat):(rest n seen).Nodup:=List.nodup_range.filter _
theorem aD9 (n:Nat):rest n []=List.range n:=by
 unfold rest
 rw [List.filter_eq_self]
 intro a _
 rfl
theorem mD {n:Nat} {seen:List Nat} {i:Nat} (hi:i < n) (hn:i∉seen):(rest n seen).Perm (i :: rest n (seen ++ [i])):=by
 rw [List.perm_ext_iff_of_nodup (wW _ _) (List.nodup_cons.2 ⟨by rw [fR]; simp,wW _ _⟩)]
 intro a
 simp only [aF2,fR,aHs,aF6,aQe]
 constructor
 ·rintro⟨h1,h2⟩
  by_cases h:a=i
  ·exact .inl h
  ·exact .inr ⟨h1,fun hh=>hh.elim h2 h⟩
 ·rintro (rfl | ⟨h1,h2⟩)
  ·exact⟨hi,hn⟩
  ·exact⟨h1,fun hh=>h2 (.inl hh)⟩
theorem aGl {n:Nat} {seen:List Nat} {i:Nat} (hi:i < n) (hn:i∉seen):(rest n (seen ++ [i])).length < (rest n seen).length:=by
 rw [(mD hi hn).length_eq]
 simp
theorem yP (l:List α):(List.range l.length).filterMap (l[·]?)=l:=by
 induction l with
 | nil=>rfl
 | cons x l ih=>
  rw [aJw,bBa,List.filterMap_cons]
  simp only [List.getElem?_cons_zero,List.filterMap_map]
  exact congrArg (x :: ·) ih
def MH (body:α->S->Option (Lp S R)) (ed:S->Option (Lp S R)) (l:List α) (r:R) (seen:List Nat) (s:S):Prop:=
 ∀ l',l'.Perm ((rest l.length seen).filterMap (l[·]?))->Z4 body ed l' s=some r
theorem MH.init (h:fV body ed l s=some r):MH body ed l r [] s:=by
 intro l' hl
 rw [aD9,yP] at hl
 exact uS h l' hl
theorem MH.fin {seen:List Nat} (h:MH body ed l r seen s) (ha:∀ i,i < l.length->i∈seen):∃ o,ed s=some o/\R4 (fun _=>none) o=some r:=by
 have h0:rest l.length seen=[]:=by
  rw [bAg]
  intro i hi
  rw [fR] at hi
  exact hi.2 (ha i hi.1)
 have:=h [] (by rw [h0]; exact .refl _)
 unfold Z4 at this
 cases hf:ed s with
 | none=>rw [hf] at this; cases this
 | some o=>rw [hf] at this; exact⟨o,rfl,this⟩
open Classical in
noncomputable def itH (body:α->S->Option (Lp S R)) (ed:S->Option (Lp S R)) (l:List α) (r:R) (seen:List Nat) (s:S):Option R:=if MH body ed l r seen s then some r else none
theorem qU {seen:List Nat} {r':R} (h:R4 (itH body ed l r seen) (.next s)=some r'):MH body ed l r seen s:=by
 have h:itH body ed l r seen s=some r':=h
 unfold itH at h
 split at h
 ·assumption
 ·cases h
theorem MH.el {seen:List Nat} {i:Nat} {p:α} (h:MH body ed l r seen s) (hp:l[i]?=some p) (hn:i∉seen):∃ o,body p s=some o/\R4 (itH body ed l r (seen ++ [i])) o=some r:=by
 have hi:i < l.length:=(aDx.1 hp).1
 have key:∀ l',l'.Perm ((rest l.length (seen ++ [i])).filterMap (l[·]?))->Z4 body ed (p :: l') s=some r:=by
  intro l' hl
  refine h _ ?_
  have h1:=(mD hi hn).filterMap (l[·]?)
  rw [List.filterMap_cons,hp] at h1
  exact (hl.cons p).trans h1.symm
 have h0:=key _ (.refl _)
 unfold Z4 at h0
 cases hb:body p s with
 | none=>rw [hb] at h0; cases h0
 | some o=>
  rw [hb] at h0
  refine⟨o,rfl,?_⟩
  cases o with
  | done r'=>exact h0
  | next s'=>
   have:MH body ed l r (seen ++ [i]) s':=by
    intro l' hl
    have:=key l' hl
    unfold Z4 at this
    rw [hb] at this
    exact this
   show itH body ed l r (seen ++ [i]) s'=some r
   unfold itH
   rw [if_pos this]
end
end
section
def yld {S:Type} (rnd:S->Option (Nat×S)) (q:Nat×S):Option (Bool×(Nat×S)):=match q with
 | (0,s)=>(rnd s).map fun y=>(Nat.beq y.1 0,y)
 | _=>none
theorem aC6 {S:Type} {rnd:S->Option (Nat×S)} {q:Nat×S} {y:Bool×(Nat×S)} (h:yld rnd q=some y):∃ s z,q=(0,s)/\y=(Nat.beq z.1 0,z)/\rnd s=some z:=by
 obtain⟨c,s⟩:=q
 cases c with
 | succ c=>exact nomatch (show (none:Option (Bool×(Nat×S)))=some y from h)
 | zero=>
  replace h:(rnd s).map (fun y=>(Nat.beq y.1 0,y))=some y:=h
  cases hr:rnd s with
  | none=>rw [hr] at h; cases h
  | some z=>rw [hr] at h; injection h with h; exact⟨s,z,rfl,h.symm,hr⟩
theorem jc_ {R:Type} {c k:Nat} {X Y:Option R} {r:R} (h:cond (Nat.beq c k) X Y=some r):(c=k/\X=some r)\/Y=some r:=by
 cases hb:Nat.beq c k with
 | true=>rw [hb] at h; exact .inl ⟨aF5 hb,h⟩
 | false=>rw [hb] at h; exact .inr h
end
end Go.Proofs.YtobamahlipiakaaGreat
