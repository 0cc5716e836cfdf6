import Derived.Test.YtchpcpaacenodaaGreatEF
import Derived.ChangeKeysEq
set_option linter.unusedVariables false
set_option linter.unusedSimpArgs false
namespace Go.Proofs.YtchpcpaacenodaaGreat
open Go.RowKit
section
variable {P:Program} {np tk:Nat} {ty:TypeId} {env:hG} {α:Type} {f:α->List C} {t e sz bytes:Nat}
theorem kH (hf:∀ x,(f x).length=sz) (z:α):∀ m,Aq f (List.replicate m z)=(List.replicate m (f z)).flatten
 | 0=>rfl
 | m + 1=>by
  rw [aI2,aI2,aJq,<- kH hf z m]
  rfl
theorem pC (hf:∀ x,(f x).length=sz) (l:List α) (n:Nat):(Aq f l).drop (n * sz)=Aq f (l.drop n):=by
 induction n generalizing l with
 | zero=>simp
 | succ n ih=>
  cases l with
  | nil=>simp [Aq]
  | cons x l=>
   have:Aq f (x :: l)=f x ++ Aq f l:=rfl
   rw [this,Nat.succ_mul,List.drop_append,hf,List.drop_of_length_le (by rw [hf]; omega),aIu,Nat.add_sub_cancel]
   exact ih l
theorem qC (hf:∀ x,(f x).length=sz) (l:List α) (n:Nat):(Aq f l).take (n * sz)=Aq f (l.take n):=by
 induction n generalizing l with
 | zero=>simp [Aq]
 | succ n ih=>
  cases l with
  | nil=>simp [Aq]
  | cons x l=>
   have e1:Aq f (x :: l)=f x ++ Aq f l:=rfl
   have e2:Aq f ((x :: l).take (n + 1))=f x ++ Aq f (l.take n):=rfl
   rw [e1,e2,Nat.succ_mul,Nat.add_comm,aJw,aHa (by rw [hf]; omega),hf,aJd,ih l]
theorem aEn {z:List Value} {ck:List (Option Nat)} {z0:α} (hz:Zt P e z) (hd:K0 ck (z.map DV.val) (f z0)):oR P e (f z0):=⟨z,ck,hz,hd⟩
theorem xX {x:Operand} {k a m:Nat} {b:Option LB} {l r:List α} {z0:α} (hS:Jd P t e sz bytes) (hf:∀ x,(f x).length=sz) (hz:oR P e (f z0)) (hL:(k,some (.row e sz (Aq f l)))∈env) (h:sC l a m z0=some r) :
  ExtR P np tk (.call ⟨.builtin .clear,#[x],#[t]⟩) ty [(.part k (a * sz) m,b)] env [k] (fun e'=>e'=Yt k (.row e sz (Aq f r)) (some (.tup []))):=by
 obtain⟨h1,rfl⟩:=qA h
 have:=ExtR.clearP (np:=np) (tk:=tk) (x:=x) (ty:=ty) (b:=b) (off:=a * sz) (m:=m) hS hz hL (by rw [Hd hf,<- aIk]; exact aH0 _ h1)
 have e1:Dw (Aq f l) (a * sz) (List.replicate m (f z0)).flatten=Aq f (l.take a ++ List.replicate m z0 ++ l.drop (a + m)):=by
  unfold Dw
  rw [<- kH hf,Hd hf,qC hf,List.length_replicate,<- aIk,pC hf,Lh,Lh]
 rwa [e1] at this
end
section
variable {P:Program} {np tk:Nat} {ty:TypeId} {env:hG} {κ ν:Type} [DecidableEq κ] {f:κ->Value} {g:ν->Value} {t kt vt k:Nat} {x i:Operand} {b bk bv:Option LB} {kd vd:DV} {l:List (κ×ν)} {key:κ} {z v:ν}
end
theorem kO (a b:ByteArray):(a.toList=b.toList)=(a=b):=by
 refine propext ⟨fun e=>?_,fun e=>by rw [e]⟩
 rw [ByteArray.toList_eq,ByteArray.toList_eq] at e
 cases a; cases b
 congr
 exact aJx.1 e
end Go.Proofs.YtchpcpaacenodaaGreat
