import Derived.Test.YtfanepojdefdpaaGreatEF
import Derived.ChangeKeysEq
set_option linter.unusedVariables false
set_option linter.unusedSimpArgs false
namespace Go.Proofs.YtfanepojdefdpaaGreat
open Go.RowKit
section
variable {P:Program} {np tk:Nat} {ty:TypeId} {env:Sn} {α:Type} {f:α->List C} {t e sz bytes:Nat}
theorem eP (hf:∀ x,(f x).length=sz) (z:α):∀ m,An f (List.replicate m z)=(List.replicate m (f z)).flatten
 | 0=>rfl
 | m + 1=>by
  rw [aGw,aGw,aHl,<- eP hf z m]
  rfl
theorem aC8 {z:List Value} {ck:List (Option Nat)} {z0:α} (hz:Zt P e z) (hd:Ib ck (z.map DV.val) (f z0)):vT P e (f z0):=⟨z,ck,hz,hd⟩
theorem xJ {x y:Operand} {t' k:Nat} {b b':Option LB} {l m r:List α} (hS:Ij P t e sz bytes) (hS':Ij P t' e sz bytes) (hf:∀ x,(f x).length=sz) (hL:(k,some (.row e sz (An f l)))∈env) (h:nD l m=some r) :
  ExtR P np tk (.call ⟨.builtin .copy,#[x,y],#[t,t']⟩) ty [(.row k,b),(.sl sz (An f m),b')] env [k] (fun e'=>e'=U1 k (.row e sz (An f r)) (some (.val (.int .i64 (l.length:Int))))):=by
 obtain⟨h1,rfl⟩:=nM h
 exact .copyR hS hS' hL ⟨_,rfl⟩ (D0 hf l) (by rw [D0 hf,h1])
theorem xY {x y:Operand} {k k':IntKind} {n c:Int} {b b':Option LB} {l:List α} {z0:α} {kk:Nat} (hS:Ij P t e sz bytes) (hf:∀ x,(f x).length=sz) (hz:vT P e (f z0)) (hxy:x≠y) (h:mO kk n c z0=some l) (hk:bytes=kk) :
  ExtR P np tk (.makeSlice t x y) ty [(.val (.int k n),b),(.val (.int k' c),b')] env [] (fun e'=>e'=S8 tk (.row e sz (An f l)) (.row tk)):=by
 obtain⟨m,cap,rfl,rfl,h1,h2,h3,rfl⟩:=mZ h
 have:=ExtR.makeC (P:=P) (np:=np) (tk:=tk) (x:=x) (y:=y) (ty:=ty) (env:=env) (k:=k) (k':=k') (b:=b) (b':=b') hS hz (m:=m) rfl (cap:=cap) rfl h1 hxy ⟨by rw [hk]; exact h2,h3⟩
 rwa [<- eP hf] at this
end
section
variable {P:Program} {np tk:Nat} {ty:TypeId} {env:Sn} {κ ν:Type} [DecidableEq κ] {f:κ->Value} {g:ν->Value} {t kt vt k:Nat} {x i:Operand} {b bk bv:Option LB} {kd vd:DV} {l:List (κ×ν)} {key:κ} {z v:ν}
end
end Go.Proofs.YtfanepojdefdpaaGreat
