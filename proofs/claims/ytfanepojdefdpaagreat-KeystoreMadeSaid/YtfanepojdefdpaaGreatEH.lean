import Derived.Test.YtfanepojdefdpaaGreatEF
import Derived.ChangeKeysEq
set_option linter.unusedVariables false
set_option linter.unusedSimpArgs false
namespace Go.Proofs.YtfanepojdefdpaaGreat
open Go.RowKit
section
variable {P:Program} {np tk:Nat} {ty:TypeId} {env:Vq} {α:Type} {f:α->List C} {t e sz bytes:Nat}
theorem X4 (hf:∀ x,(f x).length=sz) (z:α):∀ m,Al f (List.replicate m z)=(List.replicate m (f z)).flatten
 | 0=>rfl
 | m + 1=>by
  rw [yG,yG,zL,<- X4 hf z m]
  rfl
theorem rF {z:List Value} {ck:List (Option Nat)} {z0:α} (hz:Zt P e z) (hd:Gs ck (z.map DV.val) (f z0)):lG P e (f z0):=⟨z,ck,hz,hd⟩
theorem qS {x y:Operand} {t' k:Nat} {b b':Option LB} {l m r:List α} (hS:Ht P t e sz bytes) (hS':Ht P t' e sz bytes) (hf:∀ x,(f x).length=sz) (hL:(k,some (.row e sz (Al f l)))∈env) (h:cO l m=some r) :
  ExtR P np tk (.call ⟨.builtin .copy,#[x,y],#[t,t']⟩) ty [(.row k,b),(.sl sz (Al f m),b')] env [k] (fun e'=>e'=Pj k (.row e sz (Al f r)) (some (.val (.int .i64 (l.length:Int))))):=by
 obtain⟨h1,rfl⟩:=cS h
 exact .copyR hS hS' hL ⟨_,rfl⟩ (Es hf l) (by rw [Es hf,h1])
theorem pU {x y:Operand} {k k':IntKind} {n c:Int} {b b':Option LB} {l:List α} {z0:α} {kk:Nat} (hS:Ht P t e sz bytes) (hf:∀ x,(f x).length=sz) (hz:lG P e (f z0)) (hxy:x≠y) (h:dR kk n c z0=some l) (hk:bytes=kk) :
  ExtR P np tk (.makeSlice t x y) ty [(.val (.int k n),b),(.val (.int k' c),b')] env [] (fun e'=>e'=Qb tk (.row e sz (Al f l)) (.row tk)):=by
 obtain⟨m,cap,rfl,rfl,h1,h2,h3,rfl⟩:=dD h
 have:=ExtR.makeC (P:=P) (np:=np) (tk:=tk) (x:=x) (y:=y) (ty:=ty) (env:=env) (k:=k) (k':=k') (b:=b) (b':=b') hS hz (m:=m) rfl (cap:=cap) rfl h1 hxy ⟨by rw [hk]; exact h2,h3⟩
 rwa [<- X4 hf] at this
end
section
variable {P:Program} {np tk:Nat} {ty:TypeId} {env:Vq} {κ ν:Type} [DecidableEq κ] {f:κ->Value} {g:ν->Value} {t kt vt k:Nat} {x i:Operand} {b bk bv:Option LB} {kd vd:DV} {l:List (κ×ν)} {key:κ} {z v:ν}
end
end Go.Proofs.YtfanepojdefdpaaGreat
