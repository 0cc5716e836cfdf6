import Derived.Test.YtfanepojdefdpaaGreatA8
import Derived.Test.YtfanepojdefdpaaGreatE7
import Derived.Test.YtfanepojdefdpaaGreatOP
import Derived.Test.YtfanepojdefdpaaGreatRows
import Derived.WalkKit
import Derived.Lib.SmallJoins
import Derived.ProofKit
import Derived.OpenShut
import Derived.ShutString
import Derived.ChangeOld
import Derived.Below
set_option linter.unusedSimpArgs false
set_option linter.unusedVariables false
namespace Go.Proofs.YtfanepojdefdpaaGreat.keystoreMade
open Go.ChangeShapes Go.WideShapes Go.ChangeAt Go.RowKit
open Go.ChangeMaps (open_string shut_string)
theorem vH:tT Tryz.prog 3 eI:=fun _=>Rq.i64 Tryz.underlying3
theorem uW:tT Tryz.prog 22 (eL 1 eI):=fun k=>by
 cases k with
 | zero=>exact Rq.zero
 | succ k=>exact Rq.slice Tryz.underlying22 (by kernel_rfl) (by omega) (fun x=>La x) (vH k)
theorem vF:tT Tryz.prog 9 eS:=fun _=>Rq.str Tryz.underlying9
theorem Gu:ownKnob Tryz.prog.godebug=none:=by kernel_rfl
theorem bR:laidOutB Tryz.prog=true:=by kernel_rfl
theorem uP (v0 v1:Value) (x0:(List Int)) (x1:ByteArray) (w:World) (h0:∀ ρ,B1 ρ (lt w.heap.size) w (.sl 1 (Al eI x0)) v0) (h1:∀ ρ,B1 ρ (lt w.heap.size) w (.val (.string x1)) v1) :
  Calls Tryz.prog 3 #[v0,v1] w fun e w'=>e=.returned (.bool true)/\Below w.heap.size w w':=by
 have hr:Bk (fun _=>.nilFunc) (lt w.heap.size) w [.sl 1 (Al eI x0),.val (.string x1)] [v0,v1]:=Tl (h0 (fun _=>.nilFunc)) (Tl (h1 (fun _=>.nilFunc)) (cW))
 exact Fn.plain (vs:=[_,_]) (Nk x0 x1 true (Re x0 x1)) (fun r b h=>h.1) (fun _=>.nilFunc) (lt w.heap.size) (fun _ h=>h) hr
set_option maxRecDepth 100000 in
theorem pO (os:Os) (started:os.Started) (H:Type) (enc:TypeId×Value->H) :
  ReturnsInHanded {} Tryz.checked os 3 .any (Rows.keystoreMadeSpec.pre6 enc Tryz.prog Tryz.f3 Rows.keystoreMadeRow.domain false) (Rows.keystoreMadeSpec.post enc Tryz.prog Tryz.f3 false true false false):=by
 refine returnsInHanded_of_change (C:=Tryz.checked) Gu started (by kernel_rfl) Tryz.func3
  (ChangeSpec.witness6 (enc:=enc) (C:=Tryz.checked) false ⟨#[],#[.slice none 0 0,.string ByteArray.empty],[]⟩ 8 (by kernel_rfl) (by kernel_rfl) (by kernel_rfl) (by kernel_rfl)) ?_
 intro W base args ds gs before hval0 hW hcnd _
 have hval:∀ (j:Nat) t v,Tryz.f3.params[j]?=some t->args[j]?=some v->Value.okWide Tryz.prog W .any base t v:=hval0
 have hW':=hW
 obtain⟨p,q,hA0,hV,rfl,hfz,hnd⟩:=hW
 have hA:DataW.TrodAll enc Tryz.prog W 0 (fun _=>true) true Tryz.f3.params.toList args.toList ds p:=hA0
 rw [Tryz.params3] at hA hval
 obtain⟨v0,vs0,d0,ds0,p0,q0,hargs,rfl,rfl,h0,r0⟩:=trodAll_cons hA
 obtain⟨v1,vs1,d1,ds1,p1,q1,rfl,rfl,rfl,h1,r1⟩:=trodAll_cons r0
 obtain⟨rfl,rfl,rfl⟩:=trodAll_nil r1
 obtain rfl:args=#[v0,v1]:=by cases args; simp_all
 obtain⟨rfl,rfl⟩:=trodVars_none hV
 have k0:=h0
 have k1:=h1
 have lt0:∀ x∈p0,x.block < W.heap.size:=by obtain⟨m,hm⟩:=k0; exact DataW.trod_lt m _ _ _ hm
 have lt1:∀ x∈p1,x.block < W.heap.size:=by obtain⟨m,hm⟩:=k1; exact DataW.trod_lt m _ _ _ hm
 obtain⟨a0,len0,cap0,rfl⟩:=okWide_slice Tryz.underlying22 (hval 0 22 v0 rfl rfl)
 obtain⟨x0,w0⟩:=bQ (c:=fun a=>.sl 1 (Al eI a)) uW (fun _=>rfl) rfl h0
 obtain⟨a1,rfl⟩:=okWide_string Tryz.underlying9 (hval 1 9 v1 rfl rfl)
 obtain⟨x1,w1⟩:=bQ (c:=fun a=>.str a) vF (fun _=>rfl) rfl h1
 clear hA0 hval0
 refine (uP _ _ x0 x1 W w0 w1).mono fun e W' ⟨he,bel⟩=>?_
 subst he
 exact⟨_,rfl,_,_,_,[],_,[],hW',trodAll_mk1 (shut_bool Tryz.underlying4 _),(trodAll_cons_mk (Below.trod bR (by kernel_rfl) (xB (by kernel_rfl)) k0 bel lt0) (trodAll_cons_mk (Below.trod bR (by kernel_rfl) (xB (by kernel_rfl)) k1 bel lt1) trodAll_mk0)),rfl,bel.frame _,fun h=>by cases h⟩
theorem uA:Rows.keystoreMadeRow.holds Tryz.pinned (OpenSpec.ofChange Rows.keystoreMadeSpec):=
 OpenClaim.holds_of_wide 3 Tryz.f3 rfl rfl rfl rfl rfl rfl rfl ⟨rfl,rfl,rfl,rfl,rfl⟩ rfl rfl rfl rfl rfl (by kernel_rfl) Tryz.func3 (by kernel_rfl)
  (xB (by kernel_rfl)) (by unfold Func.isWrapper; first | (rw [if_pos (by decide +kernel)]; kernel_rfl) | (rw [if_neg (by decide +kernel)]; exact⟨rfl,rfl⟩))
  (fun os started H enc _=>pO os started H enc)
theorem proved:Rows.KeystoreMadeSaid:=uA
#print axioms proved
end Go.Proofs.YtfanepojdefdpaaGreat.keystoreMade
