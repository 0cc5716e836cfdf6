import Derived.Test.YtfanepojdefdpaaGreatA10
import Derived.Test.YtfanepojdefdpaaGreatE8
import Derived.Test.YtfanepojdefdpaaGreatOP
import Derived.Test.YtfanepojdefdpaaGreatRows
import Derived.WalkKit
import Derived.Lib.SmallJoins
import Derived.ProofKit
import Derived.OpenShut
import Derived.ShutString
import Derived.ChangeOld
import Derived.Below
set_option linter.unusedSimpArgs false
set_option linter.unusedVariables false
namespace Go.Proofs.YtfanepojdefdpaaGreat.keystoreBytes
open Go.ChangeShapes Go.WideShapes Go.ChangeAt Go.RowKit
open Go.ChangeMaps (open_string shut_string)
theorem op3:Opn Tryz.prog 3 eI:=fun _=>Vn.i64 Tryz.underlying3
theorem aEh:Opn Tryz.prog 22 (eL 1 eI):=fun k=>by
 cases k with
 | zero=>exact Vn.zero
 | succ k=>exact Vn.slice Tryz.underlying22 (by kernel_rfl) (by omega) (fun x=>Nt x) (op3 k)
theorem op5:Opn Tryz.prog 5 e8:=fun _=>Vn.u8 Tryz.underlying5
theorem own:ownKnob Tryz.prog.godebug=none:=by kernel_rfl
theorem Wu:laidOutB Tryz.prog=true:=by kernel_rfl
theorem aD2 (v0 v1 v2 v3:Value) (x0:(List Int)) (x1:Int) (x2:UInt8) (x3:UInt8) (w:World) (h0:∀ ρ,B7 ρ (lt w.heap.size) w (.sl 1 (An eI x0)) v0) (h1:∀ ρ,B7 ρ (lt w.heap.size) w (.val (.int .i64 x1)) v1) (h2:∀ ρ,B7 ρ (lt w.heap.size) w (.val (.int .u8 (x2.toNat:Int))) v2) (h3:∀ ρ,B7 ρ (lt w.heap.size) w (.val (.int .u8 (x3.toNat:Int))) v3) :
  Calls Tryz.prog 4 #[v0,v1,v2,v3] w fun e w'=>e=.returned (.bool true)/\Below w.heap.size w w':=by
 have hr:Bk (fun _=>.nilFunc) (lt w.heap.size) w [.sl 1 (An eI x0),.val (.int .i64 x1),.val (.int .u8 (x2.toNat:Int)),.val (.int .u8 (x3.toNat:Int))] [v0,v1,v2,v3]:=Pb (h0 (fun _=>.nilFunc)) (Pb (h1 (fun _=>.nilFunc)) (Pb (h2 (fun _=>.nilFunc)) (Pb (h3 (fun _=>.nilFunc)) (lY))))
 exact Fn.plain (vs:=[_,_,_,_]) (Pw x0 x1 x2 x3 true (Tp x0 x1 x2 x3 (Bk.okV_ _ _ hr))) (fun r b h=>h.1) (fun _=>.nilFunc) (lt w.heap.size) (fun _ h=>h) hr
set_option maxRecDepth 100000 in
theorem aAk (os:Os) (started:os.Started) (H:Type) (enc:TypeId×Value->H) :
  ReturnsInHanded {} Tryz.checked os 4 .any (Rows.keystoreBytesSpec.pre6 enc Tryz.prog Tryz.f4 Rows.keystoreBytesRow.domain false) (Rows.keystoreBytesSpec.post enc Tryz.prog Tryz.f4 false true false false):=by
 refine returnsInHanded_of_change (C:=Tryz.checked) own started (by kernel_rfl) Tryz.func4
  (ChangeSpec.witness6 (enc:=enc) (C:=Tryz.checked) false ⟨#[],#[.slice none 0 0,.int .i64 0,.int .u8 0,.int .u8 0],[]⟩ 8 (by kernel_rfl) (by kernel_rfl) (by kernel_rfl) (by kernel_rfl)) ?_
 intro W base args ds gs before hval0 hW hcnd _
 have hval:∀ (j:Nat) t v,Tryz.f4.params[j]?=some t->args[j]?=some v->Value.okWide Tryz.prog W .any base t v:=hval0
 have hW':=hW
 obtain⟨p,q,hA0,hV,rfl,hfz,hnd⟩:=hW
 have hA:DataW.TrodAll enc Tryz.prog W 0 (fun _=>true) true Tryz.f4.params.toList args.toList ds p:=hA0
 rw [Tryz.params4] at hA hval
 obtain⟨v0,vs0,d0,ds0,p0,q0,hargs,rfl,rfl,h0,r0⟩:=trodAll_cons hA
 obtain⟨v1,vs1,d1,ds1,p1,q1,rfl,rfl,rfl,h1,r1⟩:=trodAll_cons r0
 obtain⟨v2,vs2,d2,ds2,p2,q2,rfl,rfl,rfl,h2,r2⟩:=trodAll_cons r1
 obtain⟨v3,vs3,d3,ds3,p3,q3,rfl,rfl,rfl,h3,r3⟩:=trodAll_cons r2
 obtain⟨rfl,rfl,rfl⟩:=trodAll_nil r3
 obtain rfl:args=#[v0,v1,v2,v3]:=by cases args; simp_all
 obtain⟨rfl,rfl⟩:=trodVars_none hV
 have k0:=h0
 have k1:=h1
 have k2:=h2
 have k3:=h3
 have lt0:∀ x∈p0,x.block < W.heap.size:=by obtain⟨m,hm⟩:=k0; exact DataW.trod_lt m _ _ _ hm
 have lt1:∀ x∈p1,x.block < W.heap.size:=by obtain⟨m,hm⟩:=k1; exact DataW.trod_lt m _ _ _ hm
 have lt2:∀ x∈p2,x.block < W.heap.size:=by obtain⟨m,hm⟩:=k2; exact DataW.trod_lt m _ _ _ hm
 have lt3:∀ x∈p3,x.block < W.heap.size:=by obtain⟨m,hm⟩:=k3; exact DataW.trod_lt m _ _ _ hm
 obtain⟨a0,len0,cap0,rfl⟩:=okWide_slice Tryz.underlying22 (hval 0 22 v0 rfl rfl)
 obtain⟨x0,w0⟩:=Wp (c:=fun a=>.sl 1 (An eI a)) aEh (fun _=>rfl) rfl h0
 obtain⟨a1,rfl⟩:=okWide_int Tryz.underlying3 (hval 1 3 v1 rfl rfl)
 obtain⟨x1,w1⟩:=Wp (c:=fun (a:Int)=>.int .i64 a) op3 (fun _=>rfl) rfl h1
 obtain⟨a2,rfl⟩:=okWide_int Tryz.underlying5 (hval 2 5 v2 rfl rfl)
 obtain⟨x2,w2⟩:=Wp (c:=fun (a:UInt8)=>.int .u8 (a.toNat:Int)) op5 (fun _=>rfl) rfl h2
 obtain⟨a3,rfl⟩:=okWide_int Tryz.underlying5 (hval 3 5 v3 rfl rfl)
 obtain⟨x3,w3⟩:=Wp (c:=fun (a:UInt8)=>.int .u8 (a.toNat:Int)) op5 (fun _=>rfl) rfl h3
 clear hA0 hval0
 refine (aD2 _ _ _ _ x0 x1 x2 x3 W w0 w1 w2 w3).mono fun e W' ⟨he,bel⟩=>?_
 subst he
 exact⟨_,rfl,_,_,_,[],_,[],hW',trodAll_mk1 (shut_bool Tryz.underlying4 _),(trodAll_cons_mk (Below.trod Wu (by kernel_rfl) (aE4 (by kernel_rfl)) k0 bel lt0) (trodAll_cons_mk (Below.trod Wu (by kernel_rfl) (aE4 (by kernel_rfl)) k1 bel lt1) (trodAll_cons_mk (Below.trod Wu (by kernel_rfl) (aE4 (by kernel_rfl)) k2 bel lt2) (trodAll_cons_mk (Below.trod Wu (by kernel_rfl) (aE4 (by kernel_rfl)) k3 bel lt3) trodAll_mk0)))),rfl,bel.frame _,fun h=>by cases h⟩
theorem aEe:Rows.keystoreBytesRow.holds Tryz.pinned (OpenSpec.ofChange Rows.keystoreBytesSpec):=
 OpenClaim.holds_of_wide 4 Tryz.f4 rfl rfl rfl rfl rfl rfl rfl ⟨rfl,rfl,rfl,rfl,rfl⟩ rfl rfl rfl rfl rfl (by kernel_rfl) Tryz.func4 (by kernel_rfl)
  (aE4 (by kernel_rfl)) (by unfold Func.isWrapper; first | (rw [if_pos (by decide +kernel)]; kernel_rfl) | (rw [if_neg (by decide +kernel)]; exact⟨rfl,rfl⟩))
  (fun os started H enc _=>aAk os started H enc)
theorem proved:Rows.KeystoreBytesSaid:=aEe
#print axioms proved
end Go.Proofs.YtfanepojdefdpaaGreat.keystoreBytes
