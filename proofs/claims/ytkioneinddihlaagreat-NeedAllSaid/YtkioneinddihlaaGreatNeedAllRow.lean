import Derived.Test.YtkioneinddihlaaGreatA14
import Derived.Test.YtkioneinddihlaaGreatN8
import Derived.Test.YtkioneinddihlaaGreatOP
import Derived.Test.YtkioneinddihlaaGreatOW
import Derived.Test.YtkioneinddihlaaGreatRows
import Derived.WalkKit
import Derived.Lib.SmallJoins
import Derived.ProofKit
import Derived.OpenShut
import Derived.ShutString
import Derived.ChangeOld
import Derived.Below
set_option linter.unusedSimpArgs false
set_option linter.unusedVariables false
namespace Go.Proofs.YtkioneinddihlaaGreat.needAll
open Go.ChangeShapes Go.WideShapes Go.ChangeAt Go.RowKit
open Go.ChangeMaps (open_string shut_string)
theorem op3:Opn Tryz.prog 3 eI:=fun _=>Uj.i64 Tryz.underlying3
theorem aI2:Opn Tryz.prog 22 (eL 1 eI):=fun k=>by
 cases k with
 | zero=>exact Uj.zero
 | succ k=>exact Uj.slice Tryz.underlying22 (by kernel_rfl) (by omega) (fun x=>O4 x) (op3 k)
theorem aFx:Opn Tryz.prog 25 Ac.enc:=by
 intro k
 intro H enc w fuel cs x hk h
 obtain⟨xs,n,hn,-,hl,hx,hF⟩:=DataW.trod_struct Tryz.underlying25 h
 have hlen:cs.length=2:=hl.trans (by kernel_rfl)
 obtain⟨a0,r0⟩:=Uj.field (q:=1) hx hF 0 rfl rfl rfl (by kernel_rfl) (op3 fuel) (by omega)
 obtain⟨a1,r1⟩:=Uj.field (q:=1) hx hF 1 rfl rfl rfl (by kernel_rfl) (op3 fuel) (by omega)
 refine⟨⟨a0,a1⟩,?_⟩
 exact Fl.cut (o:=0) (o':=1) r0 (Fl.cut (o:=1) (o':=2) r1 (Fl.end_ (o:=2) (by omega)) rfl) rfl
theorem aJn:Opn Tryz.prog 23 (eL 2 Ac.enc):=fun k=>by
 cases k with
 | zero=>exact Uj.zero
 | succ k=>exact Uj.slice Tryz.underlying23 (by kernel_rfl) (by omega) (fun x=>Ac.enc_len x) (aFx k)
theorem own:ownKnob Tryz.prog.godebug=none:=by kernel_rfl
theorem X2:laidOutB Tryz.prog=true:=by kernel_rfl
theorem aI5 (v0 v1 v2 v3:Value) (x0:(List Int)) (x1:(List Ac)) (x2:Ac) (x3:Int) (w:World) (h0:∀ ρ,Cp ρ (lt w.heap.size) w (.sl 1 (Ak eI x0)) v0) (h1:∀ ρ,Cp ρ (lt w.heap.size) w (.sl 2 (Ak Ac.enc x1)) v1) (h2:∀ ρ,Cp ρ (lt w.heap.size) w (.agg [.val (.int .i64 x2.First),.val (.int .i64 x2.Then)]) v2) (h3:∀ ρ,Cp ρ (lt w.heap.size) w (.val (.int .i64 x3)) v3) :
  Calls Tryz.prog 3 #[v0,v1,v2,v3] w fun e w'=>e=.returned (.bool true)/\Below w.heap.size w w':=by
 have hr:Cb (fun _=>.nilFunc) (lt w.heap.size) w [.sl 1 (Ak eI x0),.sl 2 (Ak Ac.enc x1),.agg [.val (.int .i64 x2.First),.val (.int .i64 x2.Then)],.val (.int .i64 x3)] [v0,v1,v2,v3]:=Qg (h0 (fun _=>.nilFunc)) (Qg (h1 (fun _=>.nilFunc)) (Qg (h2 (fun _=>.nilFunc)) (Qg (h3 (fun _=>.nilFunc)) (oI))))
 exact Fn.plain (vs:=[_,_,_,_]) (@Qr x0 x1 x2 x3 true (hX x0 x1 x2 x3)) (fun r b h=>h.1) (fun _=>.nilFunc) (lt w.heap.size) (fun _ h=>h) hr
set_option maxRecDepth 100000 in
theorem aEl (os:Os) (started:os.Started) (H:Type) (enc:TypeId×Value->H) :
  ReturnsInHanded {} Tryz.checked os 3 .any (Rows.needAllSpec.pre6 enc Tryz.prog Tryz.f3 Rows.needAllRow.domain false) (Rows.needAllSpec.post enc Tryz.prog Tryz.f3 false true false false):=by
 refine returnsInHanded_of_change (C:=Tryz.checked) own started (by kernel_rfl) Tryz.func3
  (ChangeSpec.witness6 (enc:=enc) (C:=Tryz.checked) false ⟨#[],#[.slice none 0 0,.slice none 0 0,.agg #[.int .i64 0,.int .i64 0],.int .i64 0],[]⟩ 8 (by kernel_rfl) (by kernel_rfl) (by kernel_rfl) (by kernel_rfl)) ?_
 intro W base args ds gs before hval0 hW hcnd _
 have hval:∀ (j:Nat) t v,Tryz.f3.params[j]?=some t->args[j]?=some v->Value.okWide Tryz.prog W .any base t v:=hval0
 have hW':=hW
 obtain⟨p,q,hA0,hV,rfl,hfz,hnd⟩:=hW
 have hA:DataW.TrodAll enc Tryz.prog W 0 (fun _=>true) true Tryz.f3.params.toList args.toList ds p:=hA0
 rw [Tryz.params3] at hA hval
 obtain⟨v0,vs0,d0,ds0,p0,q0,hargs,rfl,rfl,h0,r0⟩:=trodAll_cons hA
 obtain⟨v1,vs1,d1,ds1,p1,q1,rfl,rfl,rfl,h1,r1⟩:=trodAll_cons r0
 obtain⟨v2,vs2,d2,ds2,p2,q2,rfl,rfl,rfl,h2,r2⟩:=trodAll_cons r1
 obtain⟨v3,vs3,d3,ds3,p3,q3,rfl,rfl,rfl,h3,r3⟩:=trodAll_cons r2
 obtain⟨rfl,rfl,rfl⟩:=trodAll_nil r3
 obtain rfl:args=#[v0,v1,v2,v3]:=by cases args; simp_all
 obtain⟨rfl,rfl⟩:=trodVars_none hV
 have k0:=h0
 have k1:=h1
 have k2:=h2
 have k3:=h3
 have lt0:∀ x∈p0,x.block < W.heap.size:=by obtain⟨m,hm⟩:=k0; exact DataW.trod_lt m _ _ _ hm
 have lt1:∀ x∈p1,x.block < W.heap.size:=by obtain⟨m,hm⟩:=k1; exact DataW.trod_lt m _ _ _ hm
 have lt2:∀ x∈p2,x.block < W.heap.size:=by obtain⟨m,hm⟩:=k2; exact DataW.trod_lt m _ _ _ hm
 have lt3:∀ x∈p3,x.block < W.heap.size:=by obtain⟨m,hm⟩:=k3; exact DataW.trod_lt m _ _ _ hm
 obtain⟨a0,len0,cap0,rfl⟩:=okWide_slice Tryz.underlying22 (hval 0 22 v0 rfl rfl)
 obtain⟨x0,w0⟩:=eZ (c:=fun a=>.sl 1 (Ak eI a)) aI2 (fun _=>rfl) rfl h0
 obtain⟨a1,len1,cap1,rfl⟩:=okWide_slice Tryz.underlying23 (hval 1 23 v1 rfl rfl)
 obtain⟨x1,w1⟩:=eZ (c:=fun a=>.sl 2 (Ak Ac.enc a)) aJn (fun _=>rfl) rfl h1
 obtain⟨cs2,rfl,-⟩:=okWide_struct Tryz.underlying25 (hval 2 25 v2 rfl rfl)
 obtain⟨x2,w2⟩:=vM aFx (fun a c hc=>by simp only [Ac.enc,aE7,aHp,aLl] at hc; rcases hc with rfl | rfl <;> rfl) h2
 obtain⟨a3,rfl⟩:=okWide_int Tryz.underlying3 (hval 3 3 v3 rfl rfl)
 obtain⟨x3,w3⟩:=eZ (c:=fun (a:Int)=>.int .i64 a) op3 (fun _=>rfl) rfl h3
 clear hA0 hval0
 refine (aI5 _ _ _ _ x0 x1 x2 x3 W w0 w1 w2 w3).mono fun e W' ⟨he,bel⟩=>?_
 subst he
 exact⟨_,rfl,_,_,_,[],_,[],hW',trodAll_mk1 (shut_bool Tryz.underlying4 _),(trodAll_cons_mk (Below.trod X2 (by kernel_rfl) (aCe (by kernel_rfl)) k0 bel lt0) (trodAll_cons_mk (Below.trod X2 (by kernel_rfl) (aCe (by kernel_rfl)) k1 bel lt1) (trodAll_cons_mk (Below.trod X2 (by kernel_rfl) (aCe (by kernel_rfl)) k2 bel lt2) (trodAll_cons_mk (Below.trod X2 (by kernel_rfl) (aCe (by kernel_rfl)) k3 bel lt3) trodAll_mk0)))),rfl,bel.frame _,fun h=>by cases h⟩
theorem aIz:Rows.needAllRow.holds Tryz.pinned (OpenSpec.ofChange Rows.needAllSpec):=
 OpenClaim.holds_of_wide 3 Tryz.f3 rfl rfl rfl rfl rfl rfl rfl ⟨rfl,rfl,rfl,rfl,rfl⟩ rfl rfl rfl rfl rfl (by kernel_rfl) Tryz.func3 (by kernel_rfl)
  (aCe (by kernel_rfl)) (by unfold Func.isWrapper; first | (rw [if_pos (by decide +kernel)]; kernel_rfl) | (rw [if_neg (by decide +kernel)]; exact⟨rfl,rfl⟩))
  (fun os started H enc _=>aEl os started H enc)
theorem proved:Rows.NeedAllSaid:=aIz
#print axioms proved
end Go.Proofs.YtkioneinddihlaaGreat.needAll
