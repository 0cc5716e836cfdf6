import Derived.Test.YtbpchmikjiinpaaGreatA16
import Derived.Test.YtbpchmikjiinpaaGreatV9
import Derived.Test.YtbpchmikjiinpaaGreatOP
import Derived.Test.YtbpchmikjiinpaaGreatOW
import Derived.Test.YtbpchmikjiinpaaGreatRows
import Derived.WalkKit
import Derived.Lib.SmallJoins
import Derived.ProofKit
import Derived.OpenShut
import Derived.ShutString
import Derived.ChangeOld
import Derived.Below
set_option linter.unusedSimpArgs false
set_option linter.unusedVariables false
namespace Go.Proofs.YtbpchmikjiinpaaGreat.watchAll
open Go.ChangeShapes Go.WideShapes Go.ChangeAt Go.RowKit
open Go.ChangeMaps (open_string shut_string)
theorem yR:Opn Tryz.prog 3 eI:=fun _=>So.i64 Tryz.underlying3
theorem aM2:Opn Tryz.prog 22 (eL 1 eI):=fun k=>by
 cases k with
 | zero=>exact So.zero
 | succ k=>exact So.slice Tryz.underlying22 (by kernel_rfl) (by omega) (fun x=>Rf x) (yR k)
theorem op9:Opn Tryz.prog 9 eS:=fun _=>So.str Tryz.underlying9
theorem aLz:Opn Tryz.prog 24 Aq.enc:=by
 intro k
 intro H enc w fuel cs x hk h
 obtain⟨xs,n,hn,-,hl,hx,hF⟩:=DataW.trod_struct Tryz.underlying24 h
 have hlen:cs.length=2:=hl.trans (by kernel_rfl)
 obtain⟨a0,r0⟩:=So.field (q:=1) hx hF 0 rfl rfl rfl (by kernel_rfl) (yR fuel) (by omega)
 obtain⟨a1,r1⟩:=So.field (q:=1) hx hF 1 rfl rfl rfl (by kernel_rfl) (yR fuel) (by omega)
 refine⟨⟨a0,a1⟩,?_⟩
 exact Fc.cut (o:=0) (o':=1) r0 (Fc.cut (o:=1) (o':=2) r1 (Fc.end_ (o:=2) (by omega)) rfl) rfl
theorem aI5:Opn Tryz.prog 26 Aa.enc:=by
 intro k
 intro H enc w fuel cs x hk h
 obtain⟨xs,n,hn,-,hl,hx,hF⟩:=DataW.trod_struct Tryz.underlying26 h
 have hlen:cs.length=11:=hl.trans (by kernel_rfl)
 obtain⟨a0,r0⟩:=So.field (q:=1) hx hF 0 rfl rfl rfl (by kernel_rfl) (yR fuel) (by omega)
 obtain⟨a1,r1⟩:=So.field (q:=1) hx hF 1 rfl rfl rfl (by kernel_rfl) (op9 fuel) (by omega)
 obtain⟨a2,r2⟩:=So.field (q:=1) hx hF 2 rfl rfl rfl (by kernel_rfl) (yR fuel) (by omega)
 obtain⟨a3,r3⟩:=So.field (q:=1) hx hF 3 rfl rfl rfl (by kernel_rfl) (yR fuel) (by omega)
 obtain⟨a4,r4⟩:=So.field (q:=1) hx hF 4 rfl rfl rfl (by kernel_rfl) (yR fuel) (by omega)
 obtain⟨a5,r5⟩:=So.field (q:=1) hx hF 5 rfl rfl rfl (by kernel_rfl) (yR fuel) (by omega)
 obtain⟨a6,r6⟩:=So.field (q:=1) hx hF 6 rfl rfl rfl (by kernel_rfl) (op9 fuel) (by omega)
 obtain⟨a7,r7⟩:=So.field (q:=2) hx hF 7 rfl rfl rfl (by kernel_rfl) (aLz fuel) (by omega)
 obtain⟨a8,r8⟩:=So.field (q:=1) hx hF 8 rfl rfl rfl (by kernel_rfl) (yR fuel) (by omega)
 obtain⟨a9,r9⟩:=So.field (q:=1) hx hF 9 rfl rfl rfl (by kernel_rfl) (op9 fuel) (by omega)
 refine⟨⟨a0,a1,a2,a3,a4,a5,a6,a7,a8,a9⟩,?_⟩
 exact Fc.cut (o:=0) (o':=1) r0 (Fc.cut (o:=1) (o':=2) r1 (Fc.cut (o:=2) (o':=3) r2 (Fc.cut (o:=3) (o':=4) r3 (Fc.cut (o:=4) (o':=5) r4 (Fc.cut (o:=5) (o':=6) r5 (Fc.cut (o:=6) (o':=7) r6 (Fc.cut (o:=7) (o':=9) r7 (Fc.cut (o:=9) (o':=10) r8 (Fc.cut (o:=10) (o':=11) r9 (Fc.end_ (o:=11) (by omega)) rfl) rfl) rfl) rfl) rfl) rfl) rfl) rfl) rfl) rfl
theorem aLk:Opn Tryz.prog 27 (eL 11 Aa.enc):=fun k=>by
 cases k with
 | zero=>exact So.zero
 | succ k=>exact So.slice Tryz.underlying27 (by kernel_rfl) (by omega) (fun x=>Aa.enc_len x) (aI5 k)
theorem own:ownKnob Tryz.prog.godebug=none:=by kernel_rfl
theorem aF:laidOutB Tryz.prog=true:=by kernel_rfl
theorem aLj (v0 v1 v2 v3:Value) (x0:(List Int)) (x1:Aa) (x2:Int) (x3:(List Aa)) (w:World) (h0:∀ ρ,Cw ρ (lt w.heap.size) w (.sl 1 (Aj eI x0)) v0) (h1:∀ ρ,Cw ρ (lt w.heap.size) w (.agg (Aa.dv x1)) v1) (h2:∀ ρ,Cw ρ (lt w.heap.size) w (.val (.int .i64 x2)) v2) (h3:∀ ρ,Cw ρ (lt w.heap.size) w (.sl 11 (Aj Aa.enc x3)) v3) :
  Calls Tryz.prog 3 #[v0,v1,v2,v3] w fun e w'=>e=.returned (.bool true)/\Below w.heap.size w w':=by
 have hr:Cb (fun _=>.nilFunc) (lt w.heap.size) w [.sl 1 (Aj eI x0),.agg (Aa.dv x1),.val (.int .i64 x2),.sl 11 (Aj Aa.enc x3)] [v0,v1,v2,v3]:=Sy (h0 (fun _=>.nilFunc)) (Sy (h1 (fun _=>.nilFunc)) (Sy (h2 (fun _=>.nilFunc)) (Sy (h3 (fun _=>.nilFunc)) (tB))))
 exact Fn.plain (vs:=[_,_,_,_]) (@Sk x0 x1 x2 x3 true (gV x0 x1 x2 x3 (Cb.okV_ _ _ hr))) (fun r b h=>h.1) (fun _=>.nilFunc) (lt w.heap.size) (fun _ h=>h) hr
set_option maxRecDepth 100000 in
theorem aFi (os:Os) (started:os.Started) (H:Type) (enc:TypeId×Value->H) :
  ReturnsInHanded {} Tryz.checked os 3 .any (Rows.watchAllSpec.pre6 enc Tryz.prog Tryz.f3 Rows.watchAllRow.domain false) (Rows.watchAllSpec.post enc Tryz.prog Tryz.f3 false true false false):=by
 refine returnsInHanded_of_change (C:=Tryz.checked) own started (by kernel_rfl) Tryz.func3
  (ChangeSpec.witness6 (enc:=enc) (C:=Tryz.checked) false ⟨#[],#[.slice none 0 0,.agg #[.int .i64 0,.string ByteArray.empty,.int .i64 0,.int .i64 0,.int .i64 0,.int .i64 0,.string ByteArray.empty,.int .i64 0,.int .i64 0,.int .i64 0,.string ByteArray.empty],.int .i64 0,.slice none 0 0],[]⟩ 8 (by kernel_rfl) (by kernel_rfl) (by kernel_rfl) (by kernel_rfl)) ?_
 intro W base args ds gs before hval0 hW hcnd _
 have hval:∀ (j:Nat) t v,Tryz.f3.params[j]?=some t->args[j]?=some v->Value.okWide Tryz.prog W .any base t v:=hval0
 have hW':=hW
 obtain⟨p,q,hA0,hV,rfl,hfz,hnd⟩:=hW
 have hA:DataW.TrodAll enc Tryz.prog W 0 (fun _=>true) true Tryz.f3.params.toList args.toList ds p:=hA0
 rw [Tryz.params3] at hA hval
 obtain⟨v0,vs0,d0,ds0,p0,q0,hargs,rfl,rfl,h0,r0⟩:=trodAll_cons hA
 obtain⟨v1,vs1,d1,ds1,p1,q1,rfl,rfl,rfl,h1,r1⟩:=trodAll_cons r0
 obtain⟨v2,vs2,d2,ds2,p2,q2,rfl,rfl,rfl,h2,r2⟩:=trodAll_cons r1
 obtain⟨v3,vs3,d3,ds3,p3,q3,rfl,rfl,rfl,h3,r3⟩:=trodAll_cons r2
 obtain⟨rfl,rfl,rfl⟩:=trodAll_nil r3
 obtain rfl:args=#[v0,v1,v2,v3]:=by cases args; simp_all
 obtain⟨rfl,rfl⟩:=trodVars_none hV
 have k0:=h0
 have k1:=h1
 have k2:=h2
 have k3:=h3
 have lt0:∀ x∈p0,x.block < W.heap.size:=by obtain⟨m,hm⟩:=k0; exact DataW.trod_lt m _ _ _ hm
 have lt1:∀ x∈p1,x.block < W.heap.size:=by obtain⟨m,hm⟩:=k1; exact DataW.trod_lt m _ _ _ hm
 have lt2:∀ x∈p2,x.block < W.heap.size:=by obtain⟨m,hm⟩:=k2; exact DataW.trod_lt m _ _ _ hm
 have lt3:∀ x∈p3,x.block < W.heap.size:=by obtain⟨m,hm⟩:=k3; exact DataW.trod_lt m _ _ _ hm
 obtain⟨a0,len0,cap0,rfl⟩:=okWide_slice Tryz.underlying22 (hval 0 22 v0 rfl rfl)
 obtain⟨x0,w0⟩:=jG (c:=fun a=>.sl 1 (Aj eI a)) aM2 (fun _=>rfl) rfl h0
 obtain⟨cs1,rfl,-⟩:=okWide_struct Tryz.underlying26 (hval 1 26 v1 rfl rfl)
 obtain⟨x1,w1⟩:=aA4 aI5 (fun a c hc=>by simp only [Aa.enc,aC6,aD5,aLd] at hc; rcases hc with rfl | rfl | rfl | rfl | rfl | rfl | rfl | rfl | rfl | rfl | rfl <;> rfl) h1
 obtain⟨a2,rfl⟩:=okWide_int Tryz.underlying3 (hval 2 3 v2 rfl rfl)
 obtain⟨x2,w2⟩:=jG (c:=fun (a:Int)=>.int .i64 a) yR (fun _=>rfl) rfl h2
 obtain⟨a3,len3,cap3,rfl⟩:=okWide_slice Tryz.underlying27 (hval 3 27 v3 rfl rfl)
 obtain⟨x3,w3⟩:=jG (c:=fun a=>.sl 11 (Aj Aa.enc a)) aLk (fun _=>rfl) rfl h3
 clear hA0 hval0
 refine (aLj _ _ _ _ x0 x1 x2 x3 W w0 w1 w2 w3).mono fun e W' ⟨he,bel⟩=>?_
 subst he
 exact⟨_,rfl,_,_,_,[],_,[],hW',trodAll_mk1 (shut_bool Tryz.underlying4 _),(trodAll_cons_mk (Below.trod aF (by kernel_rfl) (aCm (by kernel_rfl)) k0 bel lt0) (trodAll_cons_mk (Below.trod aF (by kernel_rfl) (aCm (by kernel_rfl)) k1 bel lt1) (trodAll_cons_mk (Below.trod aF (by kernel_rfl) (aCm (by kernel_rfl)) k2 bel lt2) (trodAll_cons_mk (Below.trod aF (by kernel_rfl) (aCm (by kernel_rfl)) k3 bel lt3) trodAll_mk0)))),rfl,bel.frame _,fun h=>by cases h⟩
theorem aLy:Rows.watchAllRow.holds Tryz.pinned (OpenSpec.ofChange Rows.watchAllSpec):=
 OpenClaim.holds_of_wide 3 Tryz.f3 rfl rfl rfl rfl rfl rfl rfl ⟨rfl,rfl,rfl,rfl,rfl⟩ rfl rfl rfl rfl rfl (by kernel_rfl) Tryz.func3 (by kernel_rfl)
  (aCm (by kernel_rfl)) (by unfold Func.isWrapper; first | (rw [if_pos (by decide +kernel)]; kernel_rfl) | (rw [if_neg (by decide +kernel)]; exact⟨rfl,rfl⟩))
  (fun os started H enc _=>aFi os started H enc)
theorem proved:Rows.WatchAllSaid:=aLy
#print axioms proved
end Go.Proofs.YtbpchmikjiinpaaGreat.watchAll
