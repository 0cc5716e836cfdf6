/- Plain texts, joined. No program is in sight here. -/
import Derived.Test.YtfanepojdefdpaaGreatEE
import Derived.ChangeArms
import Derived.ChangeSlices
import Derived.WideShapes
import Derived.OpenShut
import Derived.DataReads
set_option linter.unusedVariables false
set_option linter.unusedSimpArgs false
namespace Go.Proofs.YtfanepojdefdpaaGreat
section
open Go.RowKit Go.ChangeShapes Go.WideShapes
section
variable {P:Program}
def Vn (P:Program) (k:Nat) (t:TypeId) {α:Type} (f:α->List C):Prop:=
 ∀ (H:Type) (enc:TypeId×Value->H) (w:World) (fuel:Nat) (cs:List Value) (x:DataW H×List MemPlace),fuel<=k->DataW.trod enc P w 0 (fun _=>true) true fuel t cs=some x->∃ a:α,Fb w (lt w.heap.size) (f a) cs
def Opn (P:Program) (t:TypeId) {α:Type} (f:α->List C):Prop:=∀ k,Vn P k t f
variable {α:Type} {f:α->List C} {t e:TypeId} {k sz:Nat}
theorem Vn.le {j:Nat} (h:Vn P k t f) (hj:j<=k):Vn P j t f:=fun H enc w fuel cs x hf=>h H enc w fuel cs x (by omega)
theorem Vn.zero:Vn P 0 t f:=fun H enc w fuel cs x hf h=>by
 obtain rfl:fuel=0:=by omega
 simp [DataW.trod] at h
theorem Fb.one {w:World} {S:Nat->Prop} {c:C} {u:Value} (h:D3 w S c u):Fb w S [c] [u]:=⟨rfl,fun j c' u' h1 h2=>by
 cases j with
 | zero=>simp at h1 h2; subst h1 h2; exact h
 | succ j=>simp at h1⟩
theorem Fb.one_ {w:World} {S:Nat->Prop} {c:C} {u:Value} (h:Fb w S [c] [u]):D3 w S c u:=h.2 0 c u rfl rfl
theorem W9 {k:IntKind} {n:Int} (h:(Lit.int k n).wf=true):k.min<=n/\n<=k.max:=by
 simpa [Lit.wf] using h
theorem Vn.int {k:IntKind} (ht:P.underlying t=some (.int k)) {n:Nat}:Vn P n t (eK k):=fun H enc w fuel cs x hf h=>by
 obtain⟨m,rfl,-,hw⟩:=DataW.trod_int ht h
 exact⟨m,Fb.one (by unfold D3; exact⟨rfl,W9 hw⟩)⟩
theorem Vn.i64 (ht:P.underlying t=some (.int .i64)) {n:Nat}:Vn P n t eI:=Vn.int ht
theorem Vn.u8 (ht:P.underlying t=some (.int .u8)) {n:Nat}:Vn P n t e8:=fun H enc w fuel cs x hf h=>by
 obtain⟨m,rfl,-,hw⟩:=DataW.trod_int ht h
 have hr:=W9 hw
 have h1:IntKind.u8.min=0:=rfl
 have h2:IntKind.u8.max=255:=rfl
 rw [h1,h2] at hr
 have e2:((UInt8.ofNat m.toNat).toNat:Int)=m:=by rw [aG0,aFc (by omega)]; omega
 exact⟨UInt8.ofNat m.toNat,Fb.one (by unfold D3; rw [e2]; exact⟨rfl,W9 hw⟩)⟩
theorem Vn.bool (ht:P.underlying t=some .bool) {n:Nat}:Vn P n t eB:=fun H enc w fuel cs x hf h=>by
 obtain⟨b,rfl,-⟩:=DataW.trod_bool ht h
 exact⟨b,Fb.one (by unfold D3; rfl)⟩
theorem Vn.str (ht:P.underlying t=some .string) {n:Nat}:Vn P n t eS:=fun H enc w fuel cs x hf h=>by
 obtain⟨s,rfl,-,hs⟩:=DataW.trod_string ht h
 exact⟨s,Fb.one (by unfold D3; exact⟨rfl,hs⟩)⟩
theorem qG {α:Type} (n:Nat) (Q:Nat->α->Prop) (h:∀ i,i < n->∃ d,Q i d):∃ es:List α,es.length=n/\∀ i d,es[i]?=some d->Q i d:=by
 induction n with
 | zero=>exact⟨[],rfl,fun i d h=>by simp at h⟩
 | succ n ih=>
  obtain⟨es,h1,h2⟩:=ih fun i hi=>h i (by omega)
  obtain⟨d,hd⟩:=h n (by omega)
  refine⟨es ++ [d],by simp [h1],fun i d' hi=>?_⟩
  rw [aIh] at hi
  split at hi
  ·exact h2 i d' hi
  ·rename_i hn
   have:i - es.length=0:=by
    rcases aFa (i - es.length) with h0 | h0
    ·exact h0
    ·rw [aF5 (by simp; omega)] at hi; cases hi
   rw [this] at hi
   simp at hi
   subst hi
   have e:i=n:=by omega
   rw [e]; exact hd
theorem qU {sz:Nat} (hf:∀ x,(f x).length=sz) {l:List α} {j:Nat} {x:α} (hx:l[j]?=some x) {r:Nat} (hr:r < sz):(An f l)[j * sz + r]?=(f x)[r]?:=by
 have hj:=(aBw.1 hx).1
 rw [Oo hx,aE0 (by rw [Mk hf (by omega)]; omega),Mk hf (by omega),aE3 (by rw [hf]; omega)]
 congr 1; omega
theorem Vn.slice (ht:P.underlying t=some (.slice e)) (hc:P.cellsOf e=sz) (hz:0 < sz) (hf:∀ x,(f x).length=sz) (h:Vn P k e f):Vn P (k + 1) t (eL sz f):=fun H enc w fuel cs x hk hx=>by
 rcases DataW.trod_slice ht hx with ⟨rfl,-⟩ | ⟨a,len,cap,elems,rest,n',rfl,rfl,-,-,hlc,hcm,hel,hat,-⟩
 ·exact⟨[],Fb.one (D3.mk_slice (cs:=An f []) (by simp [An]) (aFf _) (aFb _) (fun h=>by omega))⟩
 ·rw [hc] at hat
  obtain⟨es,hes,hP⟩:=qG len (fun i d=>∃ cs',Fb w (lt w.heap.size) (f d) cs'/\∀ r,r < sz->w.cell? ((a.add (i * sz)).add r)=cs'[r]?) (fun i hi=>by
   obtain⟨y,hy⟩:∃ y,elems[i]?=some y:=⟨_,aA1 (by omega)⟩
   have h1:=(hat i hi).trans hy
   obtain⟨cs',h2,h3⟩:=aFp.1 h1
   obtain⟨d,hd⟩:=h H enc w n' cs' y (by omega) h3
   obtain⟨-,-,h5⟩:=World.cells?_some h2
   exact⟨d,cs',hd,fun r hr=>h5 r hr⟩)
  have hcell:∀ i d,es[i]?=some d->∀ r,r < sz->∃ c u,(f d)[r]?=some c/\w.cell? (a.add (i * sz + r))=some u/\D3 w (lt w.heap.size) c u:=by
   intro i d hd r hr
   obtain⟨cs',h4,h5⟩:=hP i d hd
   have hl:cs'.length=sz:=by rw [<- h4.1,hf]
   obtain⟨c,hc'⟩:∃ c,(f d)[r]?=some c:=⟨_,aA1 (by rw [hf]; omega)⟩
   obtain⟨u,hu⟩:∃ u,cs'[r]?=some u:=⟨_,aA1 (by omega)⟩
   have h6:=h5 r hr
   rw [Qm,hu] at h6
   exact⟨c,u,hc',h6,h4.2 r c u hc' hu⟩
  refine⟨es,Fb.one (D3.mk_slice (cs:=An f es) (by rw [D0 hf,hes]) hlc hcm fun hn=>⟨a,rfl,?_,fun j c hj=>?_⟩)⟩
  ·obtain⟨d,hd⟩:∃ d,es[0]?=some d:=⟨_,aA1 (by omega)⟩
   obtain⟨c,u,-,h5,-⟩:=hcell 0 d hd 0 hz
   have h1:(a.add (0 * sz + 0)).block < w.heap.size:=by
    rcases aF4 (a.add (0 * sz + 0)).block w.heap.size with h1 | h1
    ·exact h1
    ·rw [World.cell?,Array.getElem?_eq_none h1] at h5
     simp at h5
   rwa [Mq] at h1
  ·have hjl:=(aBw.1 hj).1
   rw [D0 hf] at hjl
   have hq:j / sz < es.length:=by rw [aH9 hz]; exact hjl
   have hm:=Nat.mod_lt j hz
   have he:j / sz * sz + j % sz=j:=by rw [aGj]; exact Nat.div_add_mod j sz
   obtain⟨d,hd⟩:∃ d,es[j / sz]?=some d:=⟨_,aA1 hq⟩
   obtain⟨c',u,h1,h2,h3⟩:=hcell (j / sz) d hd (j % sz) hm
   have h4:=qU hf hd hm
   rw [he,hj,h1] at h4
   injection h4 with h4
   subst h4
   rw [he] at h2
   exact⟨u,h2,h3⟩
theorem Fb.cut {w:World} {S:Nat->Prop} {c1 c2:List C} {cs:List Value} {o q o':Nat} (h1:Fb w S c1 ((cs.drop o).take q)) (h2:Fb w S c2 (cs.drop o')) (ho:o'=o + q):Fb w S (c1 ++ c2) (cs.drop o):=by
 subst ho
 have e:cs.drop o=(cs.drop o).take q ++ cs.drop (o + q):=by rw [<- aHe,aGc]
 rw [e]
 exact h1.append h2
theorem Vn.field {H:Type} {enc:TypeId×Value->H} {w:World} {n o q:Nat} {cs:List Value} {fs:Array Field} {xs:List (DataW H×List MemPlace)} (hx:xs.length=fs.size)
  (hfield:∀ (i:Nat) (f:Field),fs[i]?=some f->DataW.trod enc P w 0 (fun _=>true) true n f.type ((cs.drop f.offset).take (P.cellsOf f.type))=xs[i]?) (i:Nat) {g:Field} (hi:fs[i]?=some g) (ht:g.type=t) (ho:g.offset=o) (hq:P.cellsOf t=q)
  (h:Vn P k t f) (hk:n<=k):∃ a:α,Fb w (lt w.heap.size) (f a) ((cs.drop o).take q):=by
 have h1:=hfield i g hi
 have hl:i < xs.length:=by
  rw [hx]
  exact (aEx.1 hi).1
 rw [aA1 hl,ht,ho,hq] at h1
 exact h H enc w n _ _ hk h1
def dvC:C->DV
 | .int k n=>.val (.int k n)
 | .bool b=>.val (.bool b)
 | .str s=>.val (.string s)
 | .raw u=>.val u
 | .sl sz cs=>.sl sz cs
 | .mp l=>.mp l
def qC:C->Bool
 | .raw _=>false
 | .mp _=>false
 | _=>true
theorem D3.dv {w:World} {S:Nat->Prop} {ρ:Nat->Value} {c:C} {v:Value} (hc:qC c=true) (h:D3 w S c v):B7 ρ S w (dvC c) v:=by
 cases c with
 | int k n=>unfold D3 at h; unfold dvC B7; exact⟨h.1,by simp [Fr,h.2.1,h.2.2]⟩
 | bool b=>unfold D3 at h; unfold dvC B7; exact⟨h,rfl⟩
 | str s=>unfold D3 at h; unfold dvC B7; exact⟨h.1,by simp [Fr,h.2]⟩
 | raw u=>cases hc
 | sl sz cs=>unfold dvC B7; exact h
 | mp l=>cases hc
theorem Fb.dv {w:World} {S:Nat->Prop} {ρ:Nat->Value}:∀ {cs:List C} {us:List Value},(∀ c∈cs,qC c=true)->Fb w S cs us->Bk ρ S w (cs.map dvC) us
 | [],[],_,_=>by unfold List.map Bk; rfl
 | [],u :: us,_,h=>by have:=h.1; simp at this
 | c :: cs,[],_,h=>by have:=h.1; simp at this
 | c :: cs,u :: us,hc,h=>by
  unfold List.map Bk
  exact⟨u,us,rfl,(h.2 0 c u rfl rfl).dv (hc c (by simp)),Fb.dv (fun c' hm=>hc c' (by simp [hm])) ⟨by simpa using h.1,fun j c' u' x y=>h.2 (j + 1) c' u' (by simpa using x) (by simpa using y)⟩⟩
theorem Wp {H:Type} {enc:TypeId×Value->H} {w:World} {v:Value} {d:DataW H} {p:List MemPlace} {c:α->C} (ho:Opn P t (fun a=>[c a])) (hc:∀ a,qC (c a)=true) (hv:v.cells.toList=[v]) (h:DataW.Trod enc P w 0 (fun _=>true) true t v d p):∃ a:α,∀ ρ,B7 ρ (lt w.heap.size) w (dvC (c a)) v:=by
 obtain⟨fuel,hf⟩:=h
 rw [hv] at hf
 obtain⟨a,ha⟩:=ho fuel H enc w fuel _ _ (aFf _) hf
 exact⟨a,fun ρ=>ha.one_.dv (hc a)⟩
theorem lY {ρ:Nat->Value} {I:Nat->Prop} {w:World}:Bk ρ I w [] []:=by unfold Bk; rfl
theorem Pb {ρ:Nat->Value} {I:Nat->Prop} {w:World} {d:DV} {ds:List DV} {v:Value} {vs:List Value} (h:B7 ρ I w d v) (h':Bk ρ I w ds vs):Bk ρ I w (d :: ds) (v :: vs):=by unfold Bk; exact⟨v,vs,rfl,h,h'⟩
end
end
section
open Go.RowKit
mutual
def Zs:DV->Prop
 | .sl sz cs=>(∃ n,cs.length=n * sz/\n<=maxLen)/\Jq cs
 | .slc _ _=>True
 | .mp _=>True
 | .elt cs=>Jq cs
 | .agg ds=>Y5 ds
 | .tup ds=>Y5 ds
 | .clo _ _ _=>True
 | .val v=>Fr v=true
 | .row _=>True
 | .part _ _ _=>True
 | .ptr _ _=>True
 | .nst _ _ _=>True
 | .npt _ _ _ _=>True
 | .npr _ _ _ _ _=>True
 | .qpt _ _=>True
def Y5:List DV->Prop
 | []=>True
 | d :: ds=>Zs d/\Y5 ds
end
mutual
theorem B7.okV_ {ρ:Nat->Value} {I:Nat->Prop} {w:World}:∀ (d:DV) (v:Value),B7 ρ I w d v->Zs d
 | .val _,_,h=>by unfold B7 at h; unfold Zs; rw [<- h.1]; exact h.1 ▸ h.2
 | .sl sz cs,v,h=>by
  have:=B7.ok _ _ h
  unfold cR at this
  unfold Zs
  exact this
 | .slc _ _,_,_=>by unfold Zs; trivial
 | .mp _,_,_=>by unfold Zs; trivial
 | .row _,_,_=>by unfold Zs; trivial
 | .part _ _ _,_,_=>by unfold Zs; trivial
 | .ptr _ _,_,_=>by unfold Zs; trivial
 | .nst _ _ _,_,_=>by unfold Zs; trivial
 | .npt _ _ _ _,_,_=>by unfold Zs; trivial
 | .npr _ _ _ _ _,_,_=>by unfold Zs; trivial
 | .qpt _ _,_,_=>by unfold Zs; trivial
 | .elt cs,v,h=>by
  have:=B7.ok _ _ h
  unfold cR at this
  unfold Zs
  exact this
 | .agg ds,v,h=>by
  unfold B7 at h
  obtain⟨vs,-,-,h⟩:=h
  unfold Zs
  exact Bk.okV_ ds vs h
 | .clo _ _ _,_,_=>by unfold Zs; trivial
 | .tup ds,v,h=>by
  unfold B7 at h
  obtain⟨vs,-,h⟩:=h
  unfold Zs
  exact Bk.okV_ ds vs h
theorem Bk.okV_ {ρ:Nat->Value} {I:Nat->Prop} {w:World}:∀ (ds:List DV) (vs:List Value),Bk ρ I w ds vs->Y5 ds
 | [],_,_=>by unfold Y5; trivial
 | d :: ds,vs,h=>by
  unfold Bk at h
  obtain⟨u,us,-,h1,h2⟩:=h
  unfold Y5
  exact⟨B7.okV_ d u h1,Bk.okV_ ds us h2⟩
end
theorem vG {n:Int}:Zs (.val (.int .i64 n))↔-9223372036854775808<=n/\n<=9223372036854775807:=by
 unfold Zs
 exact Gr
theorem nK {d:DV} {ds:List DV}:Y5 (d :: ds)↔Zs d/\Y5 ds:=by rw [Y5]
end
end Go.Proofs.YtfanepojdefdpaaGreat
