/- Plain texts, joined. No program is in sight here. -/
import Derived.Test.YtboglmbblmakjaaGreatDoorEE
import Derived.ChangeArms
import Derived.ChangeSlices
import Derived.WideShapes
import Derived.OpenShut
import Derived.DataReads
set_option linter.unusedVariables false
set_option linter.unusedSimpArgs false
namespace Go.Proofs.YtboglmbblmakjaaGreatDoor
section
open Go.RowKit Go.ChangeShapes Go.WideShapes
section
variable {P:Program}
def fE (P:Program) (k:Nat) (t:TypeId) {α:Type} (f:α->List C):Prop:=
 ∀ (H:Type) (enc:TypeId×Value->H) (w:World) (fuel:Nat) (cs:List Value) (x:DataW H×List MemPlace),fuel<=k->DataW.trod enc P w 0 (fun _=>true) true fuel t cs=some x->∃ a:α,I1 w (lt w.heap.size) (f a) cs
def Opn (P:Program) (t:TypeId) {α:Type} (f:α->List C):Prop:=∀ k,fE P k t f
variable {α:Type} {f:α->List C} {t e:TypeId} {k sz:Nat}
theorem fE.le {j:Nat} (h:fE P k t f) (hj:j<=k):fE P j t f:=fun H enc w fuel cs x hf=>h H enc w fuel cs x (by omega)
theorem fE.zero:fE P 0 t f:=fun H enc w fuel cs x hf h=>by
 obtain rfl:fuel=0:=by omega
 simp [DataW.trod] at h
theorem I1.one {w:World} {S:Nat->Prop} {c:C} {u:Value} (h:Ga w S c u):I1 w S [c] [u]:=⟨rfl,fun j c' u' h1 h2=>by
 cases j with
 | zero=>simp at h1 h2; subst h1 h2; exact h
 | succ j=>simp at h1⟩
theorem I1.one_ {w:World} {S:Nat->Prop} {c:C} {u:Value} (h:I1 w S [c] [u]):Ga w S c u:=h.2 0 c u rfl rfl
theorem bD {k:IntKind} {n:Int} (h:(Lit.int k n).wf=true):k.min<=n/\n<=k.max:=by
 simpa [Lit.wf] using h
theorem fE.int {k:IntKind} (ht:P.underlying t=some (.int k)) {n:Nat}:fE P n t (eK k):=fun H enc w fuel cs x hf h=>by
 obtain⟨m,rfl,-,hw⟩:=DataW.trod_int ht h
 exact⟨m,I1.one (by unfold Ga; exact⟨rfl,bD hw⟩)⟩
theorem fE.i64 (ht:P.underlying t=some (.int .i64)) {n:Nat}:fE P n t eI:=fE.int ht
theorem fE.u8 (ht:P.underlying t=some (.int .u8)) {n:Nat}:fE P n t e8:=fun H enc w fuel cs x hf h=>by
 obtain⟨m,rfl,-,hw⟩:=DataW.trod_int ht h
 have hr:=bD hw
 have h1:IntKind.u8.min=0:=rfl
 have h2:IntKind.u8.max=255:=rfl
 rw [h1,h2] at hr
 have e2:((UInt8.ofNat m.toNat).toNat:Int)=m:=by rw [aUr,aYa (by omega)]; omega
 exact⟨UInt8.ofNat m.toNat,I1.one (by unfold Ga; rw [e2]; exact⟨rfl,bD hw⟩)⟩
theorem fE.bool (ht:P.underlying t=some .bool) {n:Nat}:fE P n t eB:=fun H enc w fuel cs x hf h=>by
 obtain⟨b,rfl,-⟩:=DataW.trod_bool ht h
 exact⟨b,I1.one (by unfold Ga; rfl)⟩
theorem fE.str (ht:P.underlying t=some .string) {n:Nat}:fE P n t eS:=fun H enc w fuel cs x hf h=>by
 obtain⟨s,rfl,-,hs⟩:=DataW.trod_string ht h
 exact⟨s,I1.one (by unfold Ga; exact⟨rfl,hs⟩)⟩
theorem aDe {α:Type} (n:Nat) (Q:Nat->α->Prop) (h:∀ i,i < n->∃ d,Q i d):∃ es:List α,es.length=n/\∀ i d,es[i]?=some d->Q i d:=by
 induction n with
 | zero=>exact⟨[],rfl,fun i d h=>by simp at h⟩
 | succ n ih=>
  obtain⟨es,h1,h2⟩:=ih fun i hi=>h i (by omega)
  obtain⟨d,hd⟩:=h n (by omega)
  refine⟨es ++ [d],by simp [h1],fun i d' hi=>?_⟩
  rw [bAv] at hi
  split at hi
  ·exact h2 i d' hi
  ·rename_i hn
   have:i - es.length=0:=by
    rcases aLg (i - es.length) with h0 | h0
    ·exact h0
    ·rw [aUv (by simp; omega)] at hi; cases hi
   rw [this] at hi
   simp at hi
   subst hi
   have e:i=n:=by omega
   rw [e]; exact hd
theorem aFk {sz:Nat} (hf:∀ x,(f x).length=sz) {l:List α} {j:Nat} {x:α} (hx:l[j]?=some x) {r:Nat} (hr:r < sz):(Ac f l)[j * sz + r]?=(f x)[r]?:=by
 have hj:=(aBe.1 hx).1
 rw [Vr hx,aIp (by rw [S4 hf (by omega)]; omega),S4 hf (by omega),aF7 (by rw [hf]; omega)]
 congr 1; omega
theorem fE.slice (ht:P.underlying t=some (.slice e)) (hc:P.cellsOf e=sz) (hz:0 < sz) (hf:∀ x,(f x).length=sz) (h:fE P k e f):fE P (k + 1) t (eL sz f):=fun H enc w fuel cs x hk hx=>by
 rcases DataW.trod_slice ht hx with ⟨rfl,-⟩ | ⟨a,len,cap,elems,rest,n',rfl,rfl,-,-,hlc,hcm,hel,hat,-⟩
 ·exact⟨[],I1.one (Ga.mk_slice (cs:=Ac f []) (by simp [Ac]) (aKp _) (aLi _) (fun h=>by omega))⟩
 ·rw [hc] at hat
  obtain⟨es,hes,hP⟩:=aDe len (fun i d=>∃ cs',I1 w (lt w.heap.size) (f d) cs'/\∀ r,r < sz->w.cell? ((a.add (i * sz)).add r)=cs'[r]?) (fun i hi=>by
   obtain⟨y,hy⟩:∃ y,elems[i]?=some y:=⟨_,aBb (by omega)⟩
   have h1:=(hat i hi).trans hy
   obtain⟨cs',h2,h3⟩:=Option.bind_eq_some_iff.1 h1
   obtain⟨d,hd⟩:=h H enc w n' cs' y (by omega) h3
   obtain⟨-,-,h5⟩:=World.cells?_some h2
   exact⟨d,cs',hd,fun r hr=>h5 r hr⟩)
  have hcell:∀ i d,es[i]?=some d->∀ r,r < sz->∃ c u,(f d)[r]?=some c/\w.cell? (a.add (i * sz + r))=some u/\Ga w (lt w.heap.size) c u:=by
   intro i d hd r hr
   obtain⟨cs',h4,h5⟩:=hP i d hd
   have hl:cs'.length=sz:=by rw [<- h4.1,hf]
   obtain⟨c,hc'⟩:∃ c,(f d)[r]?=some c:=⟨_,aBb (by rw [hf]; omega)⟩
   obtain⟨u,hu⟩:∃ u,cs'[r]?=some u:=⟨_,aBb (by omega)⟩
   have h6:=h5 r hr
   rw [Xn,hu] at h6
   exact⟨c,u,hc',h6,h4.2 r c u hc' hu⟩
  refine⟨es,I1.one (Ga.mk_slice (cs:=Ac f es) (by rw [H8 hf,hes]) hlc hcm fun hn=>⟨a,rfl,?_,fun j c hj=>?_⟩)⟩
  ·obtain⟨d,hd⟩:∃ d,es[0]?=some d:=⟨_,aBb (by omega)⟩
   obtain⟨c,u,-,h5,-⟩:=hcell 0 d hd 0 hz
   have h1:(a.add (0 * sz + 0)).block < w.heap.size:=by
    rcases aU5 (a.add (0 * sz + 0)).block w.heap.size with h1 | h1
    ·exact h1
    ·rw [World.cell?,bCy h1] at h5
     simp at h5
   rwa [S5] at h1
  ·have hjl:=(aBe.1 hj).1
   rw [H8 hf] at hjl
   have hq:j / sz < es.length:=by rw [Nat.div_lt_iff_lt_mul hz]; exact hjl
   have hm:=Nat.mod_lt j hz
   have he:j / sz * sz + j % sz=j:=by rw [Nat.mul_comm]; exact Nat.div_add_mod j sz
   obtain⟨d,hd⟩:∃ d,es[j / sz]?=some d:=⟨_,aBb hq⟩
   obtain⟨c',u,h1,h2,h3⟩:=hcell (j / sz) d hd (j % sz) hm
   have h4:=aFk hf hd hm
   rw [he,hj,h1] at h4
   injection h4 with h4
   subst h4
   rw [he] at h2
   exact⟨u,h2,h3⟩
theorem I1.cut {w:World} {S:Nat->Prop} {c1 c2:List C} {cs:List Value} {o q o':Nat} (h1:I1 w S c1 ((cs.drop o).take q)) (h2:I1 w S c2 (cs.drop o')) (ho:o'=o + q):I1 w S (c1 ++ c2) (cs.drop o):=by
 subst ho
 have e:cs.drop o=(cs.drop o).take q ++ cs.drop (o + q):=by rw [<- bDd,aU3]
 rw [e]
 exact h1.append h2
theorem fE.field {H:Type} {enc:TypeId×Value->H} {w:World} {n o q:Nat} {cs:List Value} {fs:Array Field} {xs:List (DataW H×List MemPlace)} (hx:xs.length=fs.size)
  (hfield:∀ (i:Nat) (f:Field),fs[i]?=some f->DataW.trod enc P w 0 (fun _=>true) true n f.type ((cs.drop f.offset).take (P.cellsOf f.type))=xs[i]?) (i:Nat) {g:Field} (hi:fs[i]?=some g) (ht:g.type=t) (ho:g.offset=o) (hq:P.cellsOf t=q)
  (h:fE P k t f) (hk:n<=k):∃ a:α,I1 w (lt w.heap.size) (f a) ((cs.drop o).take q):=by
 have h1:=hfield i g hi
 have hl:i < xs.length:=by
  rw [hx]
  exact (aF8.1 hi).1
 rw [aBb hl,ht,ho,hq] at h1
 exact h H enc w n _ _ hk h1
def dvC:C->DV
 | .int k n=>.val (.int k n)
 | .bool b=>.val (.bool b)
 | .str s=>.val (.string s)
 | .raw u=>.val u
 | .sl sz cs=>.sl sz cs
 | .mp l=>.mp l
 | .ifc t c=>.imm (.ifc t c)
 | .ref f cs=>.clo f 0 [.elt cs]
def aEg:C->Bool
 | .raw _=>false
 | .mp _=>false
 | .ifc _ _=>false
 | .ref _ _=>false
 | _=>true
theorem Ga.dv {w:World} {S:Nat->Prop} {ρ:Nat->Value} {c:C} {v:Value} (hc:aEg c=true) (h:Ga w S c v):Dk ρ S w (dvC c) v:=by
 cases c with
 | int k n=>unfold Ga at h; unfold dvC Dk; exact⟨h.1,by simp [G6,h.2.1,h.2.2]⟩
 | bool b=>unfold Ga at h; unfold dvC Dk; exact⟨h,rfl⟩
 | str s=>unfold Ga at h; unfold dvC Dk; exact⟨h.1,by simp [G6,h.2]⟩
 | raw u=>cases hc
 | sl sz cs=>unfold dvC Dk; exact h
 | mp l=>cases hc
 | ifc t c=>cases hc
 | ref f cs=>cases hc
theorem I1.dv {w:World} {S:Nat->Prop} {ρ:Nat->Value}:∀ {cs:List C} {us:List Value},(∀ c∈cs,aEg c=true)->I1 w S cs us->Cj ρ S w (cs.map dvC) us
 | [],[],_,_=>by unfold List.map Cj; rfl
 | [],u :: us,_,h=>by have:=h.1; simp at this
 | c :: cs,[],_,h=>by have:=h.1; simp at this
 | c :: cs,u :: us,hc,h=>by
  unfold List.map Cj
  exact⟨u,us,rfl,(h.2 0 c u rfl rfl).dv (hc c (by simp)),I1.dv (fun c' hm=>hc c' (by simp [hm])) ⟨by simpa using h.1,fun j c' u' x y=>h.2 (j + 1) c' u' (by simpa using x) (by simpa using y)⟩⟩
theorem aJd {H:Type} {enc:TypeId×Value->H} {w:World} {v:Value} {d:DataW H} {p:List MemPlace} {c:α->C} (ho:Opn P t (fun a=>[c a])) (hc:∀ a,aEg (c a)=true) (hv:v.cells.toList=[v]) (h:DataW.Trod enc P w 0 (fun _=>true) true t v d p):∃ a:α,∀ ρ,Dk ρ (lt w.heap.size) w (dvC (c a)) v:=by
 obtain⟨fuel,hf⟩:=h
 rw [hv] at hf
 obtain⟨a,ha⟩:=ho fuel H enc w fuel _ _ (aKp _) hf
 exact⟨a,fun ρ=>ha.one_.dv (hc a)⟩
theorem aAp {ρ:Nat->Value} {I:Nat->Prop} {w:World}:Cj ρ I w [] []:=by unfold Cj; rfl
theorem uI {ρ:Nat->Value} {I:Nat->Prop} {w:World} {d:DV} {ds:List DV} {v:Value} {vs:List Value} (h:Dk ρ I w d v) (h':Cj ρ I w ds vs):Cj ρ I w (d :: ds) (v :: vs):=by unfold Cj; exact⟨v,vs,rfl,h,h'⟩
end
end
section
open Go.RowKit
end
end Go.Proofs.YtboglmbblmakjaaGreatDoor
