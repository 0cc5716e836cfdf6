/- Plain texts, joined. No program is in sight here. -/
import Derived.Test.YtlfeokjhphpjeaaGreatEE
import Derived.ChangeArms
import Derived.ChangeSlices
import Derived.WideShapes
import Derived.OpenShut
import Derived.DataReads
set_option linter.unusedVariables false
set_option linter.unusedSimpArgs false
namespace Go.Proofs.YtlfeokjhphpjeaaGreat
section
open Go.RowKit Go.ChangeShapes Go.WideShapes
section
variable {P:Program}
def Sp (P:Program) (k:Nat) (t:TypeId) {α:Type} (f:α->List C):Prop:=
 ∀ (H:Type) (enc:TypeId×Value->H) (w:World) (fuel:Nat) (cs:List Value) (x:DataW H×List MemPlace),fuel<=k->DataW.trod enc P w 0 (fun _=>true) true fuel t cs=some x->∃ a:α,Ev w (lt w.heap.size) (f a) cs
def yJ (P:Program) (t:TypeId) {α:Type} (f:α->List C):Prop:=∀ k,Sp P k t f
variable {α:Type} {f:α->List C} {t e:TypeId} {k sz:Nat}
theorem Sp.le {j:Nat} (h:Sp P k t f) (hj:j<=k):Sp P j t f:=fun H enc w fuel cs x hf=>h H enc w fuel cs x (by omega)
theorem Sp.zero:Sp P 0 t f:=fun H enc w fuel cs x hf h=>by
 obtain rfl:fuel=0:=by omega
 simp [DataW.trod] at h
theorem Ev.one {w:World} {S:Nat->Prop} {c:C} {u:Value} (h:Dw w S c u):Ev w S [c] [u]:=⟨rfl,fun j c' u' h1 h2=>by
 cases j with
 | zero=>simp at h1 h2; subst h1 h2; exact h
 | succ j=>simp at h1⟩
theorem Ev.one_ {w:World} {S:Nat->Prop} {c:C} {u:Value} (h:Ev w S [c] [u]):Dw w S c u:=h.2 0 c u rfl rfl
theorem Wy {k:IntKind} {n:Int} (h:(Lit.int k n).wf=true):k.min<=n/\n<=k.max:=by
 simpa [Lit.wf] using h
theorem Sp.int {k:IntKind} (ht:P.underlying t=some (.int k)) {n:Nat}:Sp P n t (eK k):=fun H enc w fuel cs x hf h=>by
 obtain⟨m,rfl,-,hw⟩:=DataW.trod_int ht h
 exact⟨m,Ev.one (by unfold Dw; exact⟨rfl,Wy hw⟩)⟩
theorem Sp.i64 (ht:P.underlying t=some (.int .i64)) {n:Nat}:Sp P n t eI:=Sp.int ht
theorem Sp.u8 (ht:P.underlying t=some (.int .u8)) {n:Nat}:Sp P n t e8:=fun H enc w fuel cs x hf h=>by
 obtain⟨m,rfl,-,hw⟩:=DataW.trod_int ht h
 have hr:=Wy hw
 have h1:IntKind.u8.min=0:=rfl
 have h2:IntKind.u8.max=255:=rfl
 rw [h1,h2] at hr
 have e2:((UInt8.ofNat m.toNat).toNat:Int)=m:=by rw [aB4,aBv (by omega)]; omega
 exact⟨UInt8.ofNat m.toNat,Ev.one (by unfold Dw; rw [e2]; exact⟨rfl,Wy hw⟩)⟩
theorem Sp.bool (ht:P.underlying t=some .bool) {n:Nat}:Sp P n t eB:=fun H enc w fuel cs x hf h=>by
 obtain⟨b,rfl,-⟩:=DataW.trod_bool ht h
 exact⟨b,Ev.one (by unfold Dw; rfl)⟩
theorem Sp.str (ht:P.underlying t=some .string) {n:Nat}:Sp P n t eS:=fun H enc w fuel cs x hf h=>by
 obtain⟨s,rfl,-,hs⟩:=DataW.trod_string ht h
 exact⟨s,Ev.one (by unfold Dw; exact⟨rfl,hs⟩)⟩
theorem oA {α:Type} (n:Nat) (Q:Nat->α->Prop) (h:∀ i,i < n->∃ d,Q i d):∃ es:List α,es.length=n/\∀ i d,es[i]?=some d->Q i d:=by
 induction n with
 | zero=>exact⟨[],rfl,fun i d h=>by simp at h⟩
 | succ n ih=>
  obtain⟨es,h1,h2⟩:=ih fun i hi=>h i (by omega)
  obtain⟨d,hd⟩:=h n (by omega)
  refine⟨es ++ [d],by simp [h1],fun i d' hi=>?_⟩
  rw [aDv] at hi
  split at hi
  ·exact h2 i d' hi
  ·rename_i hn
   have:i - es.length=0:=by
    rcases Nat.eq_zero_or_pos (i - es.length) with h0 | h0
    ·exact h0
    ·rw [aC5 (by simp; omega)] at hi; cases hi
   rw [this] at hi
   simp at hi
   subst hi
   have e:i=n:=by omega
   rw [e]; exact hd
theorem mU {sz:Nat} (hf:∀ x,(f x).length=sz) {l:List α} {j:Nat} {x:α} (hx:l[j]?=some x) {r:Nat} (hr:r < sz):(Al f l)[j * sz + r]?=(f x)[r]?:=by
 have hj:=(List.getElem?_eq_some_iff.1 hx).1
 rw [Ns hx,List.getElem?_append_right (by rw [Ll hf (by omega)]; omega),Ll hf (by omega),List.getElem?_append_left (by rw [hf]; omega)]
 congr 1; omega
theorem Sp.slice (ht:P.underlying t=some (.slice e)) (hc:P.cellsOf e=sz) (hz:0 < sz) (hf:∀ x,(f x).length=sz) (h:Sp P k e f):Sp P (k + 1) t (eL sz f):=fun H enc w fuel cs x hk hx=>by
 rcases DataW.trod_slice ht hx with ⟨rfl,-⟩ | ⟨a,len,cap,elems,rest,n',rfl,rfl,-,-,hlc,hcm,hel,hat,-⟩
 ·exact⟨[],Ev.one (Dw.mk_slice (cs:=Al f []) (by simp [Al]) (aBk _) (aBt _) (fun h=>by omega))⟩
 ·rw [hc] at hat
  obtain⟨es,hes,hP⟩:=oA len (fun i d=>∃ cs',Ev w (lt w.heap.size) (f d) cs'/\∀ r,r < sz->w.cell? ((a.add (i * sz)).add r)=cs'[r]?) (fun i hi=>by
   obtain⟨y,hy⟩:∃ y,elems[i]?=some y:=⟨_,List.getElem?_eq_getElem (by omega)⟩
   have h1:=(hat i hi).trans hy
   obtain⟨cs',h2,h3⟩:=aBp.1 h1
   obtain⟨d,hd⟩:=h H enc w n' cs' y (by omega) h3
   obtain⟨-,-,h5⟩:=World.cells?_some h2
   exact⟨d,cs',hd,fun r hr=>h5 r hr⟩)
  have hcell:∀ i d,es[i]?=some d->∀ r,r < sz->∃ c u,(f d)[r]?=some c/\w.cell? (a.add (i * sz + r))=some u/\Dw w (lt w.heap.size) c u:=by
   intro i d hd r hr
   obtain⟨cs',h4,h5⟩:=hP i d hd
   have hl:cs'.length=sz:=by rw [<- h4.1,hf]
   obtain⟨c,hc'⟩:∃ c,(f d)[r]?=some c:=⟨_,List.getElem?_eq_getElem (by rw [hf]; omega)⟩
   obtain⟨u,hu⟩:∃ u,cs'[r]?=some u:=⟨_,List.getElem?_eq_getElem (by omega)⟩
   have h6:=h5 r hr
   rw [Pk,hu] at h6
   exact⟨c,u,hc',h6,h4.2 r c u hc' hu⟩
  refine⟨es,Ev.one (Dw.mk_slice (cs:=Al f es) (by rw [Ek hf,hes]) hlc hcm fun hn=>⟨a,rfl,?_,fun j c hj=>?_⟩)⟩
  ·obtain⟨d,hd⟩:∃ d,es[0]?=some d:=⟨_,List.getElem?_eq_getElem (by omega)⟩
   obtain⟨c,u,-,h5,-⟩:=hcell 0 d hd 0 hz
   have h1:(a.add (0 * sz + 0)).block < w.heap.size:=by
    rcases aCf (a.add (0 * sz + 0)).block w.heap.size with h1 | h1
    ·exact h1
    ·rw [World.cell?,Array.getElem?_eq_none h1] at h5
     simp at h5
   rwa [Li] at h1
  ·have hjl:=(List.getElem?_eq_some_iff.1 hj).1
   rw [Ek hf] at hjl
   have hq:j / sz < es.length:=by rw [aDq hz]; exact hjl
   have hm:=Nat.mod_lt j hz
   have he:j / sz * sz + j % sz=j:=by rw [aC6]; exact Nat.div_add_mod j sz
   obtain⟨d,hd⟩:∃ d,es[j / sz]?=some d:=⟨_,List.getElem?_eq_getElem hq⟩
   obtain⟨c',u,h1,h2,h3⟩:=hcell (j / sz) d hd (j % sz) hm
   have h4:=mU hf hd hm
   rw [he,hj,h1] at h4
   injection h4 with h4
   subst h4
   rw [he] at h2
   exact⟨u,h2,h3⟩
theorem Ev.cut {w:World} {S:Nat->Prop} {c1 c2:List C} {cs:List Value} {o q o':Nat} (h1:Ev w S c1 ((cs.drop o).take q)) (h2:Ev w S c2 (cs.drop o')) (ho:o'=o + q):Ev w S (c1 ++ c2) (cs.drop o):=by
 subst ho
 have e:cs.drop o=(cs.drop o).take q ++ cs.drop (o + q):=by rw [<- aC2,aB0]
 rw [e]
 exact h1.append h2
theorem Sp.field {H:Type} {enc:TypeId×Value->H} {w:World} {n o q:Nat} {cs:List Value} {fs:Array Field} {xs:List (DataW H×List MemPlace)} (hx:xs.length=fs.size)
  (hfield:∀ (i:Nat) (f:Field),fs[i]?=some f->DataW.trod enc P w 0 (fun _=>true) true n f.type ((cs.drop f.offset).take (P.cellsOf f.type))=xs[i]?) (i:Nat) {g:Field} (hi:fs[i]?=some g) (ht:g.type=t) (ho:g.offset=o) (hq:P.cellsOf t=q)
  (h:Sp P k t f) (hk:n<=k):∃ a:α,Ev w (lt w.heap.size) (f a) ((cs.drop o).take q):=by
 have h1:=hfield i g hi
 have hl:i < xs.length:=by
  rw [hx]
  exact (Array.getElem?_eq_some_iff.1 hi).1
 rw [List.getElem?_eq_getElem hl,ht,ho,hq] at h1
 exact h H enc w n _ _ hk h1
def sR:C->DV
 | .int k n=>.val (.int k n)
 | .bool b=>.val (.bool b)
 | .str s=>.val (.string s)
 | .raw u=>.val u
 | .sl sz cs=>.sl sz cs
 | .mp l=>.mp l
def mT:C->Bool
 | .raw _=>false
 | .mp _=>false
 | _=>true
theorem Dw.dv {w:World} {S:Nat->Prop} {ρ:Nat->Value} {c:C} {v:Value} (hc:mT c=true) (h:Dw w S c v):B5 ρ S w (sR c) v:=by
 cases c with
 | int k n=>unfold Dw at h; unfold sR B5; exact⟨h.1,by simp [Ff,h.2.1,h.2.2]⟩
 | bool b=>unfold Dw at h; unfold sR B5; exact⟨h,rfl⟩
 | str s=>unfold Dw at h; unfold sR B5; exact⟨h.1,by simp [Ff,h.2]⟩
 | raw u=>cases hc
 | sl sz cs=>unfold sR B5; exact h
 | mp l=>cases hc
theorem Ev.dv {w:World} {S:Nat->Prop} {ρ:Nat->Value}:∀ {cs:List C} {us:List Value},(∀ c∈cs,mT c=true)->Ev w S cs us->Bj ρ S w (cs.map sR) us
 | [],[],_,_=>by unfold List.map Bj; rfl
 | [],u :: us,_,h=>by have:=h.1; simp at this
 | c :: cs,[],_,h=>by have:=h.1; simp at this
 | c :: cs,u :: us,hc,h=>by
  unfold List.map Bj
  exact⟨u,us,rfl,(h.2 0 c u rfl rfl).dv (hc c (by simp)),Ev.dv (fun c' hm=>hc c' (by simp [hm])) ⟨by simpa using h.1,fun j c' u' x y=>h.2 (j + 1) c' u' (by simpa using x) (by simpa using y)⟩⟩
theorem hG {H:Type} {enc:TypeId×Value->H} {w:World} {v:Value} {d:DataW H} {p:List MemPlace} {c:α->C} (ho:yJ P t (fun a=>[c a])) (hc:∀ a,mT (c a)=true) (hv:v.cells.toList=[v]) (h:DataW.Trod enc P w 0 (fun _=>true) true t v d p):∃ a:α,∀ ρ,B5 ρ (lt w.heap.size) w (sR (c a)) v:=by
 obtain⟨fuel,hf⟩:=h
 rw [hv] at hf
 obtain⟨a,ha⟩:=ho fuel H enc w fuel _ _ (aBk _) hf
 exact⟨a,fun ρ=>ha.one_.dv (hc a)⟩
theorem iP {ρ:Nat->Value} {I:Nat->Prop} {w:World}:Bj ρ I w [] []:=by unfold Bj; rfl
theorem Xc {ρ:Nat->Value} {I:Nat->Prop} {w:World} {d:DV} {ds:List DV} {v:Value} {vs:List Value} (h:B5 ρ I w d v) (h':Bj ρ I w ds vs):Bj ρ I w (d :: ds) (v :: vs):=by unfold Bj; exact⟨v,vs,rfl,h,h'⟩
end
end
section
open Go.RowKit
end
end Go.Proofs.YtlfeokjhphpjeaaGreat
