import Derived.Test.YtchpcpaacenodaaGreatEE
import Derived.ChangeArms
import Derived.ChangeSlices
import Derived.WideShapes
import Derived.OpenShut
import Derived.DataReads
set_option linter.unusedVariables false
set_option linter.unusedSimpArgs false
namespace Go.Proofs.YtchpcpaacenodaaGreat
open Go.RowKit Go.ChangeShapes Go.WideShapes
section
variable {P:Program}
def Yi (P:Program) (k:Nat) (t:TypeId) {α:Type} (f:α->List C):Prop:=
 ∀ (H:Type) (enc:TypeId×Value->H) (w:World) (fuel:Nat) (cs:List Value) (x:DataW H×List MemPlace),fuel<=k->DataW.trod enc P w 0 (fun _=>true) true fuel t cs=some x->∃ a:α,G2 w (lt w.heap.size) (f a) cs
def Opn (P:Program) (t:TypeId) {α:Type} (f:α->List C):Prop:=∀ k,Yi P k t f
variable {α:Type} {f:α->List C} {t e:TypeId} {k sz:Nat}
theorem Yi.le {j:Nat} (h:Yi P k t f) (hj:j<=k):Yi P j t f:=fun H enc w fuel cs x hf=>h H enc w fuel cs x (by omega)
theorem Yi.zero:Yi P 0 t f:=fun H enc w fuel cs x hf h=>by
 obtain rfl:fuel=0:=by omega
 simp [DataW.trod] at h
theorem G2.one {w:World} {S:Nat->Prop} {c:C} {u:Value} (h:Fc w S c u):G2 w S [c] [u]:=⟨rfl,fun j c' u' h1 h2=>by
 cases j with
 | zero=>simp at h1 h2; subst h1 h2; exact h
 | succ j=>simp at h1⟩
theorem G2.one_ {w:World} {S:Nat->Prop} {c:C} {u:Value} (h:G2 w S [c] [u]):Fc w S c u:=h.2 0 c u rfl rfl
theorem Z5 {k:IntKind} {n:Int} (h:(Lit.int k n).wf=true):k.min<=n/\n<=k.max:=by
 simpa [Lit.wf] using h
theorem Yi.int {k:IntKind} (ht:P.underlying t=some (.int k)) {n:Nat}:Yi P n t (eK k):=fun H enc w fuel cs x hf h=>by
 obtain⟨m,rfl,-,hw⟩:=DataW.trod_int ht h
 exact⟨m,G2.one (by unfold Fc; exact⟨rfl,Z5 hw⟩)⟩
theorem Yi.i64 (ht:P.underlying t=some (.int .i64)) {n:Nat}:Yi P n t eI:=Yi.int ht
theorem Yi.u8 (ht:P.underlying t=some (.int .u8)) {n:Nat}:Yi P n t e8:=fun H enc w fuel cs x hf h=>by
 obtain⟨m,rfl,-,hw⟩:=DataW.trod_int ht h
 have hr:=Z5 hw
 have h1:IntKind.u8.min=0:=rfl
 have h2:IntKind.u8.max=255:=rfl
 rw [h1,h2] at hr
 have e2:((UInt8.ofNat m.toNat).toNat:Int)=m:=by rw [aJ2,aJe (by omega)]; omega
 exact⟨UInt8.ofNat m.toNat,G2.one (by unfold Fc; rw [e2]; exact⟨rfl,Z5 hw⟩)⟩
theorem Yi.bool (ht:P.underlying t=some .bool) {n:Nat}:Yi P n t eB:=fun H enc w fuel cs x hf h=>by
 obtain⟨b,rfl,-⟩:=DataW.trod_bool ht h
 exact⟨b,G2.one (by unfold Fc; rfl)⟩
theorem Yi.str (ht:P.underlying t=some .string) {n:Nat}:Yi P n t eS:=fun H enc w fuel cs x hf h=>by
 obtain⟨s,rfl,-,hs⟩:=DataW.trod_string ht h
 exact⟨s,G2.one (by unfold Fc; exact⟨rfl,hs⟩)⟩
theorem qU {α:Type} (n:Nat) (Q:Nat->α->Prop) (h:∀ i,i < n->∃ d,Q i d):∃ es:List α,es.length=n/\∀ i d,es[i]?=some d->Q i d:=by
 induction n with
 | zero=>exact⟨[],rfl,fun i d h=>by simp at h⟩
 | succ n ih=>
  obtain⟨es,h1,h2⟩:=ih fun i hi=>h i (by omega)
  obtain⟨d,hd⟩:=h n (by omega)
  refine⟨es ++ [d],by simp [h1],fun i d' hi=>?_⟩
  rw [aKa] at hi
  split at hi
  ·exact h2 i d' hi
  ·rename_i hn
   have:i - es.length=0:=by
    rcases aHq (i - es.length) with h0 | h0
    ·exact h0
    ·rw [aJi (by simp; omega)] at hi; cases hi
   rw [this] at hi
   simp at hi
   subst hi
   have e:i=n:=by omega
   rw [e]; exact hd
theorem rM {sz:Nat} (hf:∀ x,(f x).length=sz) {l:List α} {j:Nat} {x:α} (hx:l[j]?=some x) {r:Nat} (hr:r < sz):(Aq f l)[j * sz + r]?=(f x)[r]?:=by
 have hj:=(aD1.1 hx).1
 rw [Sc hx,aIf (by rw [N6 hf (by omega)]; omega),N6 hf (by omega),aH6 (by rw [hf]; omega)]
 congr 1; omega
theorem Yi.slice (ht:P.underlying t=some (.slice e)) (hc:P.cellsOf e=sz) (hz:0 < sz) (hf:∀ x,(f x).length=sz) (h:Yi P k e f):Yi P (k + 1) t (eL sz f):=fun H enc w fuel cs x hk hx=>by
 rcases DataW.trod_slice ht hx with ⟨rfl,-⟩ | ⟨a,len,cap,elems,rest,n',rfl,rfl,-,-,hlc,hcm,hel,hat,-⟩
 ·exact⟨[],G2.one (Fc.mk_slice (cs:=Aq f []) (by simp [Aq]) (aGz _) (aHc _) (fun h=>by omega))⟩
 ·rw [hc] at hat
  obtain⟨es,hes,hP⟩:=qU len (fun i d=>∃ cs',G2 w (lt w.heap.size) (f d) cs'/\∀ r,r < sz->w.cell? ((a.add (i * sz)).add r)=cs'[r]?) (fun i hi=>by
   obtain⟨y,hy⟩:∃ y,elems[i]?=some y:=⟨_,aBo (by omega)⟩
   have h1:=(hat i hi).trans hy
   obtain⟨cs',h2,h3⟩:=Option.bind_eq_some_iff.1 h1
   obtain⟨d,hd⟩:=h H enc w n' cs' y (by omega) h3
   obtain⟨-,-,h5⟩:=World.cells?_some h2
   exact⟨d,cs',hd,fun r hr=>h5 r hr⟩)
  have hcell:∀ i d,es[i]?=some d->∀ r,r < sz->∃ c u,(f d)[r]?=some c/\w.cell? (a.add (i * sz + r))=some u/\Fc w (lt w.heap.size) c u:=by
   intro i d hd r hr
   obtain⟨cs',h4,h5⟩:=hP i d hd
   have hl:cs'.length=sz:=by rw [<- h4.1,hf]
   obtain⟨c,hc'⟩:∃ c,(f d)[r]?=some c:=⟨_,aBo (by rw [hf]; omega)⟩
   obtain⟨u,hu⟩:∃ u,cs'[r]?=some u:=⟨_,aBo (by omega)⟩
   have h6:=h5 r hr
   rw [W4,hu] at h6
   exact⟨c,u,hc',h6,h4.2 r c u hc' hu⟩
  refine⟨es,G2.one (Fc.mk_slice (cs:=Aq f es) (by rw [Hd hf,hes]) hlc hcm fun hn=>⟨a,rfl,?_,fun j c hj=>?_⟩)⟩
  ·obtain⟨d,hd⟩:∃ d,es[0]?=some d:=⟨_,aBo (by omega)⟩
   obtain⟨c,u,-,h5,-⟩:=hcell 0 d hd 0 hz
   have h1:(a.add (0 * sz + 0)).block < w.heap.size:=by
    rcases aI0 (a.add (0 * sz + 0)).block w.heap.size with h1 | h1
    ·exact h1
    ·rw [World.cell?,Array.getElem?_eq_none h1] at h5
     simp at h5
   rwa [Qn] at h1
  ·have hjl:=(aD1.1 hj).1
   rw [Hd hf] at hjl
   have hq:j / sz < es.length:=by rw [Nat.div_lt_iff_lt_mul hz]; exact hjl
   have hm:=Nat.mod_lt j hz
   have he:j / sz * sz + j % sz=j:=by rw [Nat.mul_comm]; exact Nat.div_add_mod j sz
   obtain⟨d,hd⟩:∃ d,es[j / sz]?=some d:=⟨_,aBo hq⟩
   obtain⟨c',u,h1,h2,h3⟩:=hcell (j / sz) d hd (j % sz) hm
   have h4:=rM hf hd hm
   rw [he,hj,h1] at h4
   injection h4 with h4
   subst h4
   rw [he] at h2
   exact⟨u,h2,h3⟩
theorem G2.cut {w:World} {S:Nat->Prop} {c1 c2:List C} {cs:List Value} {o q o':Nat} (h1:G2 w S c1 ((cs.drop o).take q)) (h2:G2 w S c2 (cs.drop o')) (ho:o'=o + q):G2 w S (c1 ++ c2) (cs.drop o):=by
 subst ho
 have e:cs.drop o=(cs.drop o).take q ++ cs.drop (o + q):=by rw [<- aJ6,aIo]
 rw [e]
 exact h1.append h2
theorem Yi.field {H:Type} {enc:TypeId×Value->H} {w:World} {n o q:Nat} {cs:List Value} {fs:Array Field} {xs:List (DataW H×List MemPlace)} (hx:xs.length=fs.size)
  (hfield:∀ (i:Nat) (f:Field),fs[i]?=some f->DataW.trod enc P w 0 (fun _=>true) true n f.type ((cs.drop f.offset).take (P.cellsOf f.type))=xs[i]?) (i:Nat) {g:Field} (hi:fs[i]?=some g) (ht:g.type=t) (ho:g.offset=o) (hq:P.cellsOf t=q)
  (h:Yi P k t f) (hk:n<=k):∃ a:α,G2 w (lt w.heap.size) (f a) ((cs.drop o).take q):=by
 have h1:=hfield i g hi
 have hl:i < xs.length:=by
  rw [hx]
  exact (aGg.1 hi).1
 rw [aBo hl,ht,ho,hq] at h1
 exact h H enc w n _ _ hk h1
def dvC:C->DV
 | .int k n=>.val (.int k n)
 | .bool b=>.val (.bool b)
 | .str s=>.val (.string s)
 | .raw u=>.val u
 | .sl sz cs=>.sl sz cs
 | .mp l=>.mp l
def uT:C->Bool
 | .raw _=>false
 | .mp _=>false
 | _=>true
theorem Fc.dv {w:World} {S:Nat->Prop} {ρ:Nat->Value} {c:C} {v:Value} (hc:uT c=true) (h:Fc w S c v):C7 ρ S w (dvC c) v:=by
 cases c with
 | int k n=>unfold Fc at h; unfold dvC C7; exact⟨h.1,by simp [Fa,h.2.1,h.2.2]⟩
 | bool b=>unfold Fc at h; unfold dvC C7; exact⟨h,rfl⟩
 | str s=>unfold Fc at h; unfold dvC C7; exact⟨h.1,by simp [Fa,h.2]⟩
 | raw u=>cases hc
 | sl sz cs=>unfold dvC C7; exact h
 | mp l=>cases hc
theorem G2.dv {w:World} {S:Nat->Prop} {ρ:Nat->Value}:∀ {cs:List C} {us:List Value},(∀ c∈cs,uT c=true)->G2 w S cs us->Ci ρ S w (cs.map dvC) us
 | [],[],_,_=>by unfold List.map Ci; rfl
 | [],u :: us,_,h=>by have:=h.1; simp at this
 | c :: cs,[],_,h=>by have:=h.1; simp at this
 | c :: cs,u :: us,hc,h=>by
  unfold List.map Ci
  exact⟨u,us,rfl,(h.2 0 c u rfl rfl).dv (hc c (by simp)),G2.dv (fun c' hm=>hc c' (by simp [hm])) ⟨by simpa using h.1,fun j c' u' x y=>h.2 (j + 1) c' u' (by simpa using x) (by simpa using y)⟩⟩
theorem mW {H:Type} {enc:TypeId×Value->H} {w:World} {v:Value} {d:DataW H} {p:List MemPlace} {c:α->C} (ho:Opn P t (fun a=>[c a])) (hc:∀ a,uT (c a)=true) (hv:v.cells.toList=[v]) (h:DataW.Trod enc P w 0 (fun _=>true) true t v d p):∃ a:α,∀ ρ,C7 ρ (lt w.heap.size) w (dvC (c a)) v:=by
 obtain⟨fuel,hf⟩:=h
 rw [hv] at hf
 obtain⟨a,ha⟩:=ho fuel H enc w fuel _ _ (aGz _) hf
 exact⟨a,fun ρ=>ha.one_.dv (hc a)⟩
theorem pL {ρ:Nat->Value} {I:Nat->Prop} {w:World}:Ci ρ I w [] []:=by unfold Ci; rfl
theorem Zu {ρ:Nat->Value} {I:Nat->Prop} {w:World} {d:DV} {ds:List DV} {v:Value} {vs:List Value} (h:C7 ρ I w d v) (h':Ci ρ I w ds vs):Ci ρ I w (d :: ds) (v :: vs):=by unfold Ci; exact⟨v,vs,rfl,h,h'⟩
end
end Go.Proofs.YtchpcpaacenodaaGreat
