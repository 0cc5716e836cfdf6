import Derived.Test.YtobamahlipiakaaGreatEE
import Derived.ChangeArms
import Derived.ChangeSlices
import Derived.WideShapes
import Derived.OpenShut
import Derived.DataReads
set_option linter.unusedVariables false
set_option linter.unusedSimpArgs false
namespace Go.Proofs.YtobamahlipiakaaGreat
open Go.RowKit Go.ChangeShapes Go.WideShapes
section
variable {P:Program}
def Rl (P:Program) (k:Nat) (t:TypeId) {α:Type} (f:α->List C):Prop:=
 ∀ (H:Type) (enc:TypeId×Value->H) (w:World) (fuel:Nat) (cs:List Value) (x:DataW H×List MemPlace),fuel<=k->DataW.trod enc P w 0 (fun _=>true) true fuel t cs=some x->∃ a:α,G0 w (lt w.heap.size) (f a) cs
def qJ (P:Program) (t:TypeId) {α:Type} (f:α->List C):Prop:=∀ k,Rl P k t f
variable {α:Type} {f:α->List C} {t e:TypeId} {k sz:Nat}
theorem Rl.le {j:Nat} (h:Rl P k t f) (hj:j<=k):Rl P j t f:=fun H enc w fuel cs x hf=>h H enc w fuel cs x (by omega)
theorem Rl.zero:Rl P 0 t f:=fun H enc w fuel cs x hf h=>by
 obtain rfl:fuel=0:=by omega
 simp [DataW.trod] at h
theorem G0.one {w:World} {S:Nat->Prop} {c:C} {u:Value} (h:F1 w S c u):G0 w S [c] [u]:=⟨rfl,fun j c' u' h1 h2=>by
 cases j with
 | zero=>simp at h1 h2; subst h1 h2; exact h
 | succ j=>simp at h1⟩
theorem G0.one_ {w:World} {S:Nat->Prop} {c:C} {u:Value} (h:G0 w S [c] [u]):F1 w S c u:=h.2 0 c u rfl rfl
theorem gX {k:IntKind} {n:Int} (h:(Lit.int k n).wf=true):k.min<=n/\n<=k.max:=by
 simpa [Lit.wf] using h
theorem Rl.int {k:IntKind} (ht:P.underlying t=some (.int k)) {n:Nat}:Rl P n t (eK k):=fun H enc w fuel cs x hf h=>by
 obtain⟨m,rfl,-,hw⟩:=DataW.trod_int ht h
 exact⟨m,G0.one (by unfold F1; exact⟨rfl,gX hw⟩)⟩
theorem Rl.i64 (ht:P.underlying t=some (.int .i64)) {n:Nat}:Rl P n t eI:=Rl.int ht
theorem Rl.u8 (ht:P.underlying t=some (.int .u8)) {n:Nat}:Rl P n t e8:=fun H enc w fuel cs x hf h=>by
 obtain⟨m,rfl,-,hw⟩:=DataW.trod_int ht h
 have hr:=gX hw
 have h1:IntKind.u8.min=0:=rfl
 have h2:IntKind.u8.max=255:=rfl
 rw [h1,h2] at hr
 have e2:((UInt8.ofNat m.toNat).toNat:Int)=m:=by rw [aXk,bAl (by omega)]; omega
 exact⟨UInt8.ofNat m.toNat,G0.one (by unfold F1; rw [e2]; exact⟨rfl,gX hw⟩)⟩
theorem Rl.bool (ht:P.underlying t=some .bool) {n:Nat}:Rl P n t eB:=fun H enc w fuel cs x hf h=>by
 obtain⟨b,rfl,-⟩:=DataW.trod_bool ht h
 exact⟨b,G0.one (by unfold F1; rfl)⟩
theorem Rl.str (ht:P.underlying t=some .string) {n:Nat}:Rl P n t eS:=fun H enc w fuel cs x hf h=>by
 obtain⟨s,rfl,-,hs⟩:=DataW.trod_string ht h
 exact⟨s,G0.one (by unfold F1; exact⟨rfl,hs⟩)⟩
theorem aB2 {α:Type} (n:Nat) (Q:Nat->α->Prop) (h:∀ i,i < n->∃ d,Q i d):∃ es:List α,es.length=n/\∀ i d,es[i]?=some d->Q i d:=by
 induction n with
 | zero=>exact⟨[],rfl,fun i d h=>by simp at h⟩
 | succ n ih=>
  obtain⟨es,h1,h2⟩:=ih fun i hi=>h i (by omega)
  obtain⟨d,hd⟩:=h n (by omega)
  refine⟨es ++ [d],by simp [h1],fun i d' hi=>?_⟩
  rw [bBj] at hi
  split at hi
  ·exact h2 i d' hi
  ·rename_i hn
   have:i - es.length=0:=by
    rcases aLq (i - es.length) with h0 | h0
    ·exact h0
    ·rw [aQg (by simp; omega)] at hi; cases hi
   rw [this] at hi
   simp at hi
   subst hi
   have e:i=n:=by omega
   rw [e]; exact hd
theorem aCh {sz:Nat} (hf:∀ x,(f x).length=sz) {l:List α} {j:Nat} {x:α} (hx:l[j]?=some x) {r:Nat} (hr:r < sz):(Ai f l)[j * sz + r]?=(f x)[r]?:=by
 have hj:=(aDx.1 hx).1
 rw [Tz hx,aOr (by rw [Qj hf (by omega)]; omega),Qj hf (by omega),aNt (by rw [hf]; omega)]
 congr 1; omega
theorem Rl.slice (ht:P.underlying t=some (.slice e)) (hc:P.cellsOf e=sz) (hz:0 < sz) (hf:∀ x,(f x).length=sz) (h:Rl P k e f):Rl P (k + 1) t (eL sz f):=fun H enc w fuel cs x hk hx=>by
 rcases DataW.trod_slice ht hx with ⟨rfl,-⟩ | ⟨a,len,cap,elems,rest,n',rfl,rfl,-,-,hlc,hcm,hel,hat,-⟩
 ·exact⟨[],G0.one (F1.mk_slice (cs:=Ai f []) (by simp [Ai]) (aJf _) (aOm _) (fun h=>by omega))⟩
 ·rw [hc] at hat
  obtain⟨es,hes,hP⟩:=aB2 len (fun i d=>∃ cs',G0 w (lt w.heap.size) (f d) cs'/\∀ r,r < sz->w.cell? ((a.add (i * sz)).add r)=cs'[r]?) (fun i hi=>by
   obtain⟨y,hy⟩:∃ y,elems[i]?=some y:=⟨_,aCv (by omega)⟩
   have h1:=(hat i hi).trans hy
   obtain⟨cs',h2,h3⟩:=Option.bind_eq_some_iff.1 h1
   obtain⟨d,hd⟩:=h H enc w n' cs' y (by omega) h3
   obtain⟨-,-,h5⟩:=World.cells?_some h2
   exact⟨d,cs',hd,fun r hr=>h5 r hr⟩)
  have hcell:∀ i d,es[i]?=some d->∀ r,r < sz->∃ c u,(f d)[r]?=some c/\w.cell? (a.add (i * sz + r))=some u/\F1 w (lt w.heap.size) c u:=by
   intro i d hd r hr
   obtain⟨cs',h4,h5⟩:=hP i d hd
   have hl:cs'.length=sz:=by rw [<- h4.1,hf]
   obtain⟨c,hc'⟩:∃ c,(f d)[r]?=some c:=⟨_,aCv (by rw [hf]; omega)⟩
   obtain⟨u,hu⟩:∃ u,cs'[r]?=some u:=⟨_,aCv (by omega)⟩
   have h6:=h5 r hr
   rw [Zj,hu] at h6
   exact⟨c,u,hc',h6,h4.2 r c u hc' hu⟩
  refine⟨es,G0.one (F1.mk_slice (cs:=Ai f es) (by rw [I6 hf,hes]) hlc hcm fun hn=>⟨a,rfl,?_,fun j c hj=>?_⟩)⟩
  ·obtain⟨d,hd⟩:∃ d,es[0]?=some d:=⟨_,aCv (by omega)⟩
   obtain⟨c,u,-,h5,-⟩:=hcell 0 d hd 0 hz
   have h1:(a.add (0 * sz + 0)).block < w.heap.size:=by
    rcases aZf (a.add (0 * sz + 0)).block w.heap.size with h1 | h1
    ·exact h1
    ·rw [World.cell?,Array.getElem?_eq_none h1] at h5
     simp at h5
   rwa [S0] at h1
  ·have hjl:=(aDx.1 hj).1
   rw [I6 hf] at hjl
   have hq:j / sz < es.length:=by rw [Nat.div_lt_iff_lt_mul hz]; exact hjl
   have hm:=Nat.mod_lt j hz
   have he:j / sz * sz + j % sz=j:=by rw [bBp]; exact Nat.div_add_mod j sz
   obtain⟨d,hd⟩:∃ d,es[j / sz]?=some d:=⟨_,aCv hq⟩
   obtain⟨c',u,h1,h2,h3⟩:=hcell (j / sz) d hd (j % sz) hm
   have h4:=aCh hf hd hm
   rw [he,hj,h1] at h4
   injection h4 with h4
   subst h4
   rw [he] at h2
   exact⟨u,h2,h3⟩
theorem G0.cut {w:World} {S:Nat->Prop} {c1 c2:List C} {cs:List Value} {o q o':Nat} (h1:G0 w S c1 ((cs.drop o).take q)) (h2:G0 w S c2 (cs.drop o')) (ho:o'=o + q):G0 w S (c1 ++ c2) (cs.drop o):=by
 subst ho
 have e:cs.drop o=(cs.drop o).take q ++ cs.drop (o + q):=by rw [<- aZg,aW8]
 rw [e]
 exact h1.append h2
theorem G0.end_ {w:World} {S:Nat->Prop} {cs:List Value} {o:Nat} (h:cs.length<=o):G0 w S [] (cs.drop o):=by
 rw [aZa.2 h]
 exact⟨rfl,fun j c u h1=>by simp at h1⟩
theorem Rl.field {H:Type} {enc:TypeId×Value->H} {w:World} {n o q:Nat} {cs:List Value} {fs:Array Field} {xs:List (DataW H×List MemPlace)} (hx:xs.length=fs.size)
  (hfield:∀ (i:Nat) (f:Field),fs[i]?=some f->DataW.trod enc P w 0 (fun _=>true) true n f.type ((cs.drop f.offset).take (P.cellsOf f.type))=xs[i]?) (i:Nat) {g:Field} (hi:fs[i]?=some g) (ht:g.type=t) (ho:g.offset=o) (hq:P.cellsOf t=q)
  (h:Rl P k t f) (hk:n<=k):∃ a:α,G0 w (lt w.heap.size) (f a) ((cs.drop o).take q):=by
 have h1:=hfield i g hi
 have hl:i < xs.length:=by
  rw [hx]
  exact (aJi.1 hi).1
 rw [aCv hl,ht,ho,hq] at h1
 exact h H enc w n _ _ hk h1
def dvC:C->DV
 | .int k n=>.val (.int k n)
 | .bool b=>.val (.bool b)
 | .str s=>.val (.string s)
 | .raw u=>.val u
 | .sl sz cs=>.sl sz cs
 | .mp l=>.mp l
def lT:C->Bool
 | .raw _=>false
 | .mp _=>false
 | _=>true
theorem F1.dv {w:World} {S:Nat->Prop} {ρ:Nat->Value} {c:C} {v:Value} (hc:lT c=true) (h:F1 w S c v):C3 ρ S w (dvC c) v:=by
 cases c with
 | int k n=>unfold F1 at h; unfold dvC C3; exact⟨h.1,by simp [Gd,h.2.1,h.2.2]⟩
 | bool b=>unfold F1 at h; unfold dvC C3; exact⟨h,rfl⟩
 | str s=>unfold F1 at h; unfold dvC C3; exact⟨h.1,by simp [Gd,h.2]⟩
 | raw u=>cases hc
 | sl sz cs=>unfold dvC C3; exact h
 | mp l=>cases hc
theorem F1.one' {w:World} {S:Nat->Prop} {c:C} {v:Value} (hc:lT c=true) (h:F1 w S c v):v.oneCell'=true:=by
 cases c with
 | int k n=>unfold F1 at h; rw [h.1]; rfl
 | bool b=>unfold F1 at h; rw [h]; rfl
 | str s=>unfold F1 at h; rw [h.1]; rfl
 | raw u=>cases hc
 | sl sz cs=>unfold F1 at h; obtain⟨A,n,cap,rfl,-⟩:=h; rfl
 | mp l=>cases hc
theorem G0.dv {w:World} {S:Nat->Prop} {ρ:Nat->Value}:∀ {cs:List C} {us:List Value},(∀ c∈cs,lT c=true)->G0 w S cs us->B5 ρ S w (cs.map dvC) us
 | [],[],_,_=>by unfold List.map B5; rfl
 | [],u :: us,_,h=>by have:=h.1; simp at this
 | c :: cs,[],_,h=>by have:=h.1; simp at this
 | c :: cs,u :: us,hc,h=>by
  unfold List.map B5
  exact⟨u,us,rfl,(h.2 0 c u rfl rfl).dv (hc c (by simp)),G0.dv (fun c' hm=>hc c' (by simp [hm])) ⟨by simpa using h.1,fun j c' u' x y=>h.2 (j + 1) c' u' (by simpa using x) (by simpa using y)⟩⟩
theorem G0.ones {w:World} {S:Nat->Prop}:∀ {cs:List C} {us:List Value},(∀ c∈cs,lT c=true)->G0 w S cs us->∀ u∈us,u.oneCell'=true
 | [],[],_,_=>by simp
 | [],u :: us,_,h=>by have:=h.1; simp at this
 | c :: cs,[],_,h=>by simp
 | c :: cs,u :: us,hc,h=>by
  intro x hx
  rcases aF2.1 hx with rfl | hx
  ·exact (h.2 0 c x rfl rfl).one' (hc c (by simp))
  ·exact G0.ones (cs:=cs) (us:=us) (fun c' hm=>hc c' (by simp [hm])) ⟨by simpa using h.1,fun j c' u' x y=>h.2 (j + 1) c' u' (by simpa using x) (by simpa using y)⟩ x hx
theorem Pg {H:Type} {enc:TypeId×Value->H} {w:World} {v:Value} {d:DataW H} {p:List MemPlace} {c:α->C} (ho:qJ P t (fun a=>[c a])) (hc:∀ a,lT (c a)=true) (hv:v.cells.toList=[v]) (h:DataW.Trod enc P w 0 (fun _=>true) true t v d p):∃ a:α,∀ ρ,C3 ρ (lt w.heap.size) w (dvC (c a)) v:=by
 obtain⟨fuel,hf⟩:=h
 rw [hv] at hf
 obtain⟨a,ha⟩:=ho fuel H enc w fuel _ _ (aJf _) hf
 exact⟨a,fun ρ=>ha.one_.dv (hc a)⟩
theorem aGp {H:Type} {enc:TypeId×Value->H} {w:World} {cs:Array Value} {d:DataW H} {p:List MemPlace} (ho:qJ P t f) (hc:∀ a,∀ c∈f a,lT c=true) (h:DataW.Trod enc P w 0 (fun _=>true) true t (.agg cs) d p):∃ a:α,∀ ρ,C3 ρ (lt w.heap.size) w (.agg ((f a).map dvC)) (.agg cs):=by
 obtain⟨fuel,hf⟩:=h
 obtain⟨a,ha⟩:=ho fuel H enc w fuel _ _ (aJf _) hf
 refine⟨a,fun ρ=>?_⟩
 unfold C3
 exact⟨cs.toList,by simp,ha.ones (hc a),ha.dv (hc a)⟩
theorem Tf {ρ:Nat->Value} {I:Nat->Prop} {w:World}:B5 ρ I w [] []:=by unfold B5; rfl
theorem I5 {ρ:Nat->Value} {I:Nat->Prop} {w:World} {d:DV} {ds:List DV} {v:Value} {vs:List Value} (h:C3 ρ I w d v) (h':B5 ρ I w ds vs):B5 ρ I w (d :: ds) (v :: vs):=by unfold B5; exact⟨v,vs,rfl,h,h'⟩
end
end Go.Proofs.YtobamahlipiakaaGreat
