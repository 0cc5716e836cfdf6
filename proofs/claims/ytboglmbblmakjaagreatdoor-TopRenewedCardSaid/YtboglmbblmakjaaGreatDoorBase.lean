import Derived.Test.YtboglmbblmakjaaGreatDoorZz
import Derived.Below
import Derived.Laws.OwnMore
import Derived.Deep.AppendLies
import Derived.Deep.Draws
import Derived.Maps.AppendAt
import Derived.OwnWalk
set_option linter.unusedSimpArgs false
set_option linter.unusedVariables false
namespace Go.Proofs.YtboglmbblmakjaaGreatDoor
open Go.RowKit
inductive C where
 | int (k:IntKind) (n:Int)
 | bool (b:Bool)
 | str (s:ByteArray)
 | raw (v:Value)
 | sl (sz:Nat) (cs:List C)
 | mp (l:List (Value×Value))
 | ifc (t:TypeId) (c:C)
 | ref (f:FuncId) (cs:List C)
def G6:Value->Bool
 | .int k n=>decide (k.min<=n) && decide (n<=k.max)
 | .string s=>Nat.ble s.size maxLen
 | _=>true
theorem M7 {k:IntKind} {n:Int}:G6 (.int k n)=true↔k.min<=n/\n<=k.max:=by simp [G6]
theorem Rq {s:ByteArray}:G6 (.string s)=true↔s.size<=maxLen:=by simp [G6]
def Za (w:World) (g:Nat) (l:List (Value×Value)):Prop:=
 ∃ es,w.heap[g]?=some (.map es es.size)/\es.toList.map (fun e=>(e.key,e.val))=l/\(∀ (i:Nat) e,es[i]?=some e->e.born=i)/\∀ p∈l,G6 p.1=true/\G6 p.2=true
theorem Za.keep {w w':World} {g:Nat} {l:List (Value×Value)} (h:Za w g l) (hk:w'.heap[g]?=w.heap[g]?):Za w' g l:=by
 obtain⟨es,h1,h2⟩:=h
 exact⟨es,hk.trans h1,h2⟩
mutual
def Ga (w:World) (S:Nat->Prop):C->Value->Prop
 | .int k n,v=>v=.int k n/\k.min<=n/\n<=k.max
 | .bool b,v=>v=.bool b
 | .str s,v=>v=.string s/\s.size<=maxLen
 | .raw u,v=>v=u/\u.oneCell'=true/\G6 u=true
 | .sl sz cs,v=>∃ A n cap,v=.slice A n cap/\cs.length=n * sz/\n<=cap/\cap<=maxLen/\(0 < n->∃ ad,A=some ad/\S ad.block/\Jq w S ad 0 cs)
 | .mp l,v=>∃ g,v=.map (some g)/\S g/\Za w g l
 | .ifc t c,v=>∃ u,v=.iface t u/\Ga w S c u
 | .ref f cs,v=>∃ ad,v=.func (.func f) #[] #[.pointer (some ad)]/\S ad.block/\Jq w S ad 0 cs
def Jq (w:World) (S:Nat->Prop) (ad:Addr):Nat->List C->Prop
 | _,[]=>True
 | i,c :: cs=>(∃ u,w.cell? (ad.add i)=some u/\Ga w S c u)/\Jq w S ad (i + 1) cs
end
def lt (B:Nat):Nat->Prop:=fun b=>b < B
theorem S5 (a:Addr) (n:Nat):(a.add n).block=a.block:=by unfold Addr.add; split <;> rfl
theorem Xn (a:Addr) (i j:Nat):(a.add i).add j=a.add (i + j):=by
 unfold Addr.add
 by_cases hi:i=0 <;> by_cases hj:j=0 <;> simp [hi,hj,Nat.add_assoc]
section
variable {w w':World} {S S':Nat->Prop}
mutual
theorem Ga.keep_ (hk:∀ b,S b->w'.heap[b]?=w.heap[b]?) (hm:∀ b,S b->S' b):∀ (c:C) (v:Value),Ga w S c v->Ga w' S' c v
 | .int _ _,_,h=>h
 | .bool _,_,h=>h
 | .str _,_,h=>h
 | .raw _,_,h=>h
 | .mp l,v,h=>by
  unfold Ga at h ⊢
  obtain⟨g,h1,h2,h3⟩:=h
  exact⟨g,h1,hm _ h2,h3.keep (hk _ h2)⟩
 | .ifc t c,v,h=>by
  unfold Ga at h ⊢
  obtain⟨u,h1,h2⟩:=h
  exact⟨u,h1,Ga.keep_ hk hm c u h2⟩
 | .ref f cs,v,h=>by
  unfold Ga at h ⊢
  obtain⟨ad,h1,h2,h3⟩:=h
  exact⟨ad,h1,hm _ h2,Jq.keep_ hk hm ad h2 cs 0 h3⟩
 | .sl sz cs,v,h=>by
  unfold Ga at h ⊢
  obtain⟨A,n,cap,h1,h2,h3,h4,h5⟩:=h
  refine⟨A,n,cap,h1,h2,h3,h4,fun hn=>?_⟩
  obtain⟨ad,h6,h7,h8⟩:=h5 hn
  exact⟨ad,h6,hm _ h7,Jq.keep_ hk hm ad h7 cs 0 h8⟩
theorem Jq.keep_ (hk:∀ b,S b->w'.heap[b]?=w.heap[b]?) (hm:∀ b,S b->S' b) (ad:Addr) (hS:S ad.block):∀ (cs:List C) (i:Nat),Jq w S ad i cs->Jq w' S' ad i cs
 | [],_,_=>by unfold Jq; trivial
 | c :: cs,i,h=>by
  unfold Jq at h ⊢
  obtain⟨⟨u,h1,h2⟩,h3⟩:=h
  exact⟨⟨u,(World.cell?_of_block (w:=w) (w':=w') (by rw [S5]; exact hk _ hS)).trans h1,Ga.keep_ hk hm c u h2⟩,Jq.keep_ hk hm ad hS cs (i + 1) h3⟩
end
theorem Jq.at_ {ad:Addr}:∀ {cs:List C} {i:Nat} (_:Jq w S ad i cs) {j:Nat} {c:C} (_:cs[j]?=some c),∃ u,w.cell? (ad.add (i + j))=some u/\Ga w S c u
 | [],_,_,_,_,h=>by simp at h
 | c :: cs,i,h,0,c',h'=>by
  unfold Jq at h
  simp at h'
  subst h'
  exact h.1
 | c :: cs,i,h,j + 1,c',h'=>by
  unfold Jq at h
  have:=Jq.at_ h.2 (j:=j) (c:=c') (by simpa using h')
  rwa [show i + 1 + j=i + (j + 1) by omega] at this
theorem Jq.of_at {ad:Addr}:∀ (cs:List C) (i:Nat),(∀ j c,cs[j]?=some c->∃ u,w.cell? (ad.add (i + j))=some u/\Ga w S c u)->Jq w S ad i cs
 | [],_,_=>by unfold Jq; trivial
 | c :: cs,i,h=>by
  unfold Jq
  exact⟨h 0 c rfl,Jq.of_at cs (i + 1) fun j c' hc=>by
   have:=h (j + 1) c' (by simpa using hc)
   rwa [show i + (j + 1)=i + 1 + j by omega] at this⟩
theorem Ga.keep {c:C} {v:Value} (h:Ga w S c v) (hk:∀ b,S b->w'.heap[b]?=w.heap[b]?):Ga w' S c v:=Ga.keep_ hk (fun _ h=>h) c v h
theorem Ga.mono {c:C} {v:Value} (h:Ga w S c v) (hm:∀ b,S b->S' b):Ga w S' c v:=Ga.keep_ (fun _ _=>rfl) hm c v h
theorem Ga.up {B:Nat} {c:C} {v:Value} (h:Ga w (lt B) c v) (hb:Below B w w') (hB:B<=w'.heap.size):Ga w' (lt w'.heap.size) c v:=
 Ga.keep_ (fun b h=>hb.block b h) (fun _ h=>aUp h hB) c v h
def gK (w w':World):Prop:=Below w.heap.size w w'
def Rd (w:World) (c:C) (v:Value):Prop:=Ga w (lt w.heap.size) c v
theorem gK.refl (w:World):gK w w:=Below.refl _ _
theorem gK.trans {a b c:World} (h:gK a b) (k:gK b c):gK a c:=Below.trans h (Below.mono k h.size)
theorem gK.alloc {a b:World} (h:gK a b) (o:Obj):gK a (b.alloc o):=Below.alloc h h.size o
theorem gK.drew {a b:World} (h:gK a b):gK a b.drew:=Below.drew h
theorem gK.cell {a b:World} (h:gK a b) {p:Addr} (hp:p.block < a.heap.size):b.cell? p=a.cell? p:=Below.cell h hp
theorem gK.box {a b:World} {cs:Array Value} {t:TypeId} (h:gK (a.alloc (.cells cs t)) b) {i:Nat} {v:Value} (hv:cs[i]?=some v):b.cell? ⟨a.heap.size,i,none⟩=some v:=by
 rw [h.cell (by simp)]
 simp only [World.cell?,heap_alloc_new]
 simpa using hv
theorem gK.blk {a b:World} {o:Obj} (h:gK (a.alloc o) b):b.heap[a.heap.size]?=some o:=by
 rw [h.block _ (by simp),heap_alloc_new]
theorem Rd.ext {c:C} {v:Value} (h:Rd w c v) (e:gK w w'):Rd w' c v:=Ga.up h e e.size
theorem Ga.rd {c:C} {v:Value} (h:Ga w S c v) (hS:∀ b,S b->b < w.heap.size):Rd w c v:=h.mono hS
theorem Ga.slice {sz:Nat} {cs:List C} {v:Value} (h:Ga w S (.sl sz cs) v):∃ A n cap,v=.slice A n cap/\cs.length=n * sz/\n<=cap/\cap<=maxLen:=by
 unfold Ga at h
 obtain⟨A,n,cap,h1,h2,h3,h4,_⟩:=h
 exact⟨A,n,cap,h1,h2,h3,h4⟩
theorem Ga.cells {sz n cap:Nat} {A:Option Addr} {cs:List C} (h:Ga w S (.sl sz cs) (.slice A n cap)) (hn:0 < n) :
  ∃ ad,A=some ad/\S ad.block/\∀ j c,cs[j]?=some c->∃ u,w.cell? (ad.add j)=some u/\Ga w S c u:=by
 unfold Ga at h
 obtain⟨A',n',cap',h1,h2,h3,h4,h5⟩:=h
 injection h1 with e1 e2 e3
 subst e1 e2 e3
 obtain⟨ad,h6,h7,h8⟩:=h5 hn
 exact⟨ad,h6,h7,fun j c hc=>by have:=h8.at_ hc; rwa [aNm] at this⟩
theorem Ga.len {sz n cap:Nat} {A:Option Addr} {cs:List C} (h:Ga w S (.sl sz cs) (.slice A n cap)):cs.length=n * sz/\n<=cap/\cap<=maxLen:=by
 obtain⟨A',n',cap',h1,h2,h3,h4⟩:=h.slice
 injection h1 with e1 e2 e3
 subst e1 e2 e3
 exact⟨h2,h3,h4⟩
theorem Ga.mk_slice {sz n cap:Nat} {A:Option Addr} {cs:List C} (h1:cs.length=n * sz) (h2:n<=cap) (h3:cap<=maxLen)
  (h4:0 < n->∃ ad,A=some ad/\S ad.block/\∀ j c,cs[j]?=some c->∃ u,w.cell? (ad.add j)=some u/\Ga w S c u):Ga w S (.sl sz cs) (.slice A n cap):=by
 unfold Ga
 refine⟨A,n,cap,rfl,h1,h2,h3,fun hn=>?_⟩
 obtain⟨ad,h5,h6,h7⟩:=h4 hn
 exact⟨ad,h5,h6,Jq.of_at cs 0 fun j c hc=>by rw [aNm]; exact h7 j c hc⟩
theorem Ga.nil_ (sz:Nat):Ga w S (.sl sz []) (.slice none 0 0):=Ga.mk_slice (by simp) (aKp _) (by simp [maxLen]) (fun h=>absurd h (by omega))
theorem Ga.int_ {k:IntKind} {n:Int} {v:Value} (h:Ga w S (.int k n) v):v=.int k n/\k.min<=n/\n<=k.max:=by unfold Ga at h; exact h
theorem Ga.bool_ {b:Bool} {v:Value} (h:Ga w S (.bool b) v):v=.bool b:=by unfold Ga at h; exact h
theorem Ga.str_ {s:ByteArray} {v:Value} (h:Ga w S (.str s) v):v=.string s/\s.size<=maxLen:=by unfold Ga at h; exact h
theorem Ga.cut {sz n cap:Nat} {A A':Option Addr} {cs:List C} (h:Ga w S (.sl sz cs) (.slice A n cap)) {i j cap':Nat} (hij:i<=j) (hj:j<=n) (hc:j - i<=cap') (hm:cap'<=maxLen)
  (hA:∀ ad,A=some ad->i < j->A'=some (ad.add (i * sz))):Ga w S (.sl sz ((cs.drop (i * sz)).take ((j - i) * sz))) (.slice A' (j - i) cap'):=by
 have hl:=h.len.1
 refine Ga.mk_slice ?_ hc hm fun hn=>?_
 ·rw [aHg,aKq,hl,<- Nat.sub_mul]
  exact aY9 (aS3 _ (by omega))
 ·obtain⟨ad,h1,h2,h3⟩:=h.cells (by omega)
  refine⟨_,hA ad h1 (by omega),by rw [S5]; exact h2,fun k c hk=>?_⟩
  rw [Xn]
  have hk':cs[i * sz + k]?=some c:=by
   rw [aK0] at hk
   split at hk
   ·rwa [aLf] at hk
   ·cases hk
  exact h3 _ c hk'
theorem Ga.one {c:C} {v:Value} (h:Ga w S c v):v.oneCell'=true:=by
 cases c with
 | int k n=>rw [h.int_.1]; rfl
 | bool b=>rw [h.bool_]; rfl
 | str s=>rw [h.str_.1]; rfl
 | raw u=>unfold Ga at h; rw [h.1]; exact h.2.1
 | sl sz cs=>obtain⟨A,n,cap,h1,_⟩:=h.slice; rw [h1]; rfl
 | mp l=>unfold Ga at h; obtain⟨g,h1,_⟩:=h; rw [h1]; rfl
 | ifc t c=>unfold Ga at h; obtain⟨g,h1,_⟩:=h; rw [h1]; rfl
 | ref f cs=>unfold Ga at h; obtain⟨g,h1,_⟩:=h; rw [h1]; rfl
def I1 (w:World) (S:Nat->Prop) (cs:List C) (us:List Value):Prop:=cs.length=us.length/\∀ (j:Nat) (c:C) (u:Value),cs[j]?=some c->us[j]?=some u->Ga w S c u
theorem I1.keep_ {cs:List C} {us:List Value} (h:I1 w S cs us) (hk:∀ b,S b->w'.heap[b]?=w.heap[b]?) (hm:∀ b,S b->S' b):I1 w' S' cs us:=
 ⟨h.1,fun j c u h1 h2=>Ga.keep_ hk hm c u (h.2 j c u h1 h2)⟩
theorem I1.append {cs cs':List C} {us us':List Value} (h:I1 w S cs us) (h':I1 w S cs' us'):I1 w S (cs ++ cs') (us ++ us'):=by
 refine⟨by rw [aF3,aF3,h.1,h'.1],fun j c u h1 h2=>?_⟩
 rw [bAv] at h1 h2
 rw [h.1] at h1
 split at h1
 ·rename_i hj
  rw [if_pos hj] at h2
  exact h.2 j c u h1 h2
 ·rename_i hj
  rw [if_neg hj] at h2
  exact h'.2 _ c u h1 h2
theorem Ga.vals {sz n cap:Nat} {A:Option Addr} {cs:List C} (h:Ga w S (.sl sz cs) (.slice A n cap)) :
  ∃ us:List Value,us.length=n * sz/\I1 w S cs us/\(0 < n->∃ ad,A=some ad/\S ad.block/\∀ j u,us[j]?=some u->w.cell? (ad.add j)=some u):=by
 have hl:=h.len.1
 rcases aLg n with hn | hn
 ·subst hn
  have:cs=[]:=aF9 (by simpa using hl)
  subst this
  exact⟨[],by simp,⟨rfl,fun j c u h1 _=>by simp at h1⟩,fun h=>absurd h (by omega)⟩
 ·obtain⟨ad,hA,hS,hc⟩:=h.cells hn
  refine⟨(List.range cs.length).map fun j=>(w.cell? (ad.add j)).getD default,by simpa using hl,⟨by simp,fun j c u h1 h2=>?_⟩,fun _=>⟨ad,hA,hS,fun j u h2=>?_⟩⟩
  ·obtain⟨u',e1,e2⟩:=hc j c h1
   have hj:j < cs.length:=(aBe.1 h1).1
   simp [hj,e1] at h2
   subst h2
   exact e2
  ·have hj:j < cs.length:=by
    rcases aU5 j cs.length with h | h
    ·exact h
    ·rw [aUv (by simpa using h)] at h2; cases h2
   obtain⟨u',e1,e2⟩:=hc j cs[j] (aBb hj)
   simp [hj,e1] at h2
   rw [e1,h2]
def pI (w:World) (base:Nat) (e:TypeId) (sz:Nat) (v:Value) (cs:List C):Prop:=
 ∃ n us,w.ownsRow base e sz v n us/\I1 w (fun b=>b < w.heap.size/\v.ownBlock≠some b) cs us
theorem pI.nil_ (w:World) (base:Nat) (e:TypeId) (sz:Nat):pI w base e sz (.slice none 0 0) []:=⟨0,[],World.ownsRow_nil _ _ _ _,rfl,fun _ _ _ h _=>by simp at h⟩
theorem pI.form {base:Nat} {e:TypeId} {sz:Nat} {v:Value} {cs:List C} (h:pI w base e sz v cs) :
  ∃ n us,cs.length=n * sz/\us.length=n * sz/\I1 w (fun b=>b < w.heap.size/\v.ownBlock≠some b) cs us/\
   ((v=.slice none 0 0/\n=0)\/∃ g cap,v=.slice (some ⟨g,0,none⟩) n cap/\base<=g/\g < w.heap.size/\n<=cap/\cap<=maxLen/\(∀ j u,us[j]?=some u->w.cell? ⟨g,j,none⟩=some u)/\∀ j,w.frozen? ⟨g,j,none⟩=false):=by
 obtain⟨n,us,ho,hr⟩:=h
 refine⟨n,us,by rw [hr.1,ho.1],ho.1,hr,?_⟩
 rcases ho.2 with h1 | ⟨g,cap,cur,hv,hb,G,hn,hm,hs,ht⟩
 ·exact .inl h1
 ·refine .inr ⟨g,cap,hv,hb,(aF8.1 G).1,hn,hm,fun j u hu=>?_,fun j=>by simp [World.frozen?,G]⟩
  rw [<- ht,aK0] at hu
  split at hu
  ·simpa [World.cell?,G] using hu
  ·cases hu
theorem pI.rd {base:Nat} {e:TypeId} {sz:Nat} {v:Value} {cs:List C} (h:pI w base e sz v cs):Rd w (.sl sz cs) v:=by
 obtain⟨n,us,h1,h2,h3,h4⟩:=h.form
 rcases h4 with ⟨rfl,rfl⟩ | ⟨g,cap,rfl,hb,G,hn,hm,hc,_⟩
 ·have:cs=[]:=aF9 (by simpa using h1)
  subst this
  exact Ga.nil_ sz
 ·refine Ga.mk_slice h1 hn hm fun _=>⟨⟨g,0,none⟩,rfl,G,fun j c hj=>?_⟩
  have hjl:j < us.length:=by rw [<- h3.1]; exact (aBe.1 hj).1
  refine⟨us[j],?_,(h3.2 j c _ hj (aBb hjl)).mono fun b hb=>hb.1⟩
  have:=hc j _ (aBb hjl)
  unfold Addr.add
  split
  ·rename_i h0; subst h0; exact this
  ·simpa using this
theorem pI.kept {base:Nat} {e:TypeId} {sz:Nat} {v:Value} {cs:List C} (h:pI w base e sz v cs) (hk:∀ b,b < w.heap.size->w'.heap[b]?=w.heap[b]?) (hs:w.heap.size<=w'.heap.size):pI w' base e sz v cs:=by
 obtain⟨n,us,ho,hr⟩:=h
 refine⟨n,us,⟨ho.1,?_⟩,hr.keep_ (fun b hb=>hk b hb.1) (fun b hb=>⟨aUp hb.1 hs,hb.2⟩)⟩
 rcases ho.2 with h1 | ⟨g,cap,cur,hv,hb,G,r⟩
 ·exact .inl h1
 ·exact .inr ⟨g,cap,cur,hv,hb,by rw [hk g (aF8.1 G).1]; exact G,r⟩
theorem pI.ext {base:Nat} {e:TypeId} {sz:Nat} {v:Value} {cs:List C} (h:pI w base e sz v cs) (hx:gK w w'):pI w' base e sz v cs:=h.kept (fun b hb=>hx.block b hb) hx.size
theorem pI.more {base base':Nat} {e:TypeId} {sz:Nat} {v:Value} {cs:List C} (h:pI w base e sz v cs) (hb:base'<=base):pI w base' e sz v cs:=by
 obtain⟨n,us,ho,hr⟩:=h
 refine⟨n,us,⟨ho.1,?_⟩,hr⟩
 rcases ho.2 with h1 | ⟨g,cap,cur,hv,G,r⟩
 ·exact .inl h1
 ·exact .inr ⟨g,cap,cur,hv,by omega,r⟩
theorem gK.grown {a:World} (h:gK a w) {row:Option Nat} (G:w.grownBy w' row) (hr:∀ k,row=some k->a.heap.size<=k):gK a w':=Below.grown h G h.size hr
theorem Ga.grown {row:Option Nat} {c:C} {v:Value} (h:Ga w S c v) (G:w.grownBy w' row) (hS:∀ b,S b->b < w.heap.size/\row≠some b):Ga w' S c v:=
 h.keep fun b hb=>G.block b (hS b hb).1 (fun e=>(hS b hb).2 e.symm)
theorem Ga.fresh {sz:Nat} {cs:List C} {us:List Value} {e:TypeId} {n:Nat} {S:Nat->Prop} (hn:cs.length=n * sz) (hm:n<=maxLen) (h:I1 w S cs us) (hS:∀ b,S b->b < w.heap.size) (T:Nat->Prop) (hT:∀ b,S b->T b) (hT':T w.heap.size) :
  Ga (w.alloc (.cells us.toArray e)) T (.sl sz cs) (.slice (some ⟨w.heap.size,0,none⟩) n n):=by
 refine Ga.mk_slice hn (aKp _) hm fun _=>⟨⟨w.heap.size,0,none⟩,rfl,hT',fun j c hj=>?_⟩
 have hjl:j < us.length:=by rw [<- h.1]; exact (aBe.1 hj).1
 refine⟨us[j],?_,Ga.keep_ (fun b hb=>heap_alloc_old w _ b (hS b hb)) hT _ _ (h.2 j c _ hj (aBb hjl))⟩
 have e1:(w.alloc (.cells us.toArray e)).cell? ⟨w.heap.size,j,none⟩=some us[j]:=by
  simp only [World.cell?,heap_alloc_new]
  simp [hjl]
 unfold Addr.add
 split
 ·rename_i h0; subst h0; exact e1
 ·simp
structure Jf (P:Program) (t e:TypeId) (sz bytes:Nat):Prop where
 ht:P.underlying t=some (.slice e)
 hi:∃ i z,P.info? e=some i/\i.zero=some z/\i.size=sz/\i.bytes=bytes/\z.cells.size=sz
 hsz:0 < sz
 hby:0 < bytes
theorem Jf.mk' {P:Program} {t e:TypeId} {z:Value} {sz bytes:Nat} (ht:P.underlying t=some (.slice e)) (h:(P.info? e).map (fun i=>(i.zero,i.size,i.bytes))=some (some z,sz,bytes)) (hz:z.cells.size=sz) (hsz:0 < sz) (hby:0 < bytes):Jf P t e sz bytes:=by
 obtain⟨i,h1,h2,h3,h4⟩:=info_parts h
 exact⟨ht,⟨i,z,h1,h2,h3,h4,hz⟩,hsz,hby⟩
theorem I1.int_ {k:IntKind} {n:Int} (h:k.min<=n/\n<=k.max):I1 w S [.int k n] [.int k n]:=⟨rfl,fun j c u h1 h2=>by
 cases j with
 | zero=>simp at h1 h2; subst h1 h2; unfold Ga; exact⟨rfl,h⟩
 | succ j=>simp at h1⟩
theorem sA {n:Int} (h:0<=n/\n<=255):IntKind.u8.min<=n/\n<=IntKind.u8.max:=by
 have h1:IntKind.u8.min=0:=by decide
 have h2:IntKind.u8.max=255:=by decide
 rw [h1,h2]; exact h
theorem U6 {n:Int} (h:-9223372036854775808<=n/\n<=9223372036854775807):IntKind.i64.min<=n/\n<=IntKind.i64.max:=by
 have h1:IntKind.i64.min=-9223372036854775808:=by decide
 have h2:IntKind.i64.max=9223372036854775807:=by decide
 rw [h1,h2]; exact h
end
end Go.Proofs.YtboglmbblmakjaaGreatDoor
