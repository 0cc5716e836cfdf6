import Derived.Test.YtfanepojdefdpaaGreatZz
import Derived.Below
import Derived.Laws.OwnMore
import Derived.Deep.AppendLies
import Derived.Deep.Draws
import Derived.Maps.AppendAt
import Derived.OwnWalk
set_option linter.unusedSimpArgs false
set_option linter.unusedVariables false
namespace Go.Proofs.YtfanepojdefdpaaGreat
open Go.RowKit
inductive C where
 | int (k:IntKind) (n:Int)
 | bool (b:Bool)
 | str (s:ByteArray)
 | raw (v:Value)
 | sl (sz:Nat) (cs:List C)
 | mp (l:List (Value×Value))
def Fr:Value->Bool
 | .int k n=>decide (k.min<=n) && decide (n<=k.max)
 | .string s=>Nat.ble s.size maxLen
 | _=>true
theorem Gr {k:IntKind} {n:Int}:Fr (.int k n)=true↔k.min<=n/\n<=k.max:=by simp [Fr]
theorem Nu {s:ByteArray}:Fr (.string s)=true↔s.size<=maxLen:=by simp [Fr]
def fD (w:World) (g:Nat) (l:List (Value×Value)):Prop:=
 ∃ es,w.heap[g]?=some (.map es es.size)/\es.toList.map (fun e=>(e.key,e.val))=l/\(∀ (i:Nat) e,es[i]?=some e->e.born=i)/\∀ p∈l,Fr p.1=true/\Fr p.2=true
theorem fD.keep {w w':World} {g:Nat} {l:List (Value×Value)} (h:fD w g l) (hk:w'.heap[g]?=w.heap[g]?):fD w' g l:=by
 obtain⟨es,h1,h2⟩:=h
 exact⟨es,hk.trans h1,h2⟩
mutual
def D3 (w:World) (S:Nat->Prop):C->Value->Prop
 | .int k n,v=>v=.int k n/\k.min<=n/\n<=k.max
 | .bool b,v=>v=.bool b
 | .str s,v=>v=.string s/\s.size<=maxLen
 | .raw u,v=>v=u/\u.oneCell'=true/\Fr u=true
 | .sl sz cs,v=>∃ A n cap,v=.slice A n cap/\cs.length=n * sz/\n<=cap/\cap<=maxLen/\(0 < n->∃ ad,A=some ad/\S ad.block/\Jl w S ad 0 cs)
 | .mp l,v=>∃ g,v=.map (some g)/\S g/\fD w g l
def Jl (w:World) (S:Nat->Prop) (ad:Addr):Nat->List C->Prop
 | _,[]=>True
 | i,c :: cs=>(∃ u,w.cell? (ad.add i)=some u/\D3 w S c u)/\Jl w S ad (i + 1) cs
end
def lt (B:Nat):Nat->Prop:=fun b=>b < B
theorem Mq (a:Addr) (n:Nat):(a.add n).block=a.block:=by unfold Addr.add; split <;> rfl
theorem Qm (a:Addr) (i j:Nat):(a.add i).add j=a.add (i + j):=by
 unfold Addr.add
 by_cases hi:i=0 <;> by_cases hj:j=0 <;> simp [hi,hj,aHv]
section
variable {w w':World} {S S':Nat->Prop}
mutual
theorem D3.keep_ (hk:∀ b,S b->w'.heap[b]?=w.heap[b]?) (hm:∀ b,S b->S' b):∀ (c:C) (v:Value),D3 w S c v->D3 w' S' c v
 | .int _ _,_,h=>h
 | .bool _,_,h=>h
 | .str _,_,h=>h
 | .raw _,_,h=>h
 | .mp l,v,h=>by
  unfold D3 at h ⊢
  obtain⟨g,h1,h2,h3⟩:=h
  exact⟨g,h1,hm _ h2,h3.keep (hk _ h2)⟩
 | .sl sz cs,v,h=>by
  unfold D3 at h ⊢
  obtain⟨A,n,cap,h1,h2,h3,h4,h5⟩:=h
  refine⟨A,n,cap,h1,h2,h3,h4,fun hn=>?_⟩
  obtain⟨ad,h6,h7,h8⟩:=h5 hn
  exact⟨ad,h6,hm _ h7,Jl.keep_ hk hm ad h7 cs 0 h8⟩
theorem Jl.keep_ (hk:∀ b,S b->w'.heap[b]?=w.heap[b]?) (hm:∀ b,S b->S' b) (ad:Addr) (hS:S ad.block):∀ (cs:List C) (i:Nat),Jl w S ad i cs->Jl w' S' ad i cs
 | [],_,_=>by unfold Jl; trivial
 | c :: cs,i,h=>by
  unfold Jl at h ⊢
  obtain⟨⟨u,h1,h2⟩,h3⟩:=h
  exact⟨⟨u,(World.cell?_of_block (w:=w) (w':=w') (by rw [Mq]; exact hk _ hS)).trans h1,D3.keep_ hk hm c u h2⟩,Jl.keep_ hk hm ad hS cs (i + 1) h3⟩
end
theorem Jl.at_ {ad:Addr}:∀ {cs:List C} {i:Nat} (_:Jl w S ad i cs) {j:Nat} {c:C} (_:cs[j]?=some c),∃ u,w.cell? (ad.add (i + j))=some u/\D3 w S c u
 | [],_,_,_,_,h=>by simp at h
 | c :: cs,i,h,0,c',h'=>by
  unfold Jl at h
  simp at h'
  subst h'
  exact h.1
 | c :: cs,i,h,j + 1,c',h'=>by
  unfold Jl at h
  have:=Jl.at_ h.2 (j:=j) (c:=c') (by simpa using h')
  rwa [show i + 1 + j=i + (j + 1) by omega] at this
theorem Jl.of_at {ad:Addr}:∀ (cs:List C) (i:Nat),(∀ j c,cs[j]?=some c->∃ u,w.cell? (ad.add (i + j))=some u/\D3 w S c u)->Jl w S ad i cs
 | [],_,_=>by unfold Jl; trivial
 | c :: cs,i,h=>by
  unfold Jl
  exact⟨h 0 c rfl,Jl.of_at cs (i + 1) fun j c' hc=>by
   have:=h (j + 1) c' (by simpa using hc)
   rwa [show i + (j + 1)=i + 1 + j by omega] at this⟩
theorem D3.keep {c:C} {v:Value} (h:D3 w S c v) (hk:∀ b,S b->w'.heap[b]?=w.heap[b]?):D3 w' S c v:=D3.keep_ hk (fun _ h=>h) c v h
theorem D3.mono {c:C} {v:Value} (h:D3 w S c v) (hm:∀ b,S b->S' b):D3 w S' c v:=D3.keep_ (fun _ _=>rfl) hm c v h
theorem D3.up {B:Nat} {c:C} {v:Value} (h:D3 w (lt B) c v) (hb:Below B w w') (hB:B<=w'.heap.size):D3 w' (lt w'.heap.size) c v:=
 D3.keep_ (fun b h=>hb.block b h) (fun _ h=>aGq h hB) c v h
def Ws (w w':World):Prop:=Below w.heap.size w w'
def Rd (w:World) (c:C) (v:Value):Prop:=D3 w (lt w.heap.size) c v
theorem Ws.refl (w:World):Ws w w:=Below.refl _ _
theorem Ws.trans {a b c:World} (h:Ws a b) (k:Ws b c):Ws a c:=Below.trans h (Below.mono k h.size)
theorem Ws.alloc {a b:World} (h:Ws a b) (o:Obj):Ws a (b.alloc o):=Below.alloc h h.size o
theorem Ws.drew {a b:World} (h:Ws a b):Ws a b.drew:=Below.drew h
theorem Ws.cell {a b:World} (h:Ws a b) {p:Addr} (hp:p.block < a.heap.size):b.cell? p=a.cell? p:=Below.cell h hp
theorem Ws.box {a b:World} {cs:Array Value} {t:TypeId} (h:Ws (a.alloc (.cells cs t)) b) {i:Nat} {v:Value} (hv:cs[i]?=some v):b.cell? ⟨a.heap.size,i,none⟩=some v:=by
 rw [h.cell (by simp)]
 simp only [World.cell?,heap_alloc_new]
 simpa using hv
theorem Ws.blk {a b:World} {o:Obj} (h:Ws (a.alloc o) b):b.heap[a.heap.size]?=some o:=by
 rw [h.block _ (by simp),heap_alloc_new]
theorem Rd.ext {c:C} {v:Value} (h:Rd w c v) (e:Ws w w'):Rd w' c v:=D3.up h e e.size
theorem D3.rd {c:C} {v:Value} (h:D3 w S c v) (hS:∀ b,S b->b < w.heap.size):Rd w c v:=h.mono hS
theorem D3.slice {sz:Nat} {cs:List C} {v:Value} (h:D3 w S (.sl sz cs) v):∃ A n cap,v=.slice A n cap/\cs.length=n * sz/\n<=cap/\cap<=maxLen:=by
 unfold D3 at h
 obtain⟨A,n,cap,h1,h2,h3,h4,_⟩:=h
 exact⟨A,n,cap,h1,h2,h3,h4⟩
theorem D3.cells {sz n cap:Nat} {A:Option Addr} {cs:List C} (h:D3 w S (.sl sz cs) (.slice A n cap)) (hn:0 < n) :
  ∃ ad,A=some ad/\S ad.block/\∀ j c,cs[j]?=some c->∃ u,w.cell? (ad.add j)=some u/\D3 w S c u:=by
 unfold D3 at h
 obtain⟨A',n',cap',h1,h2,h3,h4,h5⟩:=h
 injection h1 with e1 e2 e3
 subst e1 e2 e3
 obtain⟨ad,h6,h7,h8⟩:=h5 hn
 exact⟨ad,h6,h7,fun j c hc=>by have:=h8.at_ hc; rwa [aE6] at this⟩
theorem D3.len {sz n cap:Nat} {A:Option Addr} {cs:List C} (h:D3 w S (.sl sz cs) (.slice A n cap)):cs.length=n * sz/\n<=cap/\cap<=maxLen:=by
 obtain⟨A',n',cap',h1,h2,h3,h4⟩:=h.slice
 injection h1 with e1 e2 e3
 subst e1 e2 e3
 exact⟨h2,h3,h4⟩
theorem D3.mk_slice {sz n cap:Nat} {A:Option Addr} {cs:List C} (h1:cs.length=n * sz) (h2:n<=cap) (h3:cap<=maxLen)
  (h4:0 < n->∃ ad,A=some ad/\S ad.block/\∀ j c,cs[j]?=some c->∃ u,w.cell? (ad.add j)=some u/\D3 w S c u):D3 w S (.sl sz cs) (.slice A n cap):=by
 unfold D3
 refine⟨A,n,cap,rfl,h1,h2,h3,fun hn=>?_⟩
 obtain⟨ad,h5,h6,h7⟩:=h4 hn
 exact⟨ad,h5,h6,Jl.of_at cs 0 fun j c hc=>by rw [aE6]; exact h7 j c hc⟩
theorem D3.nil_ (sz:Nat):D3 w S (.sl sz []) (.slice none 0 0):=D3.mk_slice (by simp) (aFf _) (by simp [maxLen]) (fun h=>absurd h (by omega))
theorem D3.int_ {k:IntKind} {n:Int} {v:Value} (h:D3 w S (.int k n) v):v=.int k n/\k.min<=n/\n<=k.max:=by unfold D3 at h; exact h
theorem D3.bool_ {b:Bool} {v:Value} (h:D3 w S (.bool b) v):v=.bool b:=by unfold D3 at h; exact h
theorem D3.str_ {s:ByteArray} {v:Value} (h:D3 w S (.str s) v):v=.string s/\s.size<=maxLen:=by unfold D3 at h; exact h
theorem D3.cut {sz n cap:Nat} {A A':Option Addr} {cs:List C} (h:D3 w S (.sl sz cs) (.slice A n cap)) {i j cap':Nat} (hij:i<=j) (hj:j<=n) (hc:j - i<=cap') (hm:cap'<=maxLen)
  (hA:∀ ad,A=some ad->i < j->A'=some (ad.add (i * sz))):D3 w S (.sl sz ((cs.drop (i * sz)).take ((j - i) * sz))) (.slice A' (j - i) cap'):=by
 have hl:=h.len.1
 refine D3.mk_slice ?_ hc hm fun hn=>?_
 ·rw [aDy,aD1,hl,<- Nat.sub_mul]
  exact aHw (aFu _ (by omega))
 ·obtain⟨ad,h1,h2,h3⟩:=h.cells (by omega)
  refine⟨_,hA ad h1 (by omega),by rw [Mq]; exact h2,fun k c hk=>?_⟩
  rw [Qm]
  have hk':cs[i * sz + k]?=some c:=by
   rw [aE9] at hk
   split at hk
   ·rwa [aE8] at hk
   ·cases hk
  exact h3 _ c hk'
theorem D3.one {c:C} {v:Value} (h:D3 w S c v):v.oneCell'=true:=by
 cases c with
 | int k n=>rw [h.int_.1]; rfl
 | bool b=>rw [h.bool_]; rfl
 | str s=>rw [h.str_.1]; rfl
 | raw u=>unfold D3 at h; rw [h.1]; exact h.2.1
 | sl sz cs=>obtain⟨A,n,cap,h1,_⟩:=h.slice; rw [h1]; rfl
 | mp l=>unfold D3 at h; obtain⟨g,h1,_⟩:=h; rw [h1]; rfl
def Fb (w:World) (S:Nat->Prop) (cs:List C) (us:List Value):Prop:=cs.length=us.length/\∀ (j:Nat) (c:C) (u:Value),cs[j]?=some c->us[j]?=some u->D3 w S c u
theorem Fb.keep_ {cs:List C} {us:List Value} (h:Fb w S cs us) (hk:∀ b,S b->w'.heap[b]?=w.heap[b]?) (hm:∀ b,S b->S' b):Fb w' S' cs us:=
 ⟨h.1,fun j c u h1 h2=>D3.keep_ hk hm c u (h.2 j c u h1 h2)⟩
theorem Fb.append {cs cs':List C} {us us':List Value} (h:Fb w S cs us) (h':Fb w S cs' us'):Fb w S (cs ++ cs') (us ++ us'):=by
 refine⟨by rw [aDw,aDw,h.1,h'.1],fun j c u h1 h2=>?_⟩
 rw [aIh] at h1 h2
 rw [h.1] at h1
 split at h1
 ·rename_i hj
  rw [if_pos hj] at h2
  exact h.2 j c u h1 h2
 ·rename_i hj
  rw [if_neg hj] at h2
  exact h'.2 _ c u h1 h2
theorem D3.vals {sz n cap:Nat} {A:Option Addr} {cs:List C} (h:D3 w S (.sl sz cs) (.slice A n cap)) :
  ∃ us:List Value,us.length=n * sz/\Fb w S cs us/\(0 < n->∃ ad,A=some ad/\S ad.block/\∀ j u,us[j]?=some u->w.cell? (ad.add j)=some u):=by
 have hl:=h.len.1
 rcases aFa n with hn | hn
 ·subst hn
  have:cs=[]:=aDu (by simpa using hl)
  subst this
  exact⟨[],by simp,⟨rfl,fun j c u h1 _=>by simp at h1⟩,fun h=>absurd h (by omega)⟩
 ·obtain⟨ad,hA,hS,hc⟩:=h.cells hn
  refine⟨(List.range cs.length).map fun j=>(w.cell? (ad.add j)).getD default,by simpa using hl,⟨by simp,fun j c u h1 h2=>?_⟩,fun _=>⟨ad,hA,hS,fun j u h2=>?_⟩⟩
  ·obtain⟨u',e1,e2⟩:=hc j c h1
   have hj:j < cs.length:=(aBw.1 h1).1
   simp [hj,e1] at h2
   subst h2
   exact e2
  ·have hj:j < cs.length:=by
    rcases aF4 j cs.length with h | h
    ·exact h
    ·rw [aF5 (by simpa using h)] at h2; cases h2
   obtain⟨u',e1,e2⟩:=hc j cs[j] (aA1 hj)
   simp [hj,e1] at h2
   rw [e1,h2]
def Yr (w:World) (base:Nat) (e:TypeId) (sz:Nat) (v:Value) (cs:List C):Prop:=
 ∃ n us,w.ownsRow base e sz v n us/\Fb w (fun b=>b < w.heap.size/\v.ownBlock≠some b) cs us
theorem Yr.nil_ (w:World) (base:Nat) (e:TypeId) (sz:Nat):Yr w base e sz (.slice none 0 0) []:=⟨0,[],World.ownsRow_nil _ _ _ _,rfl,fun _ _ _ h _=>by simp at h⟩
theorem Yr.form {base:Nat} {e:TypeId} {sz:Nat} {v:Value} {cs:List C} (h:Yr w base e sz v cs) :
  ∃ n us,cs.length=n * sz/\us.length=n * sz/\Fb w (fun b=>b < w.heap.size/\v.ownBlock≠some b) cs us/\
   ((v=.slice none 0 0/\n=0)\/∃ g cap,v=.slice (some ⟨g,0,none⟩) n cap/\base<=g/\g < w.heap.size/\n<=cap/\cap<=maxLen/\(∀ j u,us[j]?=some u->w.cell? ⟨g,j,none⟩=some u)/\∀ j,w.frozen? ⟨g,j,none⟩=false):=by
 obtain⟨n,us,ho,hr⟩:=h
 refine⟨n,us,by rw [hr.1,ho.1],ho.1,hr,?_⟩
 rcases ho.2 with h1 | ⟨g,cap,cur,hv,hb,D,hn,hm,hs,ht⟩
 ·exact .inl h1
 ·refine .inr ⟨g,cap,hv,hb,(aEx.1 D).1,hn,hm,fun j u hu=>?_,fun j=>by simp [World.frozen?,D]⟩
  rw [<- ht,aE9] at hu
  split at hu
  ·simpa [World.cell?,D] using hu
  ·cases hu
theorem Yr.rd {base:Nat} {e:TypeId} {sz:Nat} {v:Value} {cs:List C} (h:Yr w base e sz v cs):Rd w (.sl sz cs) v:=by
 obtain⟨n,us,h1,h2,h3,h4⟩:=h.form
 rcases h4 with ⟨rfl,rfl⟩ | ⟨g,cap,rfl,hb,D,hn,hm,hc,_⟩
 ·have:cs=[]:=aDu (by simpa using h1)
  subst this
  exact D3.nil_ sz
 ·refine D3.mk_slice h1 hn hm fun _=>⟨⟨g,0,none⟩,rfl,D,fun j c hj=>?_⟩
  have hjl:j < us.length:=by rw [<- h3.1]; exact (aBw.1 hj).1
  refine⟨us[j],?_,(h3.2 j c _ hj (aA1 hjl)).mono fun b hb=>hb.1⟩
  have:=hc j _ (aA1 hjl)
  unfold Addr.add
  split
  ·rename_i h0; subst h0; exact this
  ·simpa using this
theorem Yr.kept {base:Nat} {e:TypeId} {sz:Nat} {v:Value} {cs:List C} (h:Yr w base e sz v cs) (hk:∀ b,b < w.heap.size->w'.heap[b]?=w.heap[b]?) (hs:w.heap.size<=w'.heap.size):Yr w' base e sz v cs:=by
 obtain⟨n,us,ho,hr⟩:=h
 refine⟨n,us,⟨ho.1,?_⟩,hr.keep_ (fun b hb=>hk b hb.1) (fun b hb=>⟨aGq hb.1 hs,hb.2⟩)⟩
 rcases ho.2 with h1 | ⟨g,cap,cur,hv,hb,D,r⟩
 ·exact .inl h1
 ·exact .inr ⟨g,cap,cur,hv,hb,by rw [hk g (aEx.1 D).1]; exact D,r⟩
theorem Yr.ext {base:Nat} {e:TypeId} {sz:Nat} {v:Value} {cs:List C} (h:Yr w base e sz v cs) (hx:Ws w w'):Yr w' base e sz v cs:=h.kept (fun b hb=>hx.block b hb) hx.size
theorem Yr.more {base base':Nat} {e:TypeId} {sz:Nat} {v:Value} {cs:List C} (h:Yr w base e sz v cs) (hb:base'<=base):Yr w base' e sz v cs:=by
 obtain⟨n,us,ho,hr⟩:=h
 refine⟨n,us,⟨ho.1,?_⟩,hr⟩
 rcases ho.2 with h1 | ⟨g,cap,cur,hv,D,r⟩
 ·exact .inl h1
 ·exact .inr ⟨g,cap,cur,hv,by omega,r⟩
theorem Ws.grown {a:World} (h:Ws a w) {row:Option Nat} (D:w.grownBy w' row) (hr:∀ k,row=some k->a.heap.size<=k):Ws a w':=Below.grown h D h.size hr
theorem D3.grown {row:Option Nat} {c:C} {v:Value} (h:D3 w S c v) (D:w.grownBy w' row) (hS:∀ b,S b->b < w.heap.size/\row≠some b):D3 w' S c v:=
 h.keep fun b hb=>D.block b (hS b hb).1 (fun e=>(hS b hb).2 e.symm)
theorem D3.fresh {sz:Nat} {cs:List C} {us:List Value} {e:TypeId} {n:Nat} {S:Nat->Prop} (hn:cs.length=n * sz) (hm:n<=maxLen) (h:Fb w S cs us) (hS:∀ b,S b->b < w.heap.size) (T:Nat->Prop) (hT:∀ b,S b->T b) (hT':T w.heap.size) :
  D3 (w.alloc (.cells us.toArray e)) T (.sl sz cs) (.slice (some ⟨w.heap.size,0,none⟩) n n):=by
 refine D3.mk_slice hn (aFf _) hm fun _=>⟨⟨w.heap.size,0,none⟩,rfl,hT',fun j c hj=>?_⟩
 have hjl:j < us.length:=by rw [<- h.1]; exact (aBw.1 hj).1
 refine⟨us[j],?_,D3.keep_ (fun b hb=>heap_alloc_old w _ b (hS b hb)) hT _ _ (h.2 j c _ hj (aA1 hjl))⟩
 have e1:(w.alloc (.cells us.toArray e)).cell? ⟨w.heap.size,j,none⟩=some us[j]:=by
  simp only [World.cell?,heap_alloc_new]
  simp [hjl]
 unfold Addr.add
 split
 ·rename_i h0; subst h0; exact e1
 ·simp
structure Ij (P:Program) (t e:TypeId) (sz bytes:Nat):Prop where
 ht:P.underlying t=some (.slice e)
 hi:∃ i z,P.info? e=some i/\i.zero=some z/\i.size=sz/\i.bytes=bytes/\z.cells.size=sz
 hsz:0 < sz
 hby:0 < bytes
theorem Ij.mk' {P:Program} {t e:TypeId} {z:Value} {sz bytes:Nat} (ht:P.underlying t=some (.slice e)) (h:(P.info? e).map (fun i=>(i.zero,i.size,i.bytes))=some (some z,sz,bytes)) (hz:z.cells.size=sz) (hsz:0 < sz) (hby:0 < bytes):Ij P t e sz bytes:=by
 obtain⟨i,h1,h2,h3,h4⟩:=info_parts h
 exact⟨ht,⟨i,z,h1,h2,h3,h4,hz⟩,hsz,hby⟩
theorem Fb.int_ {k:IntKind} {n:Int} (h:k.min<=n/\n<=k.max):Fb w S [.int k n] [.int k n]:=⟨rfl,fun j c u h1 h2=>by
 cases j with
 | zero=>simp at h1 h2; subst h1 h2; unfold D3; exact⟨rfl,h⟩
 | succ j=>simp at h1⟩
theorem Y2 {n:Int} (h:0<=n/\n<=255):IntKind.u8.min<=n/\n<=IntKind.u8.max:=by
 have h1:IntKind.u8.min=0:=by decide
 have h2:IntKind.u8.max=255:=by decide
 rw [h1,h2]; exact h
theorem Nv {n:Int} (h:-9223372036854775808<=n/\n<=9223372036854775807):IntKind.i64.min<=n/\n<=IntKind.i64.max:=by
 have h1:IntKind.i64.min=-9223372036854775808:=by decide
 have h2:IntKind.i64.max=9223372036854775807:=by decide
 rw [h1,h2]; exact h
end
end Go.Proofs.YtfanepojdefdpaaGreat
