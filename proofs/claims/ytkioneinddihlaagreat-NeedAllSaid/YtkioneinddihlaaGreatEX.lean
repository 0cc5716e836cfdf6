import Derived.Test.YtkioneinddihlaaGreatEC
import Derived.Maps.RangeWalk
import Derived.Laws.Externs
import Derived.Lib.Bytealg
import Derived.Lib.AppendZeros
import Derived.Test.YtkioneinddihlaaGreatPU
set_option linter.unusedVariables false
set_option linter.unusedSimpArgs false
namespace Go.Proofs.YtkioneinddihlaaGreat
open Go.RowKit
open Go.ChangeMaps (setBlock)
abbrev cK:=List (Nat×Option LB)
theorem Iz {σ:St} {l:List Nat} {j:Nat} {lb:LB} (h:(j,some lb)∈Kj σ l):σ.L j=some lb:=by
 obtain⟨k,-,hk⟩:=aIk.1 h
 injection hk with h1 h2
 subst h1
 exact h2
structure aB (P:Program) (kt:TypeId) {κ:Type} (f:κ->Value):Prop where
 chk:∀ (e:Bool) x w,(Instr.checkKey e 10000 kt (f x)).run P w=.ok () w
 find:∀ x (es:List MapEntry) (xs:List κ) w,es.map (·.key)=xs.map f->∃ r,(Instr.findKey kt (f x) es).run P w=.ok r w/\match r with
  | none=>x∉xs
  | some (i,v)=>∃ e,es[i]?=some e/\v=e.val/\e.key=f x/\xs[i]?=some x/\∀ j,j < i->xs[j]?≠some x
 same:∀ x,Instr.sameBits 10000 (f x) (f x)=true
section
variable {κ ν:Type} [DecidableEq κ]
def Re (f:κ->Value) (g:ν->Value) (l:List (κ×ν)):List (Value×Value):=l.map fun p=>(f p.1,g p.2)
theorem cM {l:List (κ×ν)} {x:κ} (h:x∉l.map (·.1)) (z:ν):Ga l x z=z/\Rw l x=false/\l.findIdx? (fun p=>decide (p.1=x))=none:=by
 have hn:∀ p∈l,¬ decide (p.1=x)=true:=fun p hp hd=>h (aIk.2 ⟨p,hp,aCe hd⟩)
 refine⟨?_,?_,?_⟩
 ·unfold Ga
  rw [List.find?_eq_none.2 hn]
 ·unfold Rw
  cases ha:l.any fun p=>decide (p.1=x) with
  | false=>rfl
  | true=>
   obtain⟨p,hp,hd⟩:=aIi.1 ha
   exact absurd hd (hn p hp)
 ·rw [List.findIdx?_eq_none_iff]
  intro p hp
  simpa using hn p hp
theorem cO {l:List (κ×ν)} {x:κ} {i:Nat} (h:(l.map (·.1))[i]?=some x) (hj:∀ j,j < i->(l.map (·.1))[j]?≠some x) (z:ν):∃ v,l[i]?=some (x,v)/\Ga l x z=v/\Rw l x=true/\l.findIdx? (fun p=>decide (p.1=x))=some i:=by
 have hi:i < l.length:=by
  have:=(aDw.1 h).1
  simpa using this
 have hx:l[i].1=x:=by
  rw [aLi,aAy hi] at h
  injection h
 have hf:l.findIdx? (fun p=>decide (p.1=x))=some i:=by
  rw [aJd]
  refine⟨hi,by rw [hx]; exact aAg rfl,fun j hjl=>?_⟩
  have hj':=hj j hjl
  rw [aLi,aAy (by omega)] at hj'
  simp only [aKi]
  intro e
  exact hj' (by rw [<- e]; rfl)
 refine⟨l[i].2,by rw [aAy hi,<- hx],?_,?_,hf⟩
 ·unfold Ga
  have:l.find? (fun p=>decide (p.1=x))=some l[i]:=by
   rw [List.find?_eq_some_iff_getElem]
   refine⟨by rw [hx]; exact aAg rfl,i,hi,rfl,fun j hjl=>?_⟩
   have hj':=hj j hjl
   rw [aLi,aAy (by omega)] at hj'
   simp only [aNb,decide_eq_false_iff_not]
   intro e
   exact hj' (by rw [<- e]; rfl)
  rw [this]
 ·exact aIi.2 ⟨l[i],List.getElem_mem hi,by rw [hx]; exact aAg rfl⟩
omit [DecidableEq κ] in
theorem gP {f:κ->Value} {g:ν->Value} {l:List (κ×ν)} {es:List MapEntry} (h:es.map (fun e=>(e.key,e.val))=Re f g l):es.map (·.key)=(l.map (·.1)).map f:=by
 have:=congrArg (List.map Prod.fst) h
 unfold Re at this
 rw [List.map_map,List.map_map] at this
 rw [List.map_map]
 exact this
omit [DecidableEq κ] in
theorem aEc {f:κ->Value} {g:ν->Value} {l:List (κ×ν)} {es:List MapEntry} (h:es.map (fun e=>(e.key,e.val))=Re f g l) {i:Nat} {e:MapEntry} {p:κ×ν} (h1:es[i]?=some e) (h2:l[i]?=some p):e.key=f p.1/\e.val=g p.2:=by
 have:=congrArg (fun q:List (Value×Value)=>q[i]?) h
 unfold Re at this
 simp only [aLi,h1,h2,aPe] at this
 injection this with this
 injection this with a b
 exact⟨a,b⟩
end
section
variable {P:Program} {w:World}
theorem gZ {κ ν:Type} [DecidableEq κ] {t kt vt:TypeId} {f:κ->Value} {g:ν->Value} {l:List (κ×ν)} {m:Nat} {x:κ} {z:ν} (ht:P.underlying t=some (.map kt vt)) (hK:aB P kt f) (hz:∀ w,(zeroValue vt).run P w=.ok (g z) w) (hm:T0 w m (Re f g l)) (ok:Bool) :
  (Instr.lookup t (.map (some m)) (f x) ok).run P w=.ok (bif ok then .tuple #[g (Ga l x z),.bool (Rw l x)] else g (Ga l x z)) w:=by
 obtain⟨es,h1,h2,h3,h4⟩:=hm
 obtain⟨r,hr,hs⟩:=hK.find x es.toList (l.map (·.1)) w (gP h2)
 simp only [Instr.lookup,Sem.run_bind,run_underlying ht,Result.andThen_ok,Go.MapKept.run_getObj_map h1,Sem.run_pure,hK.chk,hr]
 cases r with
 | none=>
  obtain⟨q1,q2,-⟩:=cM hs z
  rw [q1,q2]
  simp only [Sem.run_bind,hz,Result.andThen_ok,Sem.run_pure]
  cases ok <;> rfl
 | some q=>
  obtain⟨i,v⟩:=q
  obtain⟨e,e1,rfl,e2,e3,e4⟩:=hs
  obtain⟨v,q0,q1,q2,-⟩:=cO e3 e4 z
  have:=aEc h2 e1 q0
  rw [q1,q2,this.2]
  cases ok <;> rfl
theorem Rp (r:Nat) (o:Obj):(setBlock w r o).heap.size=w.heap.size:=by simp [setBlock]
theorem Qu {r b:Nat} (o:Obj) (h:b≠r):(setBlock w r o).heap[b]?=w.heap[b]?:=by
 simp [setBlock,aNw,Ne.symm h]
theorem Ny {r:Nat} {o o':Obj} (h:w.heap[r]?=some o'):(setBlock w r o).heap[r]?=some o:=by
 have:=(aHe.1 h).1
 simp [setBlock,aNw,this]
theorem yX {κ ν:Type} [DecidableEq κ] {t kt vt:TypeId} {f:κ->Value} {g:ν->Value} {l:List (κ×ν)} {m:Nat} {x:κ} {v:ν} (ht:P.underlying t=some (.map kt vt)) (hK:aB P kt f) (hm:T0 w m (Re f g l)) (hkx:E4 (f x)=true) (hgv:E4 (g v)=true) :
  ∃ es,(Instr.mapUpdate t (.map (some m)) (f x) (g v)).run P w=.ok () (setBlock w m (.map es es.size))/\T0 (setBlock w m (.map es es.size)) m (Re f g (Kg l x v)):=by
 obtain⟨es,h1,h2,h3,h4⟩:=hm
 obtain⟨r,hr,hs⟩:=hK.find x es.toList (l.map (·.1)) w (gP h2)
 have hlen:es.size=l.length:=by
  have:=congrArg List.length h2
  simpa [Re] using this
 cases r with
 | none=>
  obtain⟨q1,q2,q3⟩:=cM (l:=l) hs v
  refine⟨es.push { key:=f x,val:=g v,born:=es.size },?_,?_⟩
  ·simp only [Instr.mapUpdate,Sem.run_bind,run_underlying ht,Result.andThen_ok,Go.MapKept.run_getObj_map h1,hK.chk,hr,Go.MapKept.run_setObj_map _ h1,Array.size_push]
   rfl
  ·refine⟨_,Ny h1,?_,fun i e hi=>?_,fun p hp=>?_⟩
   ·unfold Kg
    rw [q3]
    simp only [Array.toList_push,aOk,h2,aLx,List.map_nil]
    unfold Re
    rw [aOk]
    rfl
   ·rw [Array.getElem?_push] at hi
    split at hi
    ·injection hi with hi
     subst hi
     rename_i h; exact h.symm
    ·exact h3 i e hi
   ·unfold Kg at hp
    rw [q3] at hp
    unfold Re at hp
    rw [aOk] at hp
    rcases aH5.1 hp with hp | hp
    ·exact h4 p hp
    ·rw [aLx,List.map_nil,aEp] at hp
     subst hp
     exact⟨hkx,hgv⟩
 | some q=>
  obtain⟨i,v0⟩:=q
  obtain⟨e,e1,rfl,e2,e3,e4⟩:=hs
  obtain⟨v1,q0,-,-,q3⟩:=cO e3 e4 v
  have hi:i < es.size:=by
   have:=(aDw.1 e1).1
   simpa using this
  have e1':es[i]?=some e:=by rw [<- aNt]; exact e1
  refine⟨es.modify i fun e=>{ e with key:=f x,val:=g v },?_,?_⟩
  ·have hst:(Instr.keyThatStays (((es[i]?).map (·.key)).getD (f x)) (f x)).run P w=.ok (f x) w:=by
    rw [e1']
    simp only [aPe,Option.getD_some,e2,Instr.keyThatStays,hK.same,if_true]
    rfl
   simp only [Instr.mapUpdate,Sem.run_bind,run_underlying ht,Result.andThen_ok,Go.MapKept.run_getObj_map h1,hK.chk,hr,hst,Go.MapKept.run_setObj_map _ h1,Array.size_modify]
   rfl
  ·have hlist:(es.modify i fun e=>{ e with key:=f x,val:=g v }).toList.map (fun e=>(e.key,e.val))=Re f g (Kg l x v):=by
    unfold Kg
    rw [q3]
    apply List.ext_getElem?
    intro j
    have hj:=congrArg (fun q:List (Value×Value)=>q[j]?) h2
    simp only [aLi] at hj
    unfold Re at hj ⊢
    rw [aLi,aLi,aNt,aP1,List.getElem?_set]
    rw [aLi,aNt] at hj
    by_cases hij:i=j
    ·subst hij
     rw [if_pos rfl,if_pos rfl,if_pos (by omega),e1']
     rfl
    ·rw [if_neg hij,if_neg hij]
     exact hj
   refine⟨_,Ny h1,hlist,fun j e' hj=>?_,fun p hp=>?_⟩
   ·rw [aP1] at hj
    split at hj
    ·rename_i hij
     subst hij
     rw [e1'] at hj
     injection hj with hj
     subst hj
     exact h3 i e e1'
    ·exact h3 j e' hj
   ·unfold Kg at hp
    rw [q3] at hp
    unfold Re at hp
    obtain⟨q,hq,rfl⟩:=aIk.1 hp
    rcases aPl hq with hq | rfl
    ·exact h4 _ (aIk.2 ⟨q,hq,rfl⟩)
    ·exact⟨hkx,hgv⟩
end
def Sr (k0:Nat) (lb:LB) (d:Option DV):Lz:=⟨d,fun k=>bif Nat.beq k k0 then some (some lb) else none⟩
section
variable {P:Program} {cx:Cx} {ρ:Nat->Value} {σ:St} {a:Act} {w w':World} {o:Oper} {K:Act->World->Prop} {Q:Exit->Act->World->Prop}
theorem fQ (ha:D7 cx ρ σ a w) (hdst:∀ t,o.dst=some t->t < cx.N) {k0:Nat} {lb lb':LB} {d:Option DV} {v:Value} (hL:σ.L k0=some lb) (hrun:(execOp a.eval o).run P w=.ok .skip w'/\v=undef\/(execOp a.eval o).run P w=.ok (.value v) w')
  (hw:w'.os=w.os/\w'.tape=w.tape/\w'.output=w.output/\w'.heap.size=w.heap.size) (hb:∀ b,¬ own ρ (ρ k0) lb b->w'.heap[b]?=w.heap[b]?)
  (hnew:∀ I':Nat->Prop,(∀ b,K5 cx σ ρ w b->I' b/\w'.heap[b]?=w.heap[b]?)->Q5 cx ρ I' w' (ρ k0) lb'/\∀ x,d=some x->Cp ρ I' w' x v) (hu:(∀ k',Oj lb' k'->σ.U k'=true)/\∀ x k',d=some x->men x k'->σ.U k'=true)
  (hK:∀ a' w',I8 cx (σ.app o.dst (Sr k0 lb' d)) a' w'->K a' w') (hlb:∀ b,own ρ (ρ k0) lb' b->own ρ (ρ k0) lb b:=by exact fun _ h=>h):o.wp P a w K Q:=by
 have hl:∀ k lb1,(Sr k0 lb' d).l k=some (some lb1)->k=k0/\lb1=lb':=fun k lb1 h=>by
  have h':(bif Nat.beq k k0 then some (some lb') else none)=some (some lb1):=h
  cases hb:Nat.beq k k0 with
  | true=>
   rw [hb] at h'
   injection h' with h'
   injection h' with h'
   exact⟨aEr hb,h'.symm⟩
  | false=>rw [hb] at h'; cases h'
 have hl0:(Sr k0 lb' d).l k0≠none:=by
  have:(Sr k0 lb' d).l k0=bif Nat.beq k0 k0 then some (some lb') else none:=rfl
  rw [this]; simp
 obtain⟨c1,c2,c3,c4,c5⟩:=ha.kept
 obtain⟨w1,w2,w3,w4⟩:=hw
 have key:I8 cx (σ.app o.dst (Sr k0 lb' d)) (a.put o.dst v) w':=by
  refine⟨ρ,ha.app (v:=v) ⟨w1.trans c1,w2.trans c2,w3.trans c3,by rw [w4]; exact c4,fun b hb' hM=>?_⟩ (by rw [w4]; exact aHy _) hdst (fun _ _=>rfl) (fun b _ h=>hb b fun e=>h k0 lb hl0 hL e) (fun k lb1 b h1 h2=>?_) (fun k k' lb1 lb2 b h1 h2 _ _=>by rw [(hl k lb1 h1).1,(hl k' lb2 h2).1]) (fun hI _=>?_) ⟨fun k lb1 k' h1 h2=>?_,fun d' k' h1 h2=>?_⟩ (fun k lb1 b h1 h2 h3=>by obtain⟨rfl,rfl⟩:=hl k lb1 h1; exact ha.fresh k lb b hL h2 (hlb b h3))⟩
  ·refine (hb b fun e=>?_).trans (c5 b hb' hM)
   rcases ((ha.lo k0 lb hL).blk e).2 with h | h
   ·omega
   ·exact hM h
  ·obtain⟨rfl,rfl⟩:=hl k lb1 h1
   exact .inr ⟨k,lb,hl0,hL,hlb b h2⟩
  ·obtain⟨n1,n2⟩:=hnew _ hI
   refine⟨fun k lb1 h=>?_,fun d' hd'=>n2 d' hd'⟩
   obtain⟨rfl,rfl⟩:=hl k lb1 h
   exact n1
  ·obtain⟨rfl,rfl⟩:=hl k lb1 h1
   exact .inl (hu.1 k' h2)
  ·exact .inl (hu.2 d' k' h1 h2)
 unfold Oper.wp
 rcases hrun with ⟨hrun,rfl⟩ | hrun
 ·rw [hrun]
  exact hK _ _ key
 ·rw [hrun]
  exact hK _ _ key
end
def pG (P:Program) (e:TypeId) (zc:List C):Prop:=∃ z ck,Zt P e z/\Gw ck (z.map DV.val) zc
def X9 (el:List (Nat×Option LB)) (d:Option DV):Lz:=⟨d,E5 el⟩
def tP (sz o p m:Nat):Prop:=∀ q,p<=q->q < p + m->q % sz≠o
inductive ExtR (P:Program) (np:Nat):Nat->Op->TypeId->List (DV×Option LB)->cK->List Nat->(Lz->Prop)->Prop
 | makeMap {tk t ty env}:ExtR P np tk (.makeMap t none) ty [] env [] (fun e=>e=M6 tk (.map []) (.row tk))
 | lookR {tk t x i ok ty env k b kd bk} {κ ν:Type} [DecidableEq κ] {kt vt:TypeId} {f:κ->Value} {g:ν->Value} {l:List (κ×ν)} {key:κ} {z:ν} (ht:P.underlying t=some (.map kt vt)) (hK:aB P kt f) (hz:∀ w,(zeroValue vt).run P w=.ok (g z) w) (hzk:E4 (g z)=true) (hm:(k,some (.map (Re f g l)))∈env) (hk:Kw kd=some (f key)) :
  ExtR P np tk (.lookup t x i ok) ty [(.row k,b),(kd,bk)] env [] (fun e=>e=v0 (bif ok then .tup [.val (g (Ga l key z)),.val (.bool (Rw l key))] else .val (g (Ga l key z))))
 | lookM {tk t x i ok ty env b kd bk} {κ ν:Type} [DecidableEq κ] {kt vt:TypeId} {f:κ->Value} {g:ν->Value} {l:List (κ×ν)} {key:κ} {z:ν} (ht:P.underlying t=some (.map kt vt)) (hK:aB P kt f) (hz:∀ w,(zeroValue vt).run P w=.ok (g z) w) (hzk:E4 (g z)=true) (hk:Kw kd=some (f key)) :
  ExtR P np tk (.lookup t x i ok) ty [(.mp (Re f g l),b),(kd,bk)] env [] (fun e=>e=v0 (bif ok then .tup [.val (g (Ga l key z)),.val (.bool (Rw l key))] else .val (g (Ga l key z))))
 | put {tk t x y y' ty env k b kd bk vd bv} {κ ν:Type} [DecidableEq κ] {kt vt:TypeId} {f:κ->Value} {g:ν->Value} {l:List (κ×ν)} {key:κ} {v:ν} (ht:P.underlying t=some (.map kt vt)) (hK:aB P kt f) (hm:(k,some (.map (Re f g l)))∈env) (hk:Kw kd=some (f key)) (hv:Kw vd=some (g v)) :
  ExtR P np tk (.mapUpdate t x y y') ty [(.row k,b),(kd,bk),(vd,bv)] env [k] (fun e=>e=Sr k (.map (Re f g (Kg l key v))) none)
 | range {tk t x ty env k b l} {kt vt:TypeId} (ht:P.underlying t=some (.map kt vt)) (hm:(k,some (.map l))∈env):ExtR P np tk (.range t x) ty [(.row k,b)] env [] (fun e=>e=M6 tk (.mit k l.length []) (.ptr tk 0))
 | next {tk x ty env j k b n seen l} (hj:(j,some (.mit k n seen))∈env) (hm:(k,some (.map l))∈env) (hn:n=l.length) :
  ExtR P np tk (.next x false) ty [(.ptr j 0,b)] env [j] (fun e=>((∀ i,i < n->i∈seen)/\e=Sr j (.mit k n seen) (some (.tup [.val (.bool false)])))\/∃ i p,l[i]?=some p/\i∉seen/\e=Sr j (.mit k n (seen ++ [i])) (some (.tup [.val (.bool true),.val p.1,.val p.2])))
 | entry {tk x ty env j k b n seen i l p} (hj:(j,some (.mit k n (seen ++ [i])))∈env) (hm:(k,some (.map l))∈env) (hn:n=l.length) (hp:l[i]?=some p) :
  ExtR P np tk (.entry x) ty [(.ptr j 0,b)] env [] (fun e=>e=v0 (.tup [.val p.1,.val p.2]))
 | clearP {tk t x ty env k off m b e sz bytes cs zc} (hS:Gl P t e sz bytes) (hz:pG P e zc) (hL:(k,some (.row e sz cs))∈env) (hl:off + m * sz<=cs.length) :
  ExtR P np tk (.call ⟨.builtin .clear,#[x],#[t]⟩) ty [(.part k off m,b)] env [k] (fun e'=>e'=Sr k (.row e sz (Cu cs off (List.replicate m zc).flatten)) (some (.tup [])))
 | copyR {tk t t' x y ty env k b d' e sz bytes cs cs' n} (hS:Gl P t e sz bytes) (hS':Gl P t' e sz bytes) (hL:(k,some (.row e sz cs))∈env) (hs:∃ b',d'=(DV.sl sz cs',b')) (hn:cs.length=n * sz) (hn':cs'.length=n * sz) :
  ExtR P np tk (.call ⟨.builtin .copy,#[x,y],#[t,t']⟩) ty [(.row k,b),d'] env [k] (fun e'=>e'=Sr k (.row e sz cs') (some (.val (.int .i64 (n:Int)))))
 | makeC {tk t x y ty env e sz bytes k k' n c b b' zc} {m:Nat} (hS:Gl P t e sz bytes) (hz:pG P e zc) (hn:n=(m:Int)) {cap:Nat} (hc:c=(cap:Int)) (hlt:m<=cap) (hxy:x≠y) (hm:cap * bytes<=140737488355328/\cap<=1000000) :
  ExtR P np tk (.makeSlice t x y) ty [(.val (.int k n),b),(.val (.int k' c),b')] env [] (fun e'=>e'=M6 tk (.row e sz (List.replicate m zc).flatten) (.row tk))
 | appZ {tk t tn x y ty env e sz bytes k kn n b b' zc} {m:Nat} (hS:Gl P t e sz bytes) (htn:P.underlying tn=some (.int kn)) (hz:pG P e zc) (hn:n=(m:Int)) (h0:0 < m) (hm:m * bytes<=140737488355328/\m<=1000000) :
  ExtR P np tk (.call ⟨.builtin .append,#[x,y],#[t,tn]⟩) ty [(.val (.slice none 0 0),b),(.val (.int k n),b')] env [] (fun e'=>e'=M6 tk (.row e sz (List.replicate m zc).flatten) (.row tk))
 | buildV {tk t len parts ty ds env e bytes z r} (hS:Gl P t e 1 bytes) (hz:Zt P e z) (hlen:len * 1<=16777216) (hd:Gt (fun i=>some (i * 1,1)) ((List.replicate len (z.map DV.val)).flatten) ((parts.toList.map (·.1)).zip (ds.map (·.1)))=some r) (hoc:ds.all (fun q=>(Co q.1).all Tv)=true) (h0:0 < len) {pl:List (Nat×DV)} {pi f n:Nat} {pc:List DV} (hl:(parts.toList.map (·.1)).zip (ds.map (·.1))=pl ++ [(pi,.clo f n pc)]) :
  ExtR P np tk (.buildSlice t len parts) ty ds env [] (fun e'=>e'=M6 tk (.vec r e) (.row tk))
 | extV {tk f xs tys ty dsA env vs v} (hd:Pp (dsA.map (·.1))=some vs) (hv:(∀ u∈vs,E4 u=true)->E4 v=true) (h:∀ w,(callFunc f vs.toArray).run P w=.ok (.value v) w) :
  ExtR P np tk (.call ⟨.value (.func f),xs,tys⟩) ty ((.val (.func (.func f) #[] #[]),none) :: dsA) env [] (fun e=>e=v0 (.val v))
 | lenV {tk t x ty env k ds e bytes} (hS:Gl P t e 1 bytes):ExtR P np tk (.call ⟨.builtin .len,#[x],#[t]⟩) ty [(.row k,some (.vec ds e))] env [] (fun e'=>e'=v0 (.val (.int .i64 (ds.length:Int))))
 | idxV {tk t x i ty env k ds e bytes kk b n} {j:Nat} (hS:Gl P t e 1 bytes) (hj:n=(j:Int)) (hl:j < ds.length):ExtR P np tk (.indexAddr t x i) ty [(.row k,some (.vec ds e)),(.val (.int kk n),b)] env [] (fun e'=>e'=v0 (.ptr k j))
 | storeT {tk t x y ty env k p e sz o e2 sz2 s hh cs z ag d b cs'} (ht:Ty P t ag z) (hs:(Co d).length=z) (hi:p + z<=cs.length) (hf:tP sz o p z) {ck:List (Option Nat)} (hd:Gw ck (Co d) cs') (hk:k∈env.map (·.1)):ExtR P np tk (.store t x y) ty [(.ptr k p,some (.tree e sz o e2 sz2 s hh cs)),(d,b)] env [k] (fun e'=>e'=Sr k (.tree e sz o e2 sz2 s hh (Cu cs p cs')) none)
 | storeN {tk t x y ty env k s i p e sz o e2 sz2 cs z ag d b cs' c2} (ht:Ty P t ag z) (hc:cs[i * sz + o]?=some (.sl sz2 c2)) (hs:(Co d).length=z) (hi:p + z<=c2.length) {ck:List (Option Nat)} (hd:Gw ck (Co d) cs') (hk:k∈env.map (·.1)):ExtR P np tk (.store t x y) ty [(.npt k s i p,some (.tree e sz o e2 sz2 s none cs)),(d,b)] env [k] (fun e'=>e'=Sr k (.tree e sz o e2 sz2 s none (cs.set (i * sz + o) (.sl sz2 (Cu c2 p cs')))) none)
 | appN {tk x y t ty env k s i e sz o e2 sz2 cs c2 bytes d' cs'} (hS:Gl P t e2 sz2 bytes) (hc:cs[i * sz + o]?=some (.sl sz2 c2)) (hs:bC d' sz2 cs') (hl:(c2.length + cs'.length) * bytes<=140737488355328) (hk:k∈env.map (·.1)) (hnp:Nat.ble np k=true) :
  ExtR P np tk (.call ⟨.builtin .append,#[x,y],#[t,t]⟩) ty [(.nst k s i,some (.tree e sz o e2 sz2 s none cs)),d'] env [k] (fun e'=>e'=X9 [(tk,some (.row e2 sz2 (c2 ++ cs'))),(k,some (.tree e sz o e2 sz2 s (some i) cs))] (some (.row tk)))
 | stoH {tk t x y ty env k p s i e sz o e2 sz2 cs c2 j} (ht:Ty P t false 1) (hp:p=i * sz + o) (hl:p < cs.length) (hk:k∈env.map (·.1)) (hj:j∈env.map (·.1)) (hnp:Nat.ble np k=true) (hnj:Nat.ble np j=true) :
  ExtR P np tk (.store t x y) ty [(.ptr k p,some (.tree e sz o e2 sz2 s (some i) cs)),(.row j,some (.row e2 sz2 c2))] env [k,j] (fun e'=>e'=X9 [(k,some (.tree e sz o e2 sz2 tk none (cs.set p (.sl sz2 c2)))),(tk,some .gho),(j,none)] none)
 | buildT {tk t ty env x d b e sz o e2 sz2 bytes z r pre post ck1 ck2 c1 c2 c3 j} (hS:Gl P t e sz bytes) (hz:Zt P e z) (hlen:1 * sz<=16777216) (hd:Gt (fun i=>some (i * sz,sz)) ((List.replicate 1 (z.map DV.val)).flatten) [(0,d)]=some r) (hoc:(Co d).all Tv=true)
  (hr:r=pre ++ .row j :: post) (ho:pre.length=o) (h1:Gw ck1 pre c1) (h3:Gw ck2 post c3) (hj:(j,some (.row e2 sz2 c2))∈env) (hnp:Nat.ble np j=true) :
  ExtR P np tk (.buildSlice t 1 #[(0,x)]) ty [(d,b)] env [j] (fun e'=>e'=X9 [(tk,some (.tree e sz o e2 sz2 (tk + 1) none (c1 ++ .sl sz2 c2 :: c3))),(tk + 1,some .gho),(j,none)] (some (.row tk)))
 | appT {tk x y t ty env k s k' s' e sz o e2 sz2 cs cs' bytes} (hS:Gl P t e sz bytes) (hk:k∈env.map (·.1)) (hk':k'∈env.map (·.1)) (hne:Nat.beq k k'=false) (hl:(cs.length + cs'.length) * bytes<=140737488355328) (hnp:Nat.ble np k=true) (hnp':Nat.ble np k'=true) :
  ExtR P np tk (.call ⟨.builtin .append,#[x,y],#[t,t]⟩) ty [(.row k,some (.tree e sz o e2 sz2 s none cs)),(.row k',some (.tree e sz o e2 sz2 s' none cs'))] env [k,k'] (fun e'=>e'=X9 [(tk,some (.tree e sz o e2 sz2 (tk + 1) none (cs ++ cs'))),(tk + 1,some .gho),(k,none),(k',none)] (some (.row tk)))
 | loadV {tk t x ty env k i ds e sz d} (ht:Ty P t false sz) (hd:ds[i]?=some d):ExtR P np tk (.load t x) ty [(.ptr k i,some (.vec ds e))] env [] (fun e'=>e'=v0 d)
section
variable {P:Program} {cx:Cx} {ρ:Nat->Value} {σ:St} {a:Act} {w w':World} {o:Oper} {K:Act->World->Prop} {Q:Exit->Act->World->Prop}
theorem L8 {α:Type} (l xs:List α) (i:Nat) (h:i + xs.length<=l.length):(Cu l i xs).length=l.length:=by
 unfold Cu
 simp only [aEq,aGn,aH1]
 omega
theorem jW {α:Type} (l:List α) (i:Nat):Cu l i []=l:=by
 unfold Cu
 simp
theorem W5 {I:Nat->Prop} {v:Value} {e s i g:Nat} {cs cs':List C} {us':List Value} (hw:Q5 cx ρ I w v (.row e s cs)) (G:Dd v=some g) (hr':Fl w I cs' us') (h1:∀ u∈us',u.oneCell'=true) (hi:i + cs'.length<=cs.length) :
  ∃ X:Array Value,(storeCells ⟨g,i,none⟩ us').run P w=.ok () (w.setRow g X)/\∀ I':Nat->Prop,(∀ b,I b->I' b/\(w.setRow g X).heap[b]?=w.heap[b]?)->Q5 cx ρ I' (w.setRow g X) v (.row e s (Cu cs i cs')):=by
 obtain⟨n,us,hw,hM,hr⟩:=hw
 rcases hw.2 with ⟨A0,q1,-⟩ | ⟨g',cap,cur,q1,q2,q3,q4,q5,q6,q7⟩
 ·rw [q1] at G; cases A0 <;> cases G
 ·have hgg:g'=g:=by rw [q1] at G; exact (E7 G).1
  subst hgg
  have hul:us.length=n * s:=hw.1
  have hcl:cs.length=us.length:=hr.1
  have hcl':cs'.length=us'.length:=hr'.1
  have hn:n * s<=cap * s:=aIw _ q4
  have hrun:=run_storeCells_at P g' i e us' 0 cur w q3 (by omega) h1
  simp only [aQa] at hrun
  refine⟨_,hrun,fun I' hI=>?_⟩
  have hlen:∀ {α:Type} (l xs:List α),i + xs.length<=l.length->(Cu l i xs).length=l.length:=fun l xs h=>L8 l xs i h
  have hcur:cur.toList.length=cap * s:=by simpa using q6
  refine⟨n,Cu us i us',⟨by rw [hlen us us' (by omega)]; exact hul,.inr ⟨g',cap,(Cu cur.toList i us').toArray,q1,q2,setRow_heap w g' _ _ e (0,0) q3,q4,q5,?_,?_⟩⟩,hM,?_⟩
  ·simp only [aPv]
   rw [hlen cur.toList us' (by omega)]
   simpa using q6
  ·unfold Cu
   have e3:us.take i=cur.toList.take i:=by rw [<- q7,aPy]; congr 1; omega
   have e4:us.drop (i + us'.length)=(cur.toList.drop (i + us'.length)).take (n * s - (i + us'.length)):=by rw [<- q7,List.drop_take]
   rw [e3,e4]
   rw [aPa,aHx (by simp only [aEq,aGn]; omega)]
   congr 1
   congr 1
   simp only [aEq,aGn]
   omega
  ·exact (hr.splice hr' i).keep_ (fun b hb=>(hI b hb).2) fun b hb=>(hI b hb).1
theorem Vl {t:TypeId} {ag:Bool} {z:Nat} (ht:Ty P t ag z) {e sz n g p:Nat} {v v':Value} {us us':List Value} (ho:w.rowOk e sz v n us) (G:Dd v=some g) (hv:v'.cells.toList=us') (hl:us'.length=z) (hi:p + z<=us.length) (h1:∀ u∈us',u.oneCell'=true) :
  ∃ X,(Instr.storeAt t (.pointer (some ⟨g,p,none⟩)) v').run P w=.ok () (w.setRow g X)/\(w.setRow g X).rowOk e sz v n (Cu us p us'):=by
 rcases ho.2 with ⟨A0,q1,-⟩ | ⟨g',cap,cur,q1,q2,q3,q4,q5,q6,q7⟩
 ·rw [q1] at G; cases A0 <;> cases G
 ·have hgg:g'=g:=by rw [q1] at G; exact (E7 G).1
  subst hgg
  have hul:us.length=n * sz:=ho.1
  have hn:n * sz<=cap * sz:=aIw _ q4
  have hrun:=Vv (P:=P) (w:=w) ht (i:=p) q3 hv hl (by omega) h1
  refine⟨_,hrun,by rw [L8 us us' p (by omega)]; exact hul,.inr ⟨g',cap,(Cu cur.toList p us').toArray,q1,q2,setRow_heap w g' _ _ e (0,0) q3,q4,q5,?_,?_⟩⟩
  ·simp only [aPv]
   rw [L8 cur.toList us' p (by simp; omega)]
   simpa using q6
  ·have hcur:cur.toList.length=cap * sz:=by simpa using q6
   unfold Cu
   have e3:us.take p=cur.toList.take p:=by rw [<- q7,aPy]; congr 1; omega
   have e4:us.drop (p + us'.length)=(cur.toList.drop (p + us'.length)).take (n * sz - (p + us'.length)):=by rw [<- q7,List.drop_take]
   rw [e3,e4]
   rw [aPa,aHx (by simp only [aEq,aGn]; omega)]
   congr 1
   congr 1
   simp only [aEq,aGn]
   omega
theorem Qn {α:Type} {l xs:List α} {i j:Nat} (h:i + xs.length<=l.length) (hj:j < i\/i + xs.length<=j):(Cu l i xs)[j]?=l[j]?:=by
 unfold Cu
 rcases hj with hj | hj
 ·rw [aJb,aFm (by simp; omega),aH3,if_pos hj]
 ·rw [aF4 (by simp; omega),aH7]
  congr 1
  simp
  omega
theorem Qb.flatW {I:Nat->Prop} {v:Value} {e sz o e2 sz2 s hh cs n us vs} (q:Qb cx ρ I w v e sz o e2 sz2 s hh cs n us vs) {g p:Nat} {cs':List C} {us':List Value} (G:Dd v=some g) {X:Array Value} (ho:(w.setRow g X).rowOk e sz v n (Cu us p us')) (hr:Fl w I cs' us') (hi:p + cs'.length<=cs.length) (hf:tP sz o p cs'.length)
  {I':Nat->Prop} (hI:∀ b,I b->I' b/\(w.setRow g X).heap[b]?=w.heap[b]?):Qb cx ρ I' (w.setRow g X) v e sz o e2 sz2 s hh (Cu cs p cs') n (Cu us p us') vs:=by
 have hl:=hr.1
 have hl2:=q.hl
 refine⟨q.ho,q.hs,ho,q.hn,by rw [L8 _ _ _ hi,L8 _ _ _ (by omega)]; exact q.hl,q.hM,fun j c u hj hu hjo=>?_,fun i u a b=>?_,q.dist⟩
 ·by_cases hin:p<=j/\j < p + cs'.length
  ·have e1:(Cu cs p cs')[j]?=cs'[j - p]?:=by
    unfold Cu
    rw [aJb,aF4 (by simp; omega),aFm (by simp; omega)]
    congr 1
    simp; omega
   have e2:(Cu us p us')[j]?=us'[j - p]?:=by
    unfold Cu
    rw [aJb,aF4 (by simp; omega),aFm (by simp; omega)]
    congr 1
    simp; omega
   rw [e1] at hj
   rw [e2] at hu
   exact El.keep_ (fun b hb=>(hI b hb).2) (fun b hb=>(hI b hb).1) _ _ (hr.2 _ c u hj hu)
  ·rw [Qn hi (by omega)] at hj
   rw [Qn (by omega) (by omega)] at hu
   exact El.keep_ (fun b hb=>(hI b hb).2) (fun b hb=>(hI b hb).1) _ _ (q.flat j c u hj hu hjo)
 ·obtain⟨q0,n2,us2,c2,q1,q2,q3,q4⟩:=q.nest i u a b
  have hmod:(i * sz + o) % sz=o:=by rw [aOt,aPp]; exact aLg q.ho
  have hout:i * sz + o < p\/p + cs'.length<=i * sz + o:=by
   rcases aL2 (i * sz + o) p with h | h
   ·exact .inl h
   ·rcases aL2 (i * sz + o) (p + cs'.length) with h2 | h2
    ·exact absurd hmod (hf _ h h2)
    ·exact .inr h2
  refine⟨by rw [Qn (by omega) (by omega)]; exact q0,n2,us2,c2,by rw [Qn hi hout]; exact q1,Hh q2 fun b hb=>Fo w g b X fun e=>(q4 b hb).2 (by rw [e]; exact G),q3.keep_ (fun b hb=>(hI b hb).2) fun b hb=>(hI b hb).1,q4⟩
theorem Qb.nestW {I:Nat->Prop} {v:Value} {e sz o e2 sz2 s cs n us vs} (q:Qb cx ρ I w v e sz o e2 sz2 s none cs n us vs) {g i n2:Nat} {u:Value} {us2:List Value} {c2:List C} (hu:vs[i]?=some u) (G:Dd u=some g) {X:Array Value} (ho:(w.setRow g X).rowOk e2 sz2 u n2 us2)
  {I':Nat->Prop} (hI:∀ b,I b->I' b/\(w.setRow g X).heap[b]?=w.heap[b]?) (hr:Fl (w.setRow g X) I' c2 us2):Qb cx ρ I' (w.setRow g X) v e sz o e2 sz2 s none (cs.set (i * sz + o) (.sl sz2 c2)) n us vs:=by
 have hmod:∀ i,(i * sz + o) % sz=o:=fun i=>by rw [aOt,aPp]; exact aLg q.ho
 obtain⟨p0,_,_,c0,p1,p2,p3,p4⟩:=q.nest i u hu (by simp)
 refine⟨q.ho,q.hs,Hh q.row fun b hb=>Fo w g b X fun e=>(p4 g G).2 (by rw [<- e]; exact hb),q.hn,by rw [aOc]; exact q.hl,q.hM,fun j c u' hj hu' hjo=>?_,fun j u' a b=>?_,q.dist⟩
 ·rw [aL1 (fun e=>hjo (by rw [<- e]; exact hmod i))] at hj
  exact El.keep_ (fun b hb=>(hI b hb).2) (fun b hb=>(hI b hb).1) _ _ (q.flat j c u' hj hu' hjo)
 ·by_cases hij:j=i
  ·subst hij
   rw [hu] at a
   injection a with a
   subst a
   exact⟨p0,n2,us2,c2,aMb (aDw.1 p1).1,ho,hr,p4⟩
  ·obtain⟨q0,n3,us3,c3,q1,q2,q3,q4⟩:=q.nest j u' a b
   have hsz:0 < sz:=aOx (aFf _) q.ho
   refine⟨q0,n3,us3,c3,by rw [aL1 (fun e=>hij (aGu hsz (aP7 e)).symm)]; exact q1,Hh q2 fun b hb=>Fo w g b X fun e=>?_,q3.keep_ (fun b hb=>(hI b hb).2) fun b hb=>(hI b hb).1,q4⟩
   exact hij (q.dist j i u' u g a hu (by simp) (by simp) (by rw [<- e]; exact hb) G)
theorem qL {κ ν:Type} [DecidableEq κ] {f:κ->Value} {g:ν->Value} {l:List (κ×ν)} {key:κ} {z:ν} {m:Nat} (hm:T0 w m (Re f g l)) (hz:E4 (g z)=true):E4 (g (Ga l key z))=true:=by
 unfold Ga
 cases hf:l.find? fun p=>decide (p.1=key) with
 | none=>exact hz
 | some p=>
  obtain⟨es,-,-,-,h4⟩:=hm
  exact (h4 _ (aIk.2 ⟨p,List.mem_of_find?_eq_some hf,rfl⟩)).2
theorem fK {I:Nat->Prop} {x y:Value} (hx:E4 x=true) (hy:E4 y=true):Cp ρ I w (.tup [.val x,.val y]) (.tuple #[x,y]):=by
 unfold Cp
 refine⟨[x,y],rfl,?_⟩
 unfold Cb
 refine⟨x,[y],rfl,Je hx,?_⟩
 unfold Cb
 refine⟨y,[],rfl,Je hy,?_⟩
 unfold Cb
 rfl
theorem uJ {I:Nat->Prop} {x y z:Value} (hx:E4 x=true) (hy:E4 y=true) (hz:E4 z=true):Cp ρ I w (.tup [.val x,.val y,.val z]) (.tuple #[x,y,z]):=by
 unfold Cp
 refine⟨[x,y,z],rfl,?_⟩
 unfold Cb
 refine⟨x,[y,z],rfl,Je hx,?_⟩
 unfold Cb
 refine⟨y,[z],rfl,Je hy,?_⟩
 unfold Cb
 refine⟨z,[],rfl,Je hz,?_⟩
 unfold Cb
 rfl
theorem qK {I:Nat->Prop} {x:Value} (hx:E4 x=true):Cp ρ I w (.tup [.val x]) (.tuple #[x]):=by
 unfold Cp
 refine⟨[x],rfl,?_⟩
 unfold Cb
 refine⟨x,[],rfl,Je hx,?_⟩
 unfold Cb
 rfl
theorem N8:∀ (l:List Value) (k:Nat),men (.tup (l.map DV.val)) k->False:=fun l k h=>Ma l k (by unfold men at h; exact h)
theorem uS {e sz:Nat} {zc:List C} (h:pG P e zc) {t bytes:Nat} (hS:Gl P t e sz bytes) (w:World) (I:Nat->Prop) (m:Nat):∃ z:Value,(zeroValue e).run P w=.ok z w/\z.cells.size=sz/\zc.length=sz/\Fl w I (List.replicate m zc).flatten (List.replicate m z.cells.toList).flatten/\(∀ u∈z.cells.toList,u.oneCell'=true)/\(∃ it,P.info? e=some it/\it.zero=some z/\it.size=sz/\it.bytes=bytes):=by
 obtain⟨z,ck,hz,hd⟩:=h
 obtain⟨it,zv,z1,z2,z3,z4⟩:=hz.get
 obtain⟨it',zv',y1,y2,y3,y4,y5⟩:=hS.hi
 rw [z1] at y1
 injection y1 with y1
 subst y1
 rw [z2] at y2
 injection y2 with y2
 subst y2
 have hr:Fl w I zc z:=Gw.rd (ρ:=fun _=>.nilFunc) hd (Cb.ofVals _ fun u hu=>(z4 u hu).2)
 have hl:zc.length=sz:=by rw [hr.1,<- z3]; simpa using y5
 refine⟨zv,by simp [zeroValue,typeInfo,z1,z2],y5,hl,?_,fun u hu=>(z4 u (by rw [<- z3]; exact hu)).1,it,z1,z2,y3,y4⟩
 rw [z3]
 induction m with
 | zero=>exact⟨rfl,fun j c u h _=>by simp at h⟩
 | succ m ih=>
  rw [aLr,aLr,aOu,aOu]
  exact hr.append ih
theorem sU {t e:TypeId} {len bytes tk:Nat} {parts:Array (Nat×Operand)} {ds:List (DV×Option LB)} {z:List Value} {r:List DV} {tc:Bool} (hS:Gl P t e 1 bytes) (hz:Zt P e z) (hlen:len * 1<=16777216)
  (hd:Gt (fun i=>some (i * 1,1)) ((List.replicate len (z.map DV.val)).flatten) ((parts.toList.map (·.1)).zip (ds.map (·.1)))=some r) (h0:0 < len) (hoc:ds.all (fun q=>(Co q.1).all Tv)=true)
  (ha:D7 cx ρ σ a w) (hds:Ef σ tc (parts.toList.map (·.2))=some ds) (ho:o.op=.buildSlice t len parts) (hf:σ.U tk=false) (hdst:∀ t,o.dst=some t->t < cx.N) (hK:∀ a' w',I8 cx (σ.app o.dst (M6 tk (.vec r e) (.row tk))) a' w'->K a' w'):o.wp P a w K Q:=by
 obtain⟨hr,hm⟩:=Mi ha hds
 obtain⟨it,zv,z1,z2,z3,z4⟩:=hz.get
 obtain⟨it',zv',y1,y2,y3,y4,y5⟩:=hS.hi
 rw [z1] at y1
 injection y1 with y1
 subst y1
 rw [z2] at y2
 injection y2 with y2
 subst y2
 have hsz:=hS.hsz
 rw [Sk] at hd
 have hone:∀ u∈(List.replicate len z).flatten,u.oneCell'=true:=fun u hu=>by
  obtain⟨l,h1,h2⟩:=aOq.1 hu
  rw [(aNx.1 h1).2] at h2
  exact (z4 u h2).1
 have hok0:∀ u∈(List.replicate len z).flatten,E4 u=true:=fun u hu=>by
  obtain⟨l,h1,h2⟩:=aOq.1 hu
  rw [(aNx.1 h1).2] at h2
  exact (z4 u h2).2
 obtain⟨rs,r1,r2,r3⟩:=Pa (place:=fun i=>some (i * 1,1)) (parts.toList.map (·.1)) _ _ _ ((List.replicate len z).flatten) r hr (fun d hd'=>by
  obtain⟨q,hq,rfl⟩:=aIk.1 hd'
  exact aHf.1 hoc q hq) (Cb.ofVals _ hok0) hone hd
 have hrun:(Instr.buildSlice t len (parts.map fun (i,x)=>(i,a.eval x))).run P w=.ok (.slice (some ⟨w.heap.size,0,none⟩) len len) (w.alloc (.cells rs.toArray e)):=by
  have e1:(parts.map fun (i,x)=>(i,a.eval x)).toList=(parts.toList.map (·.1)).zip ((parts.toList.map (·.2)).map a.eval):=by
   rw [<- R8]; simp
  have e3:((Array.range (len * 1)).map (zv.cells[· % zv.cells.size]!))=((List.replicate len z).flatten).toArray:=by
   rw [<- z3,<- L9 zv.cells len 1 y5 hsz]
  by_cases h0':len * 1=0
  ·have hl0:len=0:=by
    rcases aPo.1 h0' with h | h
    ·exact h
    ·omega
   subst hl0
   have r1':Instr.fill (fun i=>some (i * 1,1)) #[] (parts.map fun (i,x)=>(i,a.eval x)).toList=some rs.toArray:=by
    rw [e1]; simpa using r1
   have hs0:=hS.size (w:=w)
   generalize (parts.map fun (i,x)=>(i,a.eval x))=pp at r1' ⊢
   have hn0:((Array.range (0 * 1)).map ((#[]:Array Value)[· % (#[]:Array Value).size]!))=#[]:=by
    rw [aOz]; simp
   simp only [Instr.buildSlice,Sem.run_bind,run_underlying hS.ht,Result.andThen_ok,hs0,aOz]
   rw [if_neg (by omega)]
   simp only [if_true,Sem.run_pure,Result.andThen_ok,Sem.run_bind]
   rw [aOz] at hn0
   rw [hn0,r1']
   simp [newRow]
  ·refine run_buildSlice w t e len _ rs.toArray it zv hS.ht z1 z2 (by rw [y3]; omega) (by rw [y3]; exact h0') ?_
   rw [y3,e3,e1]
   exact r1
 have hrl:rs.length=len * 1:=by
  have hdl:∀ (ps:List (Nat×DV)) (ds r:List DV),Gt (fun i=>some (i * 1,1)) ds ps=some r->r.length=ds.length:=by
   intro ps
   induction ps with
   | nil=>intro ds r h; unfold Gt at h; injection h with h; rw [h]
   | cons p ps ih=>
    intro ds r h
    obtain⟨i,d⟩:=p
    unfold Gt at h
    simp only [] at h
    cases hb:(Nat.beq (Co d).length 1 && Nat.ble (i * 1 + 1) ds.length) with
    | false=>rw [hb] at h; cases h
    | true=>
     rw [hb] at h
     rw [aEs] at hb
     have b1:=aEr hb.1
     have b2:=aEn hb.2
     rw [ih _ _ h]
     unfold Cu
     simp only [aEq,aGn,aH1]
     omega
  rw [<- r2.length,hdl _ _ _ hd,aPf]
  have hzl:z.length=1:=by rw [<- z3]; simpa using y5
  simp [hzl]
 have hmr:∀ k,Ft r k->σ.U k=true:=fun k hk=>by
  rcases Ps hd hk with h | ⟨p,h1,h2⟩
  ·exact (Ma _ k h).elim
  ·obtain⟨q,hq,he⟩:=aIk.1 (List.of_mem_zip h1).2
   exact hm q hq k (by rw [he]; exact h2)
 rw [Qf] at hK
 have hrl':rs.length=len:=by rw [hrl]; omega
 refine Xn (lb:=.vec r e) (ks:=[]) (d:=.row tk) (w':=w.alloc (.cells rs.toArray e)) ha hdst hf (v:=.slice (some ⟨w.heap.size,0,none⟩) len len) (vn:=.slice (some ⟨w.heap.size,0,none⟩) len len) ?_ (ha.kept.alloc _) (by simp) (fun b hb _=>Below.heap_alloc w _ b hb) (fun b hb=>.inl (aO0 (E7 hb).1)) (fun I' hI=>⟨?_,?_⟩) ⟨fun k' hk'=>?_,fun k' hk'=>.inr (by unfold men at hk'; exact hk')⟩ (fun k' hk'=>by simp at hk') hK
 ·simp only [execOp,ho,Sem.run_bind,hrun,Result.andThen_ok,Sem.run_pure]
 ·refine⟨w.heap.size,rs,by rw [hrl'],⟨by omega,by unfold maxLen; omega⟩,heap_alloc_new w _,.inl ha.kept.2.2.2.1,r3,Cb.step hI _ _ (fun k hk=>?_) r2⟩
  unfold Gd
  split
  ·rename_i h
   subst h
   have:=hmr k hk
   rw [hf] at this; cases this
  ·rfl
 ·unfold Cp
  simp [Gd,Value.oneCell']
 ·exact hmr k' hk'
theorem bM {I:Nat->Prop}:∀ {ds:List DV} {vs us:List Value},Cb ρ I w ds us->Pp ds=some vs->∀ u∈vs,E4 u=true
 | [],vs,us,h,hd=>by
  unfold Pp at hd
  injection hd with hd
  subst hd
  simp
 | d :: ds,vs,us,h,hd=>by
  unfold Cb at h
  obtain⟨u,us',rfl,h1,h2⟩:=h
  unfold Pp at hd
  cases hv:Kw d with
  | none=>rw [hv] at hd; cases hd
  | some v=>
   cases hv':Pp ds with
   | none=>rw [hv,hv'] at hd; cases hd
   | some vs'=>
    rw [hv,hv'] at hd
    injection hd with hd
    subst hd
    intro x hx
    rcases aE7.1 hx with rfl | hx
    ·exact Cp.dval_ok h1 hv
    ·exact bM h2 hv' x hx
theorem sN {f:FuncId} {fn:Func} (hf:P.funcs[f]?=some fn) (hname:(fn.name == "runtime.NumGoroutine")=false) (hb:fn.body.isNone=true) (hn:Extern.findNext fn=none) (he:Extern.find fn=some Extern.BytealgIndexByte.indexByte) (s:ByteArray) (c:UInt8) (w:World) :
  (callFunc f [.string s,.int .u8 (c.toNat:Int)].toArray).run P w=.ok (.value (.int .i64 (eO s c))) w:=by
 rw [run_callFunc_extern hf hname hb hn he]
 have:=run_indexByte_string (P:=P) s (c.toNat:Int) w
 rw [show ([.string s,.int .u8 (c.toNat:Int)].toArray:Array Value)=#[.string s,.int .u8 (c.toNat:Int)] from rfl,this]
 have e1:((c.toNat:Int).toNat.toUInt8)=c:=by simp
 rw [e1]
 rfl
theorem yE {s:ByteArray} {c:UInt8} (h:∀ u∈[Value.string s,.int .u8 (c.toNat:Int)],E4 u=true):E4 (.int .i64 (eO s c))=true:=by
 have hs:=Oa.1 (h (.string s) (by simp))
 have e3:IntKind.i64.min=-9223372036854775808:=by decide
 have e4:IntKind.i64.max=9223372036854775807:=by decide
 have key:-1<=eO s c/\eO s c<=s.size:=by
  unfold eO
  cases hf:(List.range s.size).find? fun i=>s[i]! == c with
  | none=>exact⟨aO5 _,by show (-1:Int)<=_; omega⟩
  | some i=>
   have:=List.mem_of_find?_eq_some hf
   rw [aPb] at this
   exact⟨by show -1<=(i:Int); omega,by show (i:Int)<=_; omega⟩
 unfold maxLen at hs
 exact Ih.2 ⟨by omega,by omega⟩
theorem Gn {el:List (Nat×Option LB)} {k:Nat} (h:(k∈el.map (·.1))):E5 el k≠none:=by
 induction el with
 | nil=>simp at h
 | cons q l ih=>
  obtain⟨k',x⟩:=q
  unfold E5
  cases hb:Nat.beq k k' with
  | true=>simp
  | false=>
   simp only [aD6]
   rw [aLx,aE7] at h
   rcases h with h | h
   ·have h:k=k':=h
    rw [h,aOy] at hb
    cases hb
   ·exact ih h
theorem pL {v:Value} {e sz o e2 sz2 s:Nat} {h:Option Nat} {cs cs':List C} {h':Option Nat} (hh:∀ i,h≠some i->h'≠some i) {b:Nat} (hb:own ρ v (.tree e sz o e2 sz2 s h cs) b):own ρ v (.tree e sz o e2 sz2 s h' cs') b:=by
 rcases hb with hb | ⟨vs,i,u,h1,h2,h3,h4⟩
 ·exact .inl hb
 ·exact .inr ⟨vs,i,u,h1,h2,hh i h3,h4⟩
theorem aAn {x y:Operand} {t e e2:TypeId} {k s i sz o' sz2 bytes tk:Nat} {cs c2 cs':List C} {d':DV×Option LB} (hS:Gl P t e2 sz2 bytes) (hc:cs[i * sz + o']?=some (.sl sz2 c2)) (hs:bC d' sz2 cs') (hl:(c2.length + cs'.length) * bytes<=140737488355328) (hnp:cx.np<=k)
  (ha:D7 cx ρ σ a w) (hds:Ef σ true [x,y]=some [(.nst k s i,some (.tree e sz o' e2 sz2 s none cs)),d']) (ho:o.op=.call ⟨.builtin .append,#[x,y],#[t,t]⟩) (hf:σ.U tk=false) (hdst:∀ t,o.dst=some t->t < cx.N)
  (hK:∀ a' w',I8 cx (σ.app o.dst (X9 [(tk,some (.row e2 sz2 (c2 ++ cs'))),(k,some (.tree e sz o' e2 sz2 s (some i) cs))] (some (.row tk)))) a' w'->K a' w'):o.wp P a w K Q:=by
 obtain⟨e1,e2'⟩:=K1 hds
 obtain⟨h1,h2,h3⟩:=Ch ha e1
 have hL:=h3 _ _ rfl rfl
 unfold Cp at h1
 obtain⟨vs',r1,r2⟩:=h1
 obtain⟨n,us,vs,q⟩:=ha.lo _ _ hL
 have e0:=q.hs.symm.trans r1
 injection e0 with e0
 subst e0
 obtain⟨p0,n2,us2,c0,p1,p2,p3,p4⟩:=q.nest i _ r2 (by simp)
 rw [hc] at p1
 injection p1 with p1
 injection p1 with _ p1
 subst p1
 obtain⟨A,m,c,us',hv',hl',hr',hA⟩:=hs.vals ha e2'
 obtain⟨v',w',hrun,g2,g3,g4,hsl⟩:=Sl (P:=P) (ty:=o.type) hS p2 (A:=A) (m:=m) (c:=c) hl' (X5 hr') hA (by rw [<- p3.1,<- hr'.1]; exact hl)
 have hkU:σ.U k=true:=(ha.usedL _ _ hL).1
 have hsU:σ.U s=true:=(ha.usedL _ _ hL).2 s rfl
 have hne:k≠tk:=fun h=>by rw [h,hf] at hkU; cases hkU
 have hrtk:Gd ρ tk v' tk=v':=by simp [Gd]
 have hro:∀ j,σ.U j=true->Gd ρ tk v' j=ρ j:=fun j hj=>by
  unfold Gd
  split
  ·rename_i h; subst h; rw [hf] at hj; cases hj
  ·rfl
 have hold:∀ b,Dd (a.eval x)=some b->own ρ (ρ k) (.tree e sz o' e2 sz2 s none cs) b:=fun b hb=>.inr ⟨vs,i,_,q.hs,r2,by simp,hb⟩
 have hoc:∀ b,own (Gd ρ tk v') (Gd ρ tk v' k) (.tree e sz o' e2 sz2 s (some i) cs) b->own ρ (ρ k) (.tree e sz o' e2 sz2 s (some i) cs) b:=fun b hb=>by
  rw [hro k hkU] at hb
  exact Rv (fun j hj=>(hro j ((ha.usedL _ _ hL).2 j hj)).symm) hb
 have hoc':∀ b,own ρ (ρ k) (.tree e sz o' e2 sz2 s (some i) cs) b->own ρ (ρ k) (.tree e sz o' e2 sz2 s none cs) b:=fun b=>pL (fun _ _=>by simp)
 have hlk:∀ k' x,E5 [(tk,some (LB.row e2 sz2 (c2 ++ cs'))),(k,some (LB.tree e sz o' e2 sz2 s (some i) cs))] k'=some x->(k'=tk/\x=some (.row e2 sz2 (c2 ++ cs')))\/(k'=k/\x=some (.tree e sz o' e2 sz2 s (some i) cs)):=fun k' x h=>by
  have:=F3 h
  simpa using this
 have hno:∀ b,Dd v'=some b->own ρ (ρ k) (.tree e sz o' e2 sz2 s (some i) cs) b->False:=fun b hb hb2=>by
  rcases g4 b hb with h | h
  ·rcases hb2 with h5 | ⟨vs2,j,u2,a1,a2,a3,a4⟩
   ·exact (p4 b h).2 h5
   ·have e0:=q.hs.symm.trans a1
    injection e0 with e0
    subst e0
    exact a3 (by rw [q.dist i j _ u2 b r2 a2 (by simp) (by simp) h a4])
  ·have:=((ha.lo _ _ hL).blk (hoc' b hb2)).1
   omega
 have hbase:∀ g,Dd (a.eval x)=some g->cx.w0.heap.size<=g\/cx.M g:=fun g G=>(p4 g G).1
 unfold Oper.wp
 rw [show (execOp a.eval o).run P w=.ok (.value v') w' by simp [execOp,ho,resolve,invoke,builtin,hv',hrun]]
 refine hK _ _ ⟨Gd ρ tk v',ha.app (v:=v') (ha.kept.grown g3 hbase) g3.size hdst hro (fun b hb h=>g3.block b hb fun e=>h k _ (Gn (by simp)) hL (hold b e.symm)) (fun k' lb b h1 h2=>?_) (fun k1 k2 lb lb' b h1 h2 h3 h4=>?_) (fun hI hI2=>⟨fun k' lb h=>?_,fun d hd=>?_⟩) ⟨fun k' lb k2 h1 h2=>?_,fun d k' h1 h2=>?_⟩ (fun k' lb b h1 h2 h3=>?_)⟩
 ·rcases hlk k' _ h1 with ⟨rfl,h5⟩ | ⟨rfl,h5⟩
  ·injection h5 with h5
   subst h5
   rw [hrtk] at h2
   rcases g4 b h2 with h | h
   ·exact .inr ⟨k,_,Gn (by simp),hL,hold b h⟩
   ·exact .inl h
  ·injection h5 with h5
   subst h5
   exact .inr ⟨k',_,Gn (by simp),hL,hoc' b (hoc b h2)⟩
 ·rcases hlk k1 _ h1 with ⟨rfl,h5⟩ | ⟨rfl,h5⟩ <;> rcases hlk k2 _ h2 with ⟨rfl,h6⟩ | ⟨rfl,h6⟩
  ·rfl
  ·injection h5 with h5
   injection h6 with h6
   subst h5 h6
   rw [hrtk] at h3
   exact (hno b h3 (hoc b h4)).elim
  ·injection h5 with h5
   injection h6 with h6
   subst h5 h6
   rw [hrtk] at h4
   exact (hno b h4 (hoc b h3)).elim
  ·rfl
 ·rcases hlk k' _ h with ⟨rfl,h5⟩ | ⟨rfl,h5⟩
  ·injection h5 with h5
   subst h5
   rw [hrtk]
   refine⟨n2 + m,us2 ++ us',g2,fun b hb=>?_,(p3.append hr').keep_ (fun b hb=>(hI b hb).2) fun b hb=>(hI b hb).1⟩
   rcases g4 b hb with h4 | h4
   ·exact hbase b h4
   ·exact .inl (aH4 ha.kept.2.2.2.1 h4)
  ·injection h5 with h5
   subst h5
   rw [hro k' hkU]
   refine⟨n,us,vs,q.ho,(hro s hsU).trans q.hs,Hh q.row fun b hb=>g3.block b (Ku q.row hb) fun e=>(p4 b e.symm).2 hb,q.hn,q.hl,q.hM,fun j c u b1 b2 b3=>El.keep_ (fun b hb=>(hI b hb).2) (fun b hb=>(hI b hb).1) _ _ (q.flat j c u b1 b2 b3),fun j u2 b1 b2=>?_,fun j1 j2 u1 u2 b b1 b2 _ _ b3 b4=>q.dist j1 j2 u1 u2 b b1 b2 (by simp) (by simp) b3 b4⟩
   obtain⟨q0,n3,us3,c3,q1,q2,q3,q4⟩:=q.nest j u2 b1 (by simp)
   exact⟨q0,n3,us3,c3,q1,Hh q2 fun b hb=>g3.block b (Ku q2 hb) fun e=>b2 (by rw [q.dist i j _ u2 b r2 b1 (by simp) (by simp) e.symm hb]),q3.keep_ (fun b hb=>(hI b hb).2) fun b hb=>(hI b hb).1,q4⟩
 ·injection hd with hd
  subst hd
  unfold Cp
  obtain⟨A2,n2',c2',rfl⟩:=hsl
  simp [Gd,Value.oneCell']
 ·rcases hlk k' _ h1 with ⟨rfl,h5⟩ | ⟨rfl,h5⟩
  ·injection h5 with h5
   subst h5
   exact h2.elim
  ·injection h5 with h5
   subst h5
   exact .inl ((ha.usedL _ _ hL).2 k2 h2)
 ·injection h1 with h1
  subst h1
  unfold men at h2
  subst h2
  exact .inr (Gn (by simp))
 ·rcases hlk k' _ h1 with ⟨rfl,h5⟩ | ⟨rfl,h5⟩
  ·injection h5 with h5
   subst h5
   rw [hrtk] at h3
   rcases g4 b h3 with h4 | h4
   ·exact ha.fresh k _ b hL hnp (hold b h4)
   ·exact .inl (aH4 ha.kept.2.2.2.1 h4)
  ·injection h5 with h5
   subst h5
   exact ha.fresh k' _ b hL hnp (hoc' b (hoc b h3))
theorem aCh {x y:Operand} {t e e2:TypeId} {k p s i sz o' sz2 j tk:Nat} {cs c2:List C} (ht:Ty P t false 1) (hp:p=i * sz + o') (hl:p < cs.length) (hnp:cx.np<=k) (hnj:cx.np<=j)
  (ha:D7 cx ρ σ a w) (hds:Ef σ true [x,y]=some [(.ptr k p,some (.tree e sz o' e2 sz2 s (some i) cs)),(.row j,some (.row e2 sz2 c2))]) (ho:o.op=.store t x y) (hf:σ.U tk=false) (hdst:∀ t,o.dst=some t->t < cx.N)
  (hK:∀ a' w',I8 cx (σ.app o.dst (X9 [(k,some (.tree e sz o' e2 sz2 tk none (cs.set p (.sl sz2 c2)))),(tk,some .gho),(j,none)] none)) a' w'->K a' w'):o.wp P a w K Q:=by
 subst hp
 obtain⟨e1,e2'⟩:=K1 hds
 obtain⟨h1,h2,h3⟩:=Ch ha e1
 have hL:=h3 _ _ rfl rfl
 obtain⟨k1,-,k3⟩:=Ch ha e2'
 have hLj:=k3 _ _ rfl rfl
 unfold Cp at h1 k1
 obtain⟨g,G,hv⟩:=h1
 obtain⟨n,us,vs,q⟩:=ha.lo _ _ hL
 obtain⟨n2,us2,p2,pM,p3⟩:=ha.lo _ _ hLj
 have hkj:k≠j:=fun h=>by subst h; rw [hL] at hLj; cases hLj
 have hkU:σ.U k=true:=(ha.usedL _ _ hL).1
 have hjU:σ.U j=true:=(ha.usedL _ _ hLj).1
 have hne:k≠tk:=fun h=>by rw [h,hf] at hkU; cases hkU
 have hnej:j≠tk:=fun h=>by rw [h,hf] at hjU; cases hjU
 have hsz:0 < sz:=aOx (aFf _) q.ho
 have hi:i < vs.size:=by
  have h1:i * sz < n * sz:=by rw [<- q.row.1,<- q.hl]; omega
  rw [q.hn]
  exact Nat.lt_of_mul_lt_mul_right h1
 have hcell:∀ u∈[ρ j],u.oneCell'=true:=fun u hu=>by simp at hu; rw [hu]; exact k1.2
 have hcells:(ρ j).cells.toList=[ρ j]:=by
  have:=k1.2
  cases hρ:ρ j <;> rw [hρ] at this <;> first | rfl | cases this
 obtain⟨X,hrun,hrow⟩:=Vl (P:=P) (p:=i * sz + o') ht q.row G hcells rfl (by rw [<- q.hl]; omega) hcell
 have hsp:Cu us (i * sz + o') [ρ j]=us.set (i * sz + o') (ρ j):=by
  unfold Cu
  rw [aO2,if_pos (by rw [<- q.hl]; exact hl)]
  simp
 rw [hsp] at hrow
 have hro:∀ m,σ.U m=true->Gd ρ tk (.tuple (vs.setIfInBounds i (ρ j))) m=ρ m:=fun m hm=>by
  unfold Gd
  split
  ·rename_i h; subst h; rw [hf] at hm; cases hm
  ·rfl
 have hrtk:Gd ρ tk (.tuple (vs.setIfInBounds i (ρ j))) tk=.tuple (vs.setIfInBounds i (ρ j)):=by simp [Gd]
 have hvs:∀ m u,(vs.setIfInBounds i (ρ j))[m]?=some u->(m=i/\u=ρ j)\/(m≠i/\vs[m]?=some u):=fun m u h=>by
  rw [aNw] at h
  split at h
  ·rename_i hmi
   subst hmi
   injection h with h
   exact .inl ⟨rfl,h.symm⟩
  ·rename_i hmi
   exact .inr ⟨fun e=>hmi e.symm,h⟩
 have hlk:∀ k' x,E5 [(k,some (LB.tree e sz o' e2 sz2 tk none (cs.set (i * sz + o') (.sl sz2 c2)))),(tk,some LB.gho),(j,none)] k'=some (some x)->(k'=k/\x=.tree e sz o' e2 sz2 tk none (cs.set (i * sz + o') (.sl sz2 c2)))\/(k'=tk/\x=.gho):=fun k' x h=>by
  have:=F3 h
  simpa using this
 have hnew:∀ b,own (Gd ρ tk (.tuple (vs.setIfInBounds i (ρ j)))) (Gd ρ tk (.tuple (vs.setIfInBounds i (ρ j))) k) (.tree e sz o' e2 sz2 tk none (cs.set (i * sz + o') (.sl sz2 c2))) b->own ρ (ρ k) (.tree e sz o' e2 sz2 s (some i) cs) b\/own ρ (ρ j) (.row e2 sz2 c2) b:=fun b hb=>by
  rw [hro k hkU] at hb
  rcases hb with hb | ⟨vs2,m,u,a1,a2,a3,a4⟩
  ·exact .inl (.inl hb)
  ·rw [hrtk] at a1
   injection a1 with a1
   subst a1
   rcases hvs m u a2 with ⟨rfl,rfl⟩ | ⟨hm,a5⟩
   ·exact .inr a4
   ·exact .inl (.inr ⟨vs,m,u,q.hs,a5,fun h=>hm (by injection h with h; exact h.symm),a4⟩)
 have hgj:∀ b,Dd (ρ j)=some b->¬ own ρ (ρ k) (.tree e sz o' e2 sz2 s (some i) cs) b:=fun b hb hb2=>hkj (ha.sep k j _ _ b hL hLj hb2 hb)
 unfold Oper.wp
 rw [show (execOp a.eval o).run P w=.ok .skip (w.setRow g X) by simp [execOp,ho,hv,k1.1,hrun]]
 obtain⟨c1,c2',c3,c4,c5⟩:=ha.kept
 refine hK _ _ ⟨Gd ρ tk (.tuple (vs.setIfInBounds i (ρ j))),ha.app (v:=undef) ⟨c1,c2',c3,by rw [Jd]; exact c4,fun b hb hM=>(Fo w g b X fun e=>?_).trans (c5 b hb hM)⟩ (by rw [Jd]; exact aHy _) hdst hro (fun b hb h=>Fo w g b X fun e=>h k _ (Gn (by simp)) hL (.inl (by rw [e]; exact G))) (fun k' lb b h1 h2=>?_) (fun m1 m2 lb lb' b h1 h2 h3 h4=>?_) (fun hI hI2=>⟨fun k' lb h=>?_,fun d hd=>by cases hd⟩) ⟨fun k' lb m2 h1 h2=>?_,fun d k' h1 h2=>by cases h1⟩ (fun k' lb b h1 h2 h3=>?_)⟩
 ·subst e
  rcases q.hM _ G with h | h
  ·omega
  ·exact hM h
 ·rcases hlk k' _ h1 with ⟨rfl,rfl⟩ | ⟨rfl,rfl⟩
  ·rcases hnew b h2 with h | h
   ·exact .inr ⟨k',_,Gn (by simp),hL,h⟩
   ·exact .inr ⟨j,_,Gn (by simp),hLj,h⟩
  ·exact h2.elim
 ·rcases hlk m1 _ h1 with ⟨rfl,rfl⟩ | ⟨rfl,rfl⟩
  ·rcases hlk m2 _ h2 with ⟨rfl,rfl⟩ | ⟨rfl,rfl⟩
   ·rfl
   ·exact h4.elim
  ·exact h3.elim
 ·rcases hlk k' _ h with ⟨rfl,rfl⟩ | ⟨rfl,rfl⟩
  ·rw [hro k' hkU]
   have hmod:∀ i,(i * sz + o') % sz=o':=fun i=>by rw [aOt,aPp]; exact aLg q.ho
   refine⟨n,_,_,q.ho,hrtk,hrow,by rw [Array.size_setIfInBounds]; exact q.hn,by rw [aOc,aOc]; exact q.hl,q.hM,fun m c u b1 b2 b3=>?_,fun m u b1 b2=>?_,fun m1 m2 u1 u2 b b1 b2 _ _ b3 b4=>?_⟩
   ·rw [aL1 (fun e=>b3 (by rw [<- e]; exact hmod i))] at b1 b2
    exact El.keep_ (fun b hb=>(hI b hb).2) (fun b hb=>(hI b hb).1) _ _ (q.flat m c u b1 b2 b3)
   ·rcases hvs m u b1 with ⟨rfl,rfl⟩ | ⟨hm,b3⟩
    ·refine⟨aMb (by rw [<- q.hl]; exact hl),n2,us2,c2,aMb hl,Hh p2 fun b hb=>Fo w g b X fun e=>hgj b hb (.inl (by rw [e]; exact G)),p3.keep_ (fun b hb=>(hI b hb).2) fun b hb=>(hI b hb).1,fun b hb=>⟨pM b hb,fun h=>hgj b hb (.inl h)⟩⟩
    ·obtain⟨q0,n3,us3,c3',q1,q2,q3,q4⟩:=q.nest m u b3 fun h=>hm (by injection h with h; exact h.symm)
     have hd:i * sz + o'≠m * sz + o':=fun e=>hm (aGu hsz (aP7 e)).symm
     exact⟨by rw [aL1 hd]; exact q0,n3,us3,c3',by rw [aL1 hd]; exact q1,Hh q2 fun b hb=>Fo w g b X fun e=>(q4 b hb).2 (by rw [e]; exact G),q3.keep_ (fun b hb=>(hI b hb).2) fun b hb=>(hI b hb).1,q4⟩
   ·rcases hvs m1 u1 b1 with ⟨rfl,rfl⟩ | ⟨hm1,b5⟩
    ·rcases hvs m2 u2 b2 with ⟨rfl,rfl⟩ | ⟨hm2,b6⟩
     ·rfl
     ·exact (hgj b b3 (.inr ⟨vs,m2,u2,q.hs,b6,fun h=>hm2 (by injection h with h; exact h.symm),b4⟩)).elim
    ·rcases hvs m2 u2 b2 with ⟨rfl,rfl⟩ | ⟨hm2,b6⟩
     ·exact (hgj b b4 (.inr ⟨vs,m1,u1,q.hs,b5,fun h=>hm1 (by injection h with h; exact h.symm),b3⟩)).elim
     ·exact q.dist m1 m2 u1 u2 b b5 b6 (fun h=>hm1 (by injection h with h; exact h.symm)) (fun h=>hm2 (by injection h with h; exact h.symm)) b3 b4
  ·trivial
 ·rcases hlk k' _ h1 with ⟨rfl,rfl⟩ | ⟨rfl,rfl⟩
  ·have h2:m2=tk:=h2
   subst h2
   exact .inr (Gn (by simp))
  ·exact h2.elim
 ·rcases hlk k' _ h1 with ⟨rfl,rfl⟩ | ⟨rfl,rfl⟩
  ·rcases hnew b h3 with h | h
   ·exact ha.fresh k' _ b hL hnp h
   ·exact ha.fresh j _ b hLj hnj h
  ·exact h3.elim
theorem W4 {place:Nat->Option (Nat×Nat)}:∀ {l:List (Nat×DV)} {cells r:List DV},Gt place cells l=some r->r.length=cells.length
 | [],cells,r,h=>by unfold Gt at h; injection h with h; rw [h]
 | (i,d) :: l,cells,r,h=>by
  unfold Gt at h
  cases hp:place i with
  | none=>rw [hp] at h; cases h
  | some q=>
   obtain⟨off,size⟩:=q
   rw [hp] at h
   simp only [] at h
   cases hb:(Nat.beq (Co d).length size && Nat.ble (off + size) cells.length) with
   | false=>rw [hb] at h; cases h
   | true=>
    rw [hb] at h
    simp only [aEs] at hb
    have b1:=aEr hb.1
    have b2:=aEn hb.2
    rw [W4 h,L8 _ _ _ (by omega)]
theorem Cb.split_ {I:Nat->Prop}:∀ {a b:List DV} {us:List Value},Cb ρ I w (a ++ b) us->∃ us1 us2,us=us1 ++ us2/\Cb ρ I w a us1/\Cb ρ I w b us2
 | [],b,us,h=>⟨[],us,rfl,by unfold Cb; rfl,h⟩
 | d :: a,b,us,h=>by
  rw [aOp] at h
  unfold Cb at h
  obtain⟨u,us',rfl,h1,h2⟩:=h
  obtain⟨us1,us2,rfl,h3,h4⟩:=Cb.split_ h2
  exact⟨u :: us1,us2,rfl,by unfold Cb; exact⟨u,us1,rfl,h1,h3⟩,h4⟩
theorem aDn {t e:TypeId} {sz bytes:Nat} {x:Operand} {d:DV} {b:Option LB} {z:List Value} {r:List DV} {tc:Bool} (hS:Gl P t e sz bytes) (hz:Zt P e z) (hlen:1 * sz<=16777216)
  (hd:Gt (fun i=>some (i * sz,sz)) ((List.replicate 1 (z.map DV.val)).flatten) [(0,d)]=some r) (hoc:(Co d).all Tv=true) (ha:D7 cx ρ σ a w) (hx:ev σ tc x=some (d,b)) :
  ∃ rs:List Value,(Instr.buildSlice t 1 #[(0,a.eval x)]).run P w=.ok (.slice (some ⟨w.heap.size,0,none⟩) 1 1) (w.alloc (.cells rs.toArray e))/\Cb ρ (K5 cx σ ρ w) w r rs/\(∀ u∈rs,u.oneCell'=true)/\rs.length=1 * sz/\∀ k,Ft r k->σ.U k=true:=by
 obtain⟨hr,hm,-⟩:=Ch ha hx
 obtain⟨it,zv,z1,z2,z3,z4⟩:=hz.get
 obtain⟨it',zv',y1,y2,y3,y4,y5⟩:=hS.hi
 rw [z1] at y1
 injection y1 with y1
 subst y1
 rw [z2] at y2
 injection y2 with y2
 subst y2
 have hsz:=hS.hsz
 have hd0:=hd
 rw [Sk] at hd
 have hone:∀ u∈(List.replicate 1 z).flatten,u.oneCell'=true:=fun u hu=>by
  obtain⟨l,h1,h2⟩:=aOq.1 hu
  rw [(aNx.1 h1).2] at h2
  exact (z4 u h2).1
 have hok0:∀ u∈(List.replicate 1 z).flatten,E4 u=true:=fun u hu=>by
  obtain⟨l,h1,h2⟩:=aOq.1 hu
  rw [(aNx.1 h1).2] at h2
  exact (z4 u h2).2
 obtain⟨rs,r1,r2,r3⟩:=Pa (place:=fun i=>some (i * sz,sz)) [0] [d] [a.eval x] _ ((List.replicate 1 z).flatten) r (by unfold Cb; exact⟨_,[],rfl,hr,by unfold Cb; rfl⟩) (fun d hd'=>by rw [aEp.1 hd']; exact hoc) (Cb.ofVals _ hok0) hone hd
 have hrun:(Instr.buildSlice t 1 #[(0,a.eval x)]).run P w=.ok (.slice (some ⟨w.heap.size,0,none⟩) 1 1) (w.alloc (.cells rs.toArray e)):=by
  have e3:((Array.range (1 * sz)).map (zv.cells[· % zv.cells.size]!))=((List.replicate 1 z).flatten).toArray:=by
   rw [<- z3,<- L9 zv.cells 1 sz y5 hsz]
  refine run_buildSlice w t e 1 _ rs.toArray it zv hS.ht z1 z2 (by rw [y3]; omega) (by rw [y3]; omega) ?_
  rw [y3,e3]
  exact r1
 refine⟨rs,hrun,r2,r3,?_,fun k hk=>?_⟩
 ·rw [<- r2.length,W4 hd,aPf]
  have hzl:z.length=sz:=by rw [<- z3]; simpa using y5
  simp [hzl]
 ·rcases Ps hd0 hk with h | ⟨q,h1,h2⟩
  ·simp at h
   exact (Ma _ k (by simpa using h)).elim
  ·rw [aEp.1 h1] at h2
   exact hm k h2
theorem tU {t e e2:TypeId} {sz o' sz2 bytes j tk:Nat} {x:Operand} {d:DV} {b:Option LB} {z:List Value} {r pre post:List DV} {ck1 ck2:List (Option Nat)} {c1 c2 c3:List C} (hS:Gl P t e sz bytes) (hz:Zt P e z) (hlen:1 * sz<=16777216)
  (hd:Gt (fun i=>some (i * sz,sz)) ((List.replicate 1 (z.map DV.val)).flatten) [(0,d)]=some r) (hoc:(Co d).all Tv=true) (hr:r=pre ++ .row j :: post) (hpo:pre.length=o') (h1:Gw ck1 pre c1) (h3:Gw ck2 post c3) (hLj:σ.L j=some (.row e2 sz2 c2)) (hnp:cx.np<=j)
  (ha:D7 cx ρ σ a w) {tc:Bool} (hds:Ef σ tc [x]=some [(d,b)]) (ho:o.op=.buildSlice t 1 #[(0,x)]) (hf:∀ j,j < 8->σ.U (tk + j)=false) (hdst:∀ t,o.dst=some t->t < cx.N)
  (hK:∀ a' w',I8 cx (σ.app o.dst (X9 [(tk,some (.tree e sz o' e2 sz2 (tk + 1) none (c1 ++ .sl sz2 c2 :: c3))),(tk + 1,some .gho),(j,none)] (some (.row tk)))) a' w'->K a' w'):o.wp P a w K Q:=by
 obtain⟨rs,hrun,r2,r3,r4,r5⟩:=aDn hS hz hlen hd hoc ha (Ie hds)
 subst hr
 have hf0:=hf 0 (by omega)
 have hf1:=hf 1 (by omega)
 rw [aQa] at hf0
 obtain⟨n2,us2,p2,pM,p3⟩:=ha.lo _ _ hLj
 have hjU:σ.U j=true:=(ha.usedL _ _ hLj).1
 obtain⟨us1,us3,rfl,s1,s3⟩:∃ us1 us3,rs=us1 ++ ρ j :: us3/\Cb ρ (K5 cx σ ρ w) w pre us1/\Cb ρ (K5 cx σ ρ w) w post us3:=by
  obtain⟨us1,rest,e1,s1,s2⟩:=Cb.split_ r2
  unfold Cb at s2
  obtain⟨u,us3,e2,s2,s3⟩:=s2
  unfold Cp at s2
  exact⟨us1,us3,by rw [e1,e2,s2.1],s1,s3⟩
 have d1:=Gw.rd h1 s1
 have d3:=Gw.rd h3 s3
 have hl1:us1.length=o':=by rw [<- s1.length]; exact hpo
 rw [aO4] at r4
 have hl3:us1.length + (us3.length + 1)=sz:=by simpa using r4
 let v':Value:=.slice (some ⟨w.heap.size,0,none⟩) 1 1
 let ρ':Nat->Value:=fun m=>if m=tk then v' else if m=tk + 1 then .tuple #[ρ j] else ρ m
 have hrtk:ρ' tk=v':=if_pos rfl
 have hrt1:ρ' (tk + 1)=.tuple #[ρ j]:=by
  show (if tk + 1=tk then _ else _)=_
  rw [if_neg (by omega),if_pos rfl]
 have hro:∀ m,σ.U m=true->ρ' m=ρ m:=fun m hm=>by
  show (if m=tk then _ else if m=tk + 1 then _ else _)=_
  rw [if_neg (fun h=>by subst h; rw [hf0] at hm; cases hm),if_neg (fun h=>by subst h; rw [hf1] at hm; cases hm)]
 have hlk:∀ k' x,E5 [(tk,some (LB.tree e sz o' e2 sz2 (tk + 1) none (c1 ++ .sl sz2 c2 :: c3))),(tk + 1,some LB.gho),(j,none)] k'=some (some x)->(k'=tk/\x=.tree e sz o' e2 sz2 (tk + 1) none (c1 ++ .sl sz2 c2 :: c3))\/(k'=tk + 1/\x=.gho):=fun k' x h=>by
  have:=F3 h
  simpa using this
 have hown:∀ b,own ρ' (ρ' tk) (.tree e sz o' e2 sz2 (tk + 1) none (c1 ++ .sl sz2 c2 :: c3)) b->b=w.heap.size\/Dd (ρ j)=some b:=fun b hb=>by
  rcases hb with hb | ⟨vs,m,u,a1,a2,-,a4⟩
  ·rw [hrtk] at hb
   injection hb with hb
   exact .inl hb.symm
  ·rw [hrt1] at a1
   injection a1 with a1
   subst a1
   have:u=ρ j:=by
    rcases m with _ | m
    ·simpa using a2.symm
    ·simp at a2
   subst this
   exact .inr a4
 have hjlt:∀ b,Dd (ρ j)=some b->b < w.heap.size:=fun b hb=>Ku p2 hb
 unfold Oper.wp
 rw [show (execOp a.eval o).run P w=.ok (.value v') (w.alloc (.cells (us1 ++ ρ j :: us3).toArray e)) by simp only [execOp,ho]; simp [hrun,v']]
 refine hK _ _ ⟨ρ',ha.app (v:=v') (ha.kept.alloc _) (by simp) hdst hro (fun b hb _=>Below.heap_alloc w _ b hb) (fun k' lb b h1 h2=>?_) (fun m1 m2 lb lb' b h1 h2 h3 h4=>?_) (fun hI hI2=>⟨fun k' lb h=>?_,fun d hd=>?_⟩) ⟨fun k' lb m2 h1 h2=>?_,fun d k' h1 h2=>?_⟩ (fun k' lb b h1 h2 h3=>?_)⟩
 ·rcases hlk k' _ h1 with ⟨rfl,rfl⟩ | ⟨rfl,rfl⟩
  ·rcases hown b h2 with rfl | h
   ·exact .inl (aHy _)
   ·exact .inr ⟨j,_,Gn (by simp),hLj,h⟩
  ·exact h2.elim
 ·rcases hlk m1 _ h1 with ⟨rfl,rfl⟩ | ⟨rfl,rfl⟩
  ·rcases hlk m2 _ h2 with ⟨rfl,rfl⟩ | ⟨rfl,rfl⟩
   ·rfl
   ·exact h4.elim
  ·exact h3.elim
 ·rcases hlk k' _ h with ⟨rfl,rfl⟩ | ⟨rfl,rfl⟩
  ·rw [hrtk]
   have hm:(us1 ++ ρ j :: us3).length=1 * sz:=by rw [aO4]; simp; omega
   refine⟨1,us1 ++ ρ j :: us3,#[ρ j],by omega,hrt1,⟨hm,.inr ⟨w.heap.size,1,_,rfl,by omega,heap_alloc_new w _,aHy _,by unfold maxLen; omega,by simpa using hm,?_⟩⟩,rfl,by simp [d1.1,d3.1],fun b hb=>?_,fun m c u b1 b2 b3=>?_,fun m u b1 b2=>?_,fun m1 m2 u1 u2 b b1 b2 _ _ _ _=>?_⟩
   ·rw [aHx (by rw [<- hm]; simp)]
   ·injection hb with hb
    rw [<- hb]
    exact .inl ha.kept.2.2.2.1
   ·have hc1:c1.length=o':=by rw [d1.1,hl1]
    have key:∀ {I:Nat->Prop},El w I c u->(∀ b,I b->I b)->True:=fun _ _=>trivial
    rcases Nat.lt_trichotomy m o' with hlt | heq | hgt
    ·rw [aFm (by omega)] at b1 b2
     exact El.keep_ (fun b hb=>(hI b hb).2) (fun b hb=>(hI b hb).1) _ _ (d1.2 m c u b1 b2)
    ·subst heq
     exact absurd (aLg (by omega)) b3
    ·rw [aF4 (by omega)] at b1 b2
     rw [hc1] at b1
     rw [hl1] at b2
     obtain⟨q,hq⟩:∃ q,m - o'=q + 1:=⟨m - o' - 1,by omega⟩
     rw [hq,List.getElem?_cons_succ] at b1 b2
     exact El.keep_ (fun b hb=>(hI b hb).2) (fun b hb=>(hI b hb).1) _ _ (d3.2 q c u b1 b2)
   ·have:m=0/\u=ρ j:=by
     rcases m with _ | m
     ·exact⟨rfl,by simpa using b1.symm⟩
     ·simp at b1
    obtain⟨rfl,rfl⟩:=this
    have hc1:c1.length=o':=by rw [d1.1,hl1]
    refine⟨?_,n2,us2,c2,?_,Hh p2 fun b hb=>Below.heap_alloc w _ b (hjlt b hb),p3.keep_ (fun b hb=>(hI b hb).2) fun b hb=>(hI b hb).1,fun b hb=>⟨pM b hb,fun h=>?_⟩⟩
    ·rw [aOz,aI4,aF4 (by omega),hl1]
     simp
    ·rw [aOz,aI4,aF4 (by omega),hc1]
     simp
    ·have h:some w.heap.size=some b:=h
     injection h with h
     have:=hjlt b hb
     omega
   ·rcases m1 with _ | m1
    ·rcases m2 with _ | m2
     ·rfl
     ·simp at b2
    ·simp at b1
  ·trivial
 ·injection hd with hd
  subst hd
  unfold Cp
  exact⟨hrtk.symm,by rw [hrtk]; rfl⟩
 ·rcases hlk k' _ h1 with ⟨rfl,rfl⟩ | ⟨rfl,rfl⟩
  ·have h2:m2=k' + 1:=h2
   subst h2
   exact .inr (Gn (by simp))
  ·exact h2.elim
 ·injection h1 with h1
  subst h1
  unfold men at h2
  subst h2
  exact .inr (Gn (by simp))
 ·rcases hlk k' _ h1 with ⟨rfl,rfl⟩ | ⟨rfl,rfl⟩
  ·rcases hown b h3 with rfl | h
   ·exact .inl ha.kept.2.2.2.1
   ·exact ha.fresh j _ b hLj hnp h
  ·exact h3.elim
theorem aAr {x y:Operand} {t e e2:TypeId} {k s k' s' sz o' sz2 bytes tk:Nat} {cs cs':List C} (hS:Gl P t e sz bytes) (hne:Nat.beq k k'=false) (hl:(cs.length + cs'.length) * bytes<=140737488355328) (hnp:cx.np<=k) (hnp':cx.np<=k')
  (ha:D7 cx ρ σ a w) (hds:Ef σ true [x,y]=some [(.row k,some (.tree e sz o' e2 sz2 s none cs)),(.row k',some (.tree e sz o' e2 sz2 s' none cs'))]) (ho:o.op=.call ⟨.builtin .append,#[x,y],#[t,t]⟩) (hf:∀ j,j < 8->σ.U (tk + j)=false) (hdst:∀ t,o.dst=some t->t < cx.N)
  (hK:∀ a' w',I8 cx (σ.app o.dst (X9 [(tk,some (.tree e sz o' e2 sz2 (tk + 1) none (cs ++ cs'))),(tk + 1,some .gho),(k,none),(k',none)] (some (.row tk)))) a' w'->K a' w'):o.wp P a w K Q:=by
 have hf0:=hf 0 (by omega)
 have hf1:=hf 1 (by omega)
 rw [aQa] at hf0
 have hkk:k≠k':=fun h=>by subst h; rw [aOy] at hne; cases hne
 obtain⟨e1,e2'⟩:=K1 hds
 obtain⟨h1,-,h3⟩:=Ch ha e1
 obtain⟨k1,-,k3⟩:=Ch ha e2'
 have hL:=h3 _ _ rfl rfl
 have hL':=k3 _ _ rfl rfl
 unfold Cp at h1 k1
 obtain⟨n,us,vs,q⟩:=ha.lo _ _ hL
 obtain⟨n',us',vs',q'⟩:=ha.lo _ _ hL'
 have hsz:0 < sz:=hS.hsz
 have hone:∀ u∈us',u.oneCell'=true:=fun u hu=>by
  obtain⟨m,hm,rfl⟩:=aOg hu
  have hum:us'[m]?=some us'[m]:=aAy hm
  have hcm:cs'[m]?=some (cs'[m]'(by rw [q'.hl]; exact hm)):=aAy _
  by_cases hmo:m % sz=o'
  ·have hmd:m / sz * sz + o'=m:=by rw [<- hmo,aOt]; exact Nat.div_add_mod m sz
   have hi:m / sz < vs'.size:=by
    rw [q'.hn]
    exact (aP0 hsz).2 (by rw [<- q'.row.1]; exact hm)
   obtain⟨p0,n2,us2,c2,p1,p2,-⟩:=q'.nest (m / sz) _ (aJh hi) (by simp)
   rw [hmd,hum] at p0
   injection p0 with p0
   rw [p0]
   rcases p2.2 with ⟨A,h,-⟩ | ⟨g,cap,cur,h,-⟩ <;> rw [h] <;> rfl
  ·exact El.one (q'.flat m _ _ hcm hum hmo)
 obtain⟨A,m,c,hv',hl',hA⟩:∃ A m c,ρ k'=.slice A m c/\us'.length=m * sz/\(0 < m->∃ ad,A=some ad/\∀ j u,us'[j]?=some u->w.cell? (ad.add j)=some u):=by
  rcases aH2 n' with hn | hn
  ·rcases q'.row.2 with ⟨A,q1,q2⟩ | ⟨g,cap,cur,q1,-⟩
   ·exact⟨A,0,0,q1,by rw [q'.row.1,hn],fun h=>absurd h (by omega)⟩
   ·exact⟨_,n',cap,q1,q'.row.1,fun h=>absurd h (by omega)⟩
  ·obtain⟨g,cap,q1,-,-,q2⟩:=Mh q'.row hn
   exact⟨_,n',cap,q1,q'.row.1,fun _=>⟨_,rfl,fun j u hj=>by rw [Jg,aI4]; exact q2 j u hj⟩⟩
 have hmn:m=n':=aGu hsz (hl'.symm.trans q'.row.1)
 subst hmn
 obtain⟨v',w',hrun,g2,g3,g4,hsl⟩:=Sl (P:=P) (ty:=o.type) hS q.row (A:=A) (m:=m) (c:=c) hl' hone hA (by rw [<- q.hl,<- q'.hl]; exact hl)
 have hkU:σ.U k=true:=(ha.usedL _ _ hL).1
 have hkU':σ.U k'=true:=(ha.usedL _ _ hL').1
 let ρ':Nat->Value:=fun m=>if m=tk then v' else if m=tk + 1 then .tuple (vs ++ vs') else ρ m
 have hrtk:ρ' tk=v':=if_pos rfl
 have hrt1:ρ' (tk + 1)=.tuple (vs ++ vs'):=by
  show (if tk + 1=tk then _ else _)=_
  rw [if_neg (by omega),if_pos rfl]
 have hro:∀ m,σ.U m=true->ρ' m=ρ m:=fun m hm=>by
  show (if m=tk then _ else if m=tk + 1 then _ else _)=_
  rw [if_neg (fun h=>by subst h; rw [hf0] at hm; cases hm),if_neg (fun h=>by subst h; rw [hf1] at hm; cases hm)]
 have hlk:∀ m x,E5 [(tk,some (LB.tree e sz o' e2 sz2 (tk + 1) none (cs ++ cs'))),(tk + 1,some LB.gho),(k,none),(k',none)] m=some (some x)->(m=tk/\x=.tree e sz o' e2 sz2 (tk + 1) none (cs ++ cs'))\/(m=tk + 1/\x=.gho):=fun m x h=>by
  have:=F3 h
  simpa using this
 have hvv:∀ i u,(vs ++ vs')[i]?=some u->(i < vs.size/\vs[i]?=some u)\/(vs.size<=i/\vs'[i - vs.size]?=some u):=fun i u h=>by
  rw [aP2] at h
  split at h
  ·rename_i hi; exact .inl ⟨hi,h⟩
  ·rename_i hi; exact .inr ⟨Nat.le_of_not_lt hi,h⟩
 have hown:∀ b,own ρ' (ρ' tk) (.tree e sz o' e2 sz2 (tk + 1) none (cs ++ cs')) b->w.heap.size<=b\/own ρ (ρ k) (.tree e sz o' e2 sz2 s none cs) b\/own ρ (ρ k') (.tree e sz o' e2 sz2 s' none cs') b:=fun b hb=>by
  rcases hb with hb | ⟨vs2,i,u,a1,a2,-,a4⟩
  ·rw [hrtk] at hb
   rcases g4 b hb with h | h
   ·exact .inr (.inl (.inl h))
   ·exact .inl h
  ·rw [hrt1] at a1
   injection a1 with a1
   subst a1
   rcases hvv i u a2 with ⟨-,h⟩ | ⟨-,h⟩
   ·exact .inr (.inl (.inr ⟨vs,i,u,q.hs,h,by simp,a4⟩))
   ·exact .inr (.inr (.inr ⟨vs',_,u,q'.hs,h,by simp,a4⟩))
 have hbase:∀ g,Dd (ρ k)=some g->cx.w0.heap.size<=g\/cx.M g:=q.hM
 have hcl:cs.length=n * sz:=by rw [q.hl,q.row.1]
 unfold Oper.wp
 rw [show (execOp a.eval o).run P w=.ok (.value v') w' by simp [execOp,ho,resolve,invoke,builtin,h1.1,k1.1,hv',hrun]]
 refine hK _ _ ⟨ρ',ha.app (v:=v') (ha.kept.grown g3 hbase) g3.size hdst hro (fun b hb h=>g3.block b hb fun e=>h k _ (Gn (by simp)) hL (.inl e.symm)) (fun m1 lb b h1 h2=>?_) (fun m1 m2 lb lb' b h1 h2 h3 h4=>?_) (fun hI hI2=>⟨fun m1 lb h=>?_,fun d hd=>?_⟩) ⟨fun m1 lb m2 h1 h2=>?_,fun d m1 h1 h2=>?_⟩ (fun m1 lb b h1 h2 h3=>?_)⟩
 ·rcases hlk m1 _ h1 with ⟨rfl,rfl⟩ | ⟨rfl,rfl⟩
  ·rcases hown b h2 with h | h | h
   ·exact .inl h
   ·exact .inr ⟨k,_,Gn (by simp),hL,h⟩
   ·exact .inr ⟨k',_,Gn (by simp),hL',h⟩
  ·exact h2.elim
 ·rcases hlk m1 _ h1 with ⟨rfl,rfl⟩ | ⟨rfl,rfl⟩
  ·rcases hlk m2 _ h2 with ⟨rfl,rfl⟩ | ⟨rfl,rfl⟩
   ·rfl
   ·exact h4.elim
  ·exact h3.elim
 ·rcases hlk m1 _ h with ⟨rfl,rfl⟩ | ⟨rfl,rfl⟩
  ·rw [hrtk]
   have nst1:∀ i u,vs[i]?=some u->∀ b,Dd u=some b->own ρ (ρ k) (.tree e sz o' e2 sz2 s none cs) b:=fun i u h b hb=>.inr ⟨vs,i,u,q.hs,h,by simp,hb⟩
   have nst2:∀ i u,vs'[i]?=some u->∀ b,Dd u=some b->own ρ (ρ k') (.tree e sz o' e2 sz2 s' none cs') b:=fun i u h b hb=>.inr ⟨vs',i,u,q'.hs,h,by simp,hb⟩
   have xx:∀ b,own ρ (ρ k) (.tree e sz o' e2 sz2 s none cs) b->own ρ (ρ k') (.tree e sz o' e2 sz2 s' none cs') b->False:=fun b a1 a2=>hkk (ha.sep k k' _ _ b hL hL' a1 a2)
   refine⟨n + m,us ++ us',vs ++ vs',q.ho,hrt1,g2,by rw [Array.size_append,q.hn,q'.hn],by rw [aEq,aEq,q.hl,q'.hl],fun b hb=>?_,fun j c u b1 b2 b3=>?_,fun i u b1 _=>?_,fun i1 i2 u1 u2 b b1 b2 _ _ b3 b4=>?_⟩
   ·rcases g4 b hb with h4 | h4
    ·exact hbase b h4
    ·exact .inl (aH4 ha.kept.2.2.2.1 h4)
   ·rcases aL2 j cs.length with hj | hj
    ·rw [aFm hj] at b1
     rw [aFm (by rw [<- q.hl]; exact hj)] at b2
     exact El.keep_ (fun b hb=>(hI b hb).2) (fun b hb=>(hI b hb).1) _ _ (q.flat j c u b1 b2 b3)
    ·rw [aF4 hj] at b1
     rw [aF4 (by rw [<- q.hl]; exact hj),<- q.hl] at b2
     refine El.keep_ (fun b hb=>(hI b hb).2) (fun b hb=>(hI b hb).1) _ _ (q'.flat (j - cs.length) c u b1 b2 fun h=>b3 ?_)
     have:j=(j - cs.length) + n * sz:=by omega
     rw [this,Nat.add_mul_mod_self_right]
     exact h
   ·rcases hvv i u b1 with ⟨hi,h⟩ | ⟨hi,h⟩
    ·obtain⟨q0,n3,us3,c3,q1,q2,q3,q4⟩:=q.nest i u h (by simp)
     refine⟨by rw [aFm (aDw.1 q0).1]; exact q0,n3,us3,c3,by rw [aFm (aDw.1 q1).1]; exact q1,Hh q2 fun b hb=>g3.block b (Ku q2 hb) fun e=>(q4 b hb).2 e.symm,q3.keep_ (fun b hb=>(hI b hb).2) fun b hb=>(hI b hb).1,fun b hb=>⟨(q4 b hb).1,fun h5=>?_⟩⟩
     rcases g4 b h5 with h6 | h6
     ·exact (q4 b hb).2 h6
     ·have:=Ku q2 hb
      omega
    ·obtain⟨q0,n3,us3,c3,q1,q2,q3,q4⟩:=q'.nest _ u h (by simp)
     have e5:i * sz + o'=n * sz + ((i - vs.size) * sz + o'):=by
      rw [q.hn] at hi ⊢
      have:i * sz=n * sz + (i - n) * sz:=by rw [<- aLf]; congr 1; omega
      omega
     refine⟨by rw [e5,aF4 (by rw [q.row.1]; omega),q.row.1,aOf]; exact q0,n3,us3,c3,by rw [e5,aF4 (by rw [hcl]; omega),hcl,aOf]; exact q1,Hh q2 fun b hb=>g3.block b (Ku q2 hb) fun e=>xx b (.inl e.symm) (nst2 _ u h b hb),q3.keep_ (fun b hb=>(hI b hb).2) fun b hb=>(hI b hb).1,fun b hb=>⟨(q4 b hb).1,fun h5=>?_⟩⟩
     rcases g4 b h5 with h6 | h6
     ·exact xx b (.inl h6) (nst2 _ u h b hb)
     ·have:=Ku q2 hb
      omega
   ·rcases hvv i1 u1 b1 with ⟨hi1,h1⟩ | ⟨hi1,h1⟩ <;> rcases hvv i2 u2 b2 with ⟨hi2,h2⟩ | ⟨hi2,h2⟩
    ·exact q.dist i1 i2 u1 u2 b h1 h2 (by simp) (by simp) b3 b4
    ·exact (xx b (nst1 _ _ h1 b b3) (nst2 _ _ h2 b b4)).elim
    ·exact (xx b (nst1 _ _ h2 b b4) (nst2 _ _ h1 b b3)).elim
    ·have:=q'.dist _ _ u1 u2 b h1 h2 (by simp) (by simp) b3 b4
     omega
  ·trivial
 ·injection hd with hd
  subst hd
  unfold Cp
  rw [hrtk]
  obtain⟨A2,n2',c2',rfl⟩:=hsl
  exact⟨rfl,rfl⟩
 ·rcases hlk m1 _ h1 with ⟨rfl,rfl⟩ | ⟨rfl,rfl⟩
  ·have h2:m2=m1 + 1:=h2
   subst h2
   exact .inr (Gn (by simp))
  ·exact h2.elim
 ·injection h1 with h1
  subst h1
  unfold men at h2
  subst h2
  exact .inr (Gn (by simp))
 ·rcases hlk m1 _ h1 with ⟨rfl,rfl⟩ | ⟨rfl,rfl⟩
  ·rcases hown b h3 with h | h | h
   ·exact .inl (aH4 ha.kept.2.2.2.1 h)
   ·exact ha.fresh k _ b hL hnp h
   ·exact ha.fresh k' _ b hL' hnp' h
  ·exact h3.elim
theorem ExtR.sound {tk:Nat} {op:Op} {ty:TypeId} {ds:List (DV×Option LB)} {env:cK} {wr:List Nat} {E:Lz->Prop} (h:ExtR P cx.np tk op ty ds env wr E) (ha:D7 cx ρ σ a w) (hds:Ef σ (Jc op) op.operands.toList=some ds) {l0:List Nat} (henv:env=Kj σ l0) (hf:∀ j,j < 8->σ.U (tk + j)=false) (ho:o.op=op) (hdst:∀ t,o.dst=some t->t < cx.N)
  (hK:∀ e a' w',E e->I8 cx (σ.app o.dst e) a' w'->K a' w'):o.wp P a w K Q:=by
 subst henv
 have hf0:σ.U tk=false:=hf 0 (by omega)
 cases h with
 | @makeMap t _ _=>
  refine Xn (lb:=.map []) (ks:=[]) (d:=.row tk) (w':=w.alloc (.map #[] 0)) ha hdst hf0 (v:=.map (some w.heap.size)) (vn:=.map (some w.heap.size)) ?_ (ha.kept.alloc _) (by simp) (fun b hb _=>Below.heap_alloc w _ b hb) (fun b hb=>.inl (by injection hb with hb; omega)) (fun I' hI=>⟨?_,?_⟩) ⟨fun k' hk'=>hk'.elim,fun k' hk'=>.inr (by unfold men at hk'; exact hk')⟩ (fun k' hk'=>by simp at hk') (fun a' w' h=>hK _ a' w' rfl h)
  ·simp [execOp,ho,Instr.makeMap]
  ·exact⟨w.heap.size,rfl,⟨#[],heap_alloc_new w _,rfl,fun i e h=>by simp at h,fun p hp=>by cases hp⟩,.inl ha.kept.2.2.2.1⟩
  ·unfold Cp
   simp [Gd,Value.oneCell']
 | @lookR t x i ok _ _ k b kd bk κ ν _ kt vt f g l key z ht hK' hz hzk hm hk=>
  have hL:=Iz hm
  obtain⟨e1,e2⟩:=K1 (show Ef σ false [x,i]=_ from hds)
  have h1:=(Ch ha e1).1
  have h2:=Cp.dval _ _ _ (Ch ha e2).1 hk
  unfold Cp at h1
  obtain⟨m,q1,q2,-⟩:=ha.lo _ _ hL
  have hrun:=gZ (P:=P) ht hK' hz q2 (x:=key) ok
  have hgo:=qL (key:=key) q2 hzk
  refine Ic ha hdst (v:=bif ok then .tuple #[g (Ga l key z),.bool (Rw l key)] else g (Ga l key z)) ?_ ?_ (fun k' hk'=>?_) (fun a' w' h=>hK _ a' w' rfl h)
  ·simp only [execOp,ho,h1.1,q1,h2,Sem.run_bind,hrun,Result.andThen_ok,Sem.run_pure]
  ·cases ok with
   | true=>exact fK hgo rfl
   | false=>exact Je hgo
  ·cases ok with
   | true=>exact (N8 [_,_] k' hk').elim
   | false=>exact Sn k' hk'
 | @lookM t x i ok _ _ b kd bk κ ν _ kt vt f g l key z ht hK' hz hzk hk=>
  obtain⟨e1,e2⟩:=K1 (show Ef σ false [x,i]=_ from hds)
  have h1:=(Ch ha e1).1
  have h2:=Cp.dval _ _ _ (Ch ha e2).1 hk
  unfold Cp El at h1
  obtain⟨m,q1,-,q2⟩:=h1
  have hrun:=gZ (P:=P) ht hK' hz q2 (x:=key) ok
  have hgo:=qL (key:=key) q2 hzk
  refine Ic ha hdst (v:=bif ok then .tuple #[g (Ga l key z),.bool (Rw l key)] else g (Ga l key z)) ?_ ?_ (fun k' hk'=>?_) (fun a' w' h=>hK _ a' w' rfl h)
  ·simp only [execOp,ho,q1,h2,Sem.run_bind,hrun,Result.andThen_ok,Sem.run_pure]
  ·cases ok with
   | true=>exact fK hgo rfl
   | false=>exact Je hgo
  ·cases ok with
   | true=>exact (N8 [_,_] k' hk').elim
   | false=>exact Sn k' hk'
 | @put t x y y' _ _ k b kd bk vd bv κ ν _ kt vt f g l key v ht hK' hm hk hv=>
  have hL:=Iz hm
  obtain⟨e1,e2,e3⟩:=wN (show Ef σ false [x,y,y']=_ from hds)
  have h1:=(Ch ha e1).1
  have h2:=Cp.dval _ _ _ (Ch ha e2).1 hk
  have h2':=Cp.dval_ok (Ch ha e2).1 hk
  have h3:=Cp.dval _ _ _ (Ch ha e3).1 hv
  have h3':=Cp.dval_ok (Ch ha e3).1 hv
  unfold Cp at h1
  obtain⟨m,q1,q2,q3⟩:=ha.lo _ _ hL
  obtain⟨es,hrun,hnew⟩:=yX (P:=P) ht hK' q2 h2' h3'
  refine fQ (lb':=.map (Re f g (Kg l key v))) (d:=none) (v:=undef) (w':=setBlock w m (.map es es.size)) ha hdst hL (.inl ⟨?_,rfl⟩) ⟨rfl,rfl,rfl,Rp _ _⟩ (fun b hb=>Qu _ fun e=>hb (by rw [q1,e]; rfl)) (fun I' hI=>⟨⟨m,q1,hnew,q3⟩,fun x hx=>by cases hx⟩) ⟨fun k' hk'=>hk'.elim,fun x k' hx=>by cases hx⟩ (fun a' w' h=>hK _ a' w' rfl h)
  simp only [execOp,ho,h1.1,q1,h2,h3,Sem.run_bind,hrun,Result.andThen_ok,Sem.run_pure]
 | @range t x _ _ k b l kt vt ht hm=>
  have hL:=Iz hm
  have e1:=Ie (show Ef σ false [x]=_ from hds)
  obtain⟨h1,h2,-⟩:=Ch ha e1
  unfold Cp at h1
  obtain⟨m,q1,⟨es,q2,q3,q4,q5⟩,-⟩:=ha.lo _ _ hL
  have hn:es.size=l.length:=by rw [<- q3]; simp
  have hrun:=run_range_map (P:=P) w t kt vt m es es.size ht q2
  have hku:σ.U k=true:=(ha.usedL _ _ hL).1
  have hne:k≠tk:=fun e=>by rw [e,hf0] at hku; cases hku
  refine Xn (lb:=.mit k l.length []) (ks:=[]) (d:=.ptr tk 0) (w':=w.alloc (.mapIter (some m) es.size #[] es.size)) ha hdst hf0 (v:=.pointer (some ⟨w.heap.size,0,none⟩)) (vn:=.pointer (some ⟨w.heap.size,0,none⟩)) ?_ (ha.kept.alloc _) (by simp) (fun b hb _=>Below.heap_alloc w _ b hb) (fun b hb=>.inl (by injection hb with hb; exact aO0 hb)) (fun I' hI=>⟨?_,?_⟩) ⟨fun k' hk'=>by have hk':k'=k:=hk'; rw [hk']; exact hku,fun k' hk'=>.inr (by unfold men at hk'; exact hk')⟩ (fun k' hk'=>by simp at hk') (fun a' w' h=>hK _ a' w' rfl h)
  ·simp only [execOp,ho,h1.1,q1,Sem.run_bind,hrun,Result.andThen_ok,Sem.run_pure]
  ·refine⟨w.heap.size,m,rfl,by rw [<- q1]; unfold Gd; rw [if_neg hne],?_,.inl ha.kept.2.2.2.1⟩
   rw [heap_alloc_new,hn]
  ·unfold Cp
   exact⟨w.heap.size,by simp [Gd,Dd],rfl⟩
 | @next x _ _ j k b n seen l hj hm hn=>
  have hLj:=Iz hj
  have hLk:=Iz hm
  have e1:=Ie (show Ef σ false [x]=_ from hds)
  obtain⟨h1,h2,-⟩:=Ch ha e1
  unfold Cp at h1
  obtain⟨g,G,hv⟩:=h1
  obtain⟨b',m,r1,r2,r3,r4⟩:=ha.lo _ _ hLj
  have hgb:b'=g:=by rw [r1] at G; injection G
  subst hgb
  obtain⟨m',q1,⟨es,q2,q3,q4,q5⟩,-⟩:=ha.lo _ _ hLk
  have hmm:m=m':=by rw [r2] at q1; injection q1 with q1; injection q1
  subst hmm
  have hes:es.size=n:=by rw [hn,<- q3]; simp
  have hku:σ.U k=true:=(ha.usedL _ _ hLk).1
  have hlt:∀ x∈es.toList,x.born < n:=fun x hx=>by
   obtain⟨i,hi,rfl⟩:=aOg hx
   have hi':i < es.size:=by simpa using hi
   have:=q4 i es[i] (by simp [hi'])
   simp only [Array.getElem_toList]
   rw [this]; omega
  have left:∀ e,e∈(leftOf es seen.toArray).toList↔e∈es.toList/\e.born∉seen:=fun e=>by
   unfold leftOf
   simp
  rcases run_next_at (P:=P) w o.type b' m n n seen.toArray es es.size r3 q2 hlt (aHy _) with ⟨s1,s2⟩ | ⟨e,s1,w1,s2,s3⟩
  ·refine fQ (d:=some (.tup [.val (.bool false)])) (lb':=.mit k n seen) (v:=.tuple #[.bool false]) (w':=w) ha hdst hLj (.inr ?_) ⟨rfl,rfl,rfl,rfl⟩ (fun b hb=>rfl) (fun I' hI=>⟨⟨b',m,r1,r2,r3,r4⟩,fun x hx=>by injection hx with hx; subst hx; exact qK rfl⟩) ⟨fun k' hk'=>by have hk':k'=k:=hk'; rw [hk']; exact hku,fun x k' hx hm=>by injection hx with hx; subst hx; exact (N8 [_] k' hm).elim⟩ (fun a' w' h=>hK _ a' w' (.inl ⟨fun i hi=>?_,rfl⟩) h)
   ·simp only [execOp,ho,hv,Sem.run_bind,s2,Result.andThen_ok,Sem.run_pure]
   ·refine Decidable.byContradiction fun hns=>?_
    have hi':i < es.size:=by omega
    have:es[i]∈(leftOf es seen.toArray).toList:=(left _).2 ⟨by simp,by rw [q4 i es[i] (by simp [hi'])]; exact hns⟩
    have h0:(leftOf es seen.toArray)=#[]:=Array.eq_empty_of_size_eq_zero s1
    rw [h0] at this
    simp at this
  ·obtain⟨t1,t2⟩:=(left e).1 s1
   obtain⟨i,hi,hie⟩:=aOg t1
   have hi':i < es.size:=by simpa using hi
   have hei:es[i]?=some e:=by
    rw [<- aNt,aAy hi,hie]
   have hb:=q4 i e hei
   have hl:l[i]?=some (e.key,e.val):=by
    rw [<- q3,aLi,aNt,hei]
    rfl
   have hok:=q5 _ (aG3 hl)
   have hw1:w1.os=w.os/\w1.tape=w.tape/\w1.output=w.output/\w1.heap=w.heap:=by
    rcases s2 with rfl | rfl <;> exact⟨rfl,rfl,rfl,rfl⟩
   obtain⟨v1,v2,v3,v4⟩:=hw1
   refine fQ (d:=some (.tup [.val (.bool true),.val e.key,.val e.val])) (lb':=.mit k n (seen ++ [i])) (v:=.tuple #[.bool true,e.key,e.val]) (w':=setBlock w1 b' (.mapIter (some m) n (seen.toArray.push e.born) es.size)) ha hdst hLj (.inr ?_) ⟨v1,v2,v3,by rw [Rp,v4]⟩ (fun b hb=>(Qu _ fun e=>hb (by rw [r1,e]; rfl)).trans (by rw [v4])) (fun I' hI=>⟨⟨b',m,r1,r2,?_,r4⟩,fun x hx=>by injection hx with hx; subst hx; exact uJ rfl hok.1 hok.2⟩) ⟨fun k' hk'=>by have hk':k'=k:=hk'; rw [hk']; exact hku,fun x k' hx hm=>by injection hx with hx; subst hx; exact (N8 [_,_,_] k' hm).elim⟩ (fun a' w' h=>hK _ a' w' (.inr ⟨i,_,hl,by rw [<- hb]; exact t2,rfl⟩) h)
   ·simp only [execOp,ho,hv,Sem.run_bind,s3,Result.andThen_ok,Sem.run_pure]
   ·rw [Ny (w:=w1) (by rw [v4]; exact r3),hb,hes]
    simp
 | @entry x _ _ j k b n seen i l p hj hm hn hp=>
  have hLj:=Iz hj
  have hLk:=Iz hm
  have e1:=Ie (show Ef σ false [x]=_ from hds)
  obtain⟨h1,h2,-⟩:=Ch ha e1
  unfold Cp at h1
  obtain⟨g,G,hv⟩:=h1
  obtain⟨b',m,r1,r2,r3,r4⟩:=ha.lo _ _ hLj
  have hgb:b'=g:=by rw [r1] at G; injection G
  subst hgb
  obtain⟨m',q1,⟨es,q2,q3,q4,q5⟩,-⟩:=ha.lo _ _ hLk
  have hmm:m=m':=by rw [r2] at q1; injection q1 with q1; injection q1
  subst hmm
  have hes:es.size=n:=by rw [hn,<- q3]; simp
  have hok:=q5 _ (aG3 hp)
  have hpe:=hp
  rw [<- q3,aLi,aNt] at hpe
  obtain⟨e,hei,rfl⟩:=Option.map_eq_some_iff.1 hpe
  have hb:=q4 i e hei
  obtain⟨hi,hie⟩:=aHe.1 hei
  have hfind:es.find? (fun x=>x.born == i)=some e:=by
   rw [Array.find?_eq_some_iff_getElem]
   refine⟨by rw [hb]; simp,i,hi,hie,fun q hq=>?_⟩
   have:=q4 q es[q] (by simp)
   rw [this]
   have:q≠i:=by omega
   simp [this]
  have hrun:(Instr.entry (.pointer (some ⟨b',0,none⟩))).run P w=.ok (.tuple #[e.key,e.val]) w:=by
   have hback:(seen ++ [i]).toArray.back?=some i:=by simp
   simp only [Instr.entry,getObj,Sem.run_bind,Sem.run,r3,q2,Result.andThen,hback,hes,hfind,bne_self_eq_false,aPn,if_false]
   rfl
  refine Ic ha hdst (d:=.tup [.val e.key,.val e.val]) (v:=.tuple #[e.key,e.val]) ?_ (fK hok.1 hok.2) (fun k' hk'=>(N8 [_,_] k' hk').elim) (fun a' w' h=>hK _ a' w' rfl h)
  simp only [execOp,ho,hv,Sem.run_bind,hrun,Result.andThen_ok,Sem.run_pure]
 | @clearP t x _ _ k off m b e sz bytes cs zc hS hz hL hl=>
  have hL:=Iz hL
  have e1:=Ie (show Ef σ true [x]=_ from hds)
  obtain⟨h1,h2,-⟩:=Ch ha e1
  unfold Cp at h1
  obtain⟨A,c,hv,-,-,hA,-⟩:=h1
  obtain⟨z,z1,z2,z3,z4,z5,-⟩:=uS hz hS w (K5 cx σ ρ w) m
  have ht:=hS.ht
  have hlo:=ha.lo _ _ hL
  rcases aH2 m with hm | hm
  ·subst hm
   refine fQ (lb':=.row e sz (Cu cs off (List.replicate 0 zc).flatten)) (d:=some (.tup [])) (v:=.tuple #[]) (w':=w) ha hdst hL (.inr ?_) ⟨rfl,rfl,rfl,rfl⟩ (fun b hb=>rfl) (fun I' hI=>⟨?_,fun x hx=>by injection hx with hx; subst hx; unfold Cp; exact⟨[],rfl,by unfold Cb; rfl⟩⟩) ⟨fun k' hk'=>hk'.elim,fun x k' hx hm=>by injection hx with hx; subst hx; exact (N8 [] k' hm).elim⟩ (fun a' w' h=>hK _ a' w' rfl h)
   ·have:(Builtin.clear_ #[t] o.type #[.slice A 0 c]).run P w=.ok (.tuple #[]) w:=by
     cases A <;> simp [Builtin.clear_,run_underlying ht]
    simp [execOp,ho,resolve,invoke,builtin,hv,this]
   ·rw [List.replicate_zero,List.flatten_nil,jW]
    obtain⟨n,us,q1,q2,q3⟩:=hlo
    exact⟨n,us,q1,q2,q3.keep_ (fun _ _=>rfl) fun b hb=>(hI b hb).1⟩
  ·obtain⟨g,G,rfl⟩:=hA hm
   have hlen:(List.replicate m zc).flatten.length=m * sz:=by simp [z3]
   obtain⟨X,hst,hnew⟩:=W5 (P:=P) (i:=off) hlo G z4 (fun u hu=>by
    obtain⟨l,h3,h4⟩:=aOq.1 hu
    rw [(aNx.1 h3).2] at h4
    exact z5 u h4) (by rw [hlen]; exact hl)
   have hzc:(Builtin.zeroCells z.cells m).toList=(List.replicate m z.cells.toList).flatten:=by
    unfold Builtin.zeroCells
    exact L9 z.cells m z.cells.size rfl (by rw [z2]; exact hS.hsz)
   refine fQ (lb':=.row e sz (Cu cs off (List.replicate m zc).flatten)) (d:=some (.tup [])) (v:=.tuple #[]) (w':=w.setRow g X) ha hdst hL (.inr ?_) ⟨rfl,rfl,rfl,Jd w g X⟩ (fun b hb=>Fo w g b X fun e=>hb (by show Dd (ρ k)=some b; rw [G,e])) (fun I' hI=>⟨hnew I' hI,fun x hx=>by injection hx with hx; subst hx; unfold Cp; exact⟨[],rfl,by unfold Cb; rfl⟩⟩) ⟨fun k' hk'=>hk'.elim,fun x k' hx hm=>by injection hx with hx; subst hx; exact (N8 [] k' hm).elim⟩ (fun a' w' h=>hK _ a' w' rfl h)
   have:(Builtin.clear_ #[t] o.type #[.slice (some ⟨g,off,none⟩) m c]).run P w=.ok (.tuple #[]) (w.setRow g X):=by
    obtain⟨m',rfl⟩:∃ m',m=m' + 1:=⟨m - 1,by omega⟩
    simp [Builtin.clear_,run_underlying ht,z1,hzc,hst]
   simp [execOp,ho,resolve,invoke,builtin,hv,this]
 | @copyR t t' x y _ _ k b d' e sz bytes cs cs' n hS hS' hL hs hn hn'=>
  have hL:=Iz hL
  obtain⟨b',rfl⟩:=hs
  obtain⟨e1,e2⟩:=K1 (show Ef σ true [x,y]=_ from hds)
  obtain⟨h1,-,-⟩:=Ch ha e1
  obtain⟨h2,-,-⟩:=Ch ha e2
  unfold Cp at h1 h2
  obtain⟨A,m,c,hv,hm,hmc,hc⟩:=h2.slice
  have hsz:=hS.hsz
  have hmn:m=n:=aGu hsz (hm.symm.trans hn')
  subst hmn
  rw [hv] at h2
  obtain⟨us',u1,u2,u3⟩:=h2.vals
  have hlo:=ha.lo _ _ hL
  obtain⟨N,us,q1,q2,q3⟩:=id hlo
  have hN:N=m:=aGu hsz (by rw [<- q1.1,<- q3.1]; exact hn)
  subst hN
  obtain⟨it,zv,y1,y2,y3,y4,y5⟩:=hS.hi
  have hsplice:Cu cs 0 cs'=cs':=by
   unfold Cu
   rw [aI4,hn',<- hn,List.take_zero,List.drop_length]
   simp
  rcases aH2 N with h0 | h0
  ·subst h0
   have hcs:cs=[]:=aFc (by simpa using hn)
   have hcs':cs'=[]:=aFc (by simpa using hn')
   subst hcs hcs'
   refine fQ (lb':=.row e sz []) (d:=some (.val (.int .i64 0))) (v:=.int .i64 0) (w':=w) ha hdst hL (.inr ?_) ⟨rfl,rfl,rfl,rfl⟩ (fun b hb=>rfl) (fun I' hI=>⟨?_,fun x hx=>by injection hx with hx; subst hx; exact Je rfl⟩) ⟨fun k' hk'=>hk'.elim,fun x k' hx hm=>by injection hx with hx; subst hx; unfold men at hm; exact hm.elim⟩ (fun a' w' h=>hK _ a' w' rfl h)
   ·have key:∀ B cap',(Builtin.copy_ #[t,t'] o.type #[.slice B 0 cap',.slice A 0 c]).run P w=.ok (.int .i64 0) w:=fun B cap'=>by
     cases B <;> cases A <;> simp [Builtin.copy_,run_underlying hS.ht,Builtin.lenOf,Builtin.firstCells,sizeOf,typeInfo,y1,storeCells,loadCells,loadCellsFrom,goInt]
    have hsl:∃ B cap',ρ k=.slice B 0 cap':=by
     rcases q1.2 with ⟨B,e,-⟩ | ⟨g,cap,cur,e,-⟩
     ·exact⟨_,_,e⟩
     ·exact⟨_,_,e⟩
    obtain⟨B,cap',hB⟩:=hsl
    simp [execOp,ho,resolve,invoke,builtin,hv,h1.1,hB,key]
   ·exact⟨0,us,q1,q2,q3.keep_ (fun _ _=>rfl) fun b hb=>(hI b hb).1⟩
  ·obtain⟨ad,rfl,-,hcell⟩:=u3 h0
   obtain⟨g,cap,hr,hcap,-,-⟩:=Mh q1 h0
   have G:Dd (ρ k)=some g:=by rw [hr]; exact G8 (by omega)
   obtain⟨X,hst,hnew⟩:=W5 (P:=P) (i:=0) hlo G u2 (X5 u2) (by rw [hn,hn']; omega)
   rw [hsplice] at hnew
   have hokN:E4 (.int .i64 (N:Int))=true:=by
    have e3:IntKind.i64.min=-9223372036854775808:=by decide
    have e4:IntKind.i64.max=9223372036854775807:=by decide
    unfold maxLen at hc
    exact Ih.2 ⟨by omega,by omega⟩
   refine fQ (lb':=.row e sz cs') (d:=some (.val (.int .i64 (N:Int)))) (v:=.int .i64 (N:Int)) (w':=w.setRow g X) ha hdst hL (.inr ?_) ⟨rfl,rfl,rfl,Jd w g X⟩ (fun b hb=>Fo w g b X fun e=>hb (by show Dd (ρ k)=some b; rw [G,e])) (fun I' hI=>⟨hnew I' hI,fun x hx=>by injection hx with hx; subst hx; exact Je hokN⟩) ⟨fun k' hk'=>hk'.elim,fun x k' hx hm=>by injection hx with hx; subst hx; unfold men at hm; exact hm.elim⟩ (fun a' w' h=>hK _ a' w' rfl h)
   have hload:=run_loadCells_list (P:=P) w ad us' hcell
   rw [u1] at hload
   have key:(Builtin.copy_ #[t,t'] o.type #[.slice (some ⟨g,0,none⟩) N cap,.slice (some ad) N c]).run P w=.ok (.int .i64 (N:Int)) (w.setRow g X):=by
    simp [Builtin.copy_,run_underlying hS.ht,Builtin.lenOf,Builtin.firstCells,sizeOf,typeInfo,y1,y3,hload,hst,goInt]
   simp [execOp,ho,resolve,invoke,builtin,hv,h1.1,hr,key]
 | @makeC t x y _ _ e sz bytes k k' n c b b' zc m hS hz hn cap hc hlt hxy hm=>
  subst hn hc
  obtain⟨e1,e2⟩:=K1 (show Ef σ false [x,y]=_ from hds)
  have hx:=Eo ha e1
  have hy:=Eo ha e2
  obtain⟨zv,z1,z2,z3,z4,z5,it,y1,y2,y3,y4⟩:=uS hz hS w (fun _=>False) m
  have hsz:=hS.hsz
  have hr:=run_make (P:=P) w t e it zv hS.ht y1 y2 k k' (m:Int) (cap:Int) (by omega) (by omega) (by
   rw [y4]
   have:((bytes * cap:Nat):Int)<=281474976710656:=by rw [aOt]; omega
   rwa [Int.natCast_mul] at this) (by omega)
  simp only [aIm,y3] at hr
  have hcells:(madeCells zv.cells (cap * sz)).toList=(List.replicate cap zv.cells.toList).flatten:=by
   unfold madeCells
   exact L9 zv.cells cap sz z2 hsz
  refine Xn (lb:=.row e sz (List.replicate m zc).flatten) (ks:=[]) (d:=.row tk) (w':=w.alloc (.cells (madeCells zv.cells (cap * sz)) e)) ha hdst hf0 (v:=.slice (some ⟨w.heap.size,0,none⟩) m cap) (vn:=.slice (some ⟨w.heap.size,0,none⟩) m cap) ?_ (ha.kept.alloc _) (by simp) (fun b hb _=>Below.heap_alloc w _ b hb) (fun b hb=>.inl (aO0 (E7 hb).1)) (fun I' hI=>⟨?_,?_⟩) ⟨fun k' hk'=>hk'.elim,fun k' hk'=>.inr (by unfold men at hk'; exact hk')⟩ (fun k' hk'=>by simp at hk') (fun a' w' h=>hK _ a' w' rfl h)
  ·simp [execOp,ho,hx,hy,hr]
  ·refine⟨m,(List.replicate m zv.cells.toList).flatten,World.rowOk_of (base:=0) ⟨by simp [z2],.inr ⟨w.heap.size,cap,madeCells zv.cells (cap * sz),rfl,aFf _,heap_alloc_new w _,by omega,by unfold maxLen; omega,size_madeCells _ _,?_⟩⟩,fun b hb=>.inl (by rw [<- (E7 hb).1]; exact ha.kept.2.2.2.1),z4.keep_ (fun b hb=>hb.elim) fun b hb=>hb.elim⟩
   rw [hcells]
   have:cap=m + (cap - m):=by omega
   rw [this,<- List.replicate_append_replicate,List.flatten_append,aOr (by simp [z2])]
   exact aHx (by simp [z2])
  ·unfold Cp
   simp [Gd,Value.oneCell']
 | @appZ t tn x y _ _ e sz bytes k kn n b b' zc m hS htn hz hn h0 hm=>
  subst hn
  obtain⟨e1,e2⟩:=K1 (show Ef σ true [x,y]=_ from hds)
  have hx:=Eo ha e1
  have hy:=Eo ha e2
  obtain⟨zv,z1,z2,z3,z4,z5,it,y1,y2,y3,y4⟩:=uS hz hS w (fun _=>False) m
  have hsz:=hS.hsz
  have hr:=Go.Lib.run_append_nil_zeros (P:=P) w t tn o.type e it zv k kn hS.ht htn y1 y2 m h0 (by rw [y3]; exact hsz) (by omega) (by rw [y4]; omega)
  have hge:=grownCap_ge w m 0 e
  have hcm:=grownCap_le_maxLen w m 0 e (by unfold maxLen; omega)
  have hzc:∀ q,(Builtin.zeroCells zv.cells q).toList=(List.replicate q zv.cells.toList).flatten:=fun q=>by
   unfold Builtin.zeroCells
   rw [z2]
   have:=L9 zv.cells q sz z2 hsz
   rw [z2] at this
   exact this
  generalize hcap:grownCap w m 0 e=cap at hr hge hcm
  have hsize:∀ q,(Builtin.zeroCells zv.cells q).size=q * sz:=fun q=>by unfold Builtin.zeroCells; simp [z2]
  refine Xn (lb:=.row e sz (List.replicate m zc).flatten) (ks:=[]) (d:=.row tk) (w':=w.drew.alloc (.cells (Builtin.zeroCells zv.cells m ++ Builtin.zeroCells zv.cells (cap - m)) e)) ha hdst hf0 (v:=.slice (some ⟨w.heap.size,0,none⟩) m cap) (vn:=.slice (some ⟨w.heap.size,0,none⟩) m cap) ?_ ((show cx.Kept w.drew from ha.kept).alloc _) (by have:=Y9 w.drew (.cells (Builtin.zeroCells zv.cells m ++ Builtin.zeroCells zv.cells (cap - m)) e); have h9:w.drew.heap.size=w.heap.size:=rfl; omega) (fun b hb _=>Below.heap_alloc w.drew _ b hb) (fun b hb=>.inl (aO0 (E7 hb).1)) (fun I' hI=>⟨?_,?_⟩) ⟨fun k' hk'=>hk'.elim,fun k' hk'=>.inr (by unfold men at hk'; exact hk')⟩ (fun k' hk'=>by simp at hk') (fun a' w' h=>hK _ a' w' rfl h)
  ·simp [execOp,ho,resolve,invoke,builtin,hx,hy,hr]
  ·refine⟨m,(List.replicate m zv.cells.toList).flatten,World.rowOk_of (base:=0) ⟨by simp [z2],.inr ⟨w.heap.size,cap,_,rfl,aFf _,heap_alloc_new w.drew _,hge,hcm,?_,?_⟩⟩,fun b hb=>.inl (by rw [<- (E7 hb).1]; exact ha.kept.2.2.2.1),z4.keep_ (fun b hb=>hb.elim) fun b hb=>hb.elim⟩
   ·rw [Array.size_append,hsize,hsize,<- aLf]
    congr 1
    omega
   ·rw [Array.toList_append,hzc,aOr (by simp [z2])]
    exact aHx (by simp [z2])
  ·unfold Cp
   simp [Gd,Value.oneCell']
 | buildV hS hz hlen hd hoc h0 hl=>exact sU hS hz hlen hd h0 hoc ha (show Ef σ false _=_ from hds) ho hf0 hdst (fun a' w' h=>hK _ a' w' rfl h)
 | @extV f xs tys _ dsA _ vs v hd hv h=>
  have hds':Ef σ true (.func f :: xs.toList)=some ((.val (.func (.func f) #[] #[]),none) :: dsA):=by
   have:(Op.call ⟨.value (.func f),xs,tys⟩).operands.toList=.func f :: xs.toList:=by simp [Op.operands,Call.operands]
   rw [<- this]; exact hds
  obtain⟨-,e2⟩:=Nx hds'
  have hr:=(Mi ha e2).1
  have e1:=Cb.dvals _ _ _ hr hd
  have hok:∀ u∈vs,E4 u=true:=bM hr hd
  refine Ic ha hdst (v:=v) ?_ (Je (hv hok)) (fun k' hk'=>Sn k' hk') (fun a' w' h=>hK _ a' w' rfl h)
  have h1:=h w
  have e0:(xs.toList.map a.eval).toArray=xs.map a.eval:=by rw [<- aP5,aPk]
  rw [<- e1,e0] at h1
  have e4:a.eval (.func f)=.func (.func f) #[] #[]:=rfl
  have e3:(#[] ++ Array.map a.eval xs ++ #[]:Array Value)=Array.map a.eval xs:=by simp
  simp only [execOp,ho,resolve,e4,Deferred.ofValue,Sem.run_bind,Sem.run_pure,Result.andThen_ok,invoke,e3]
  exact h1
 | appN hS hc hs hl _ hnp=>exact aAn hS hc hs hl (aEn hnp) ha hds ho hf0 hdst (fun a' w' h=>hK _ a' w' rfl h)
 | stoH ht hp hl _ _ hnp hnj=>exact aCh ht hp hl (aEn hnp) (aEn hnj) ha hds ho hf0 hdst (fun a' w' h=>hK _ a' w' rfl h)
 | buildT hS hz hlen hd hoc hr hpo h1 h3 hj hnp=>exact tU hS hz hlen hd hoc hr hpo h1 h3 (Iz hj) (aEn hnp) ha (show Ef σ false [_]=_ from hds) ho hf hdst (fun a' w' h=>hK _ a' w' rfl h)
 | appT hS _ _ hne hl hnp hnp'=>exact aAr hS hne hl (aEn hnp) (aEn hnp') ha hds ho hf hdst (fun a' w' h=>hK _ a' w' rfl h)
 | @storeT t x y _ _ k p e sz o' e2 sz2 s hh cs z ag d b cs' ht hs hi hf ck hd _=>
  obtain⟨e1,e2'⟩:=K1 (show Ef σ true [x,y]=_ from hds)
  obtain⟨h1,h2,h3⟩:=Ch ha e1
  obtain⟨h4,-,-⟩:=Ch ha e2'
  have hL:=h3 _ _ rfl rfl
  unfold Cp at h1
  obtain⟨g,G,hv⟩:=h1
  obtain⟨n,us,vs,q⟩:=ha.lo _ _ hL
  obtain⟨us',u1,u2,u3⟩:=Md h4 hd.ok
  have hr':=Gw.rd hd u2
  have hl:=q.hl
  have hus':us'.length=z:=by rw [<- u2.length]; exact hs
  obtain⟨X,hrun,hrow⟩:=Vl (P:=P) (p:=p) ht q.row G u1 hus' (by omega) u3
  have hcs':cs'.length=z:=by rw [hr'.1,hus']
  refine fQ (lb':=.tree e sz o' e2 sz2 s hh (Cu cs p cs')) (d:=none) (v:=undef) (w':=w.setRow g X) ha hdst hL (.inl ⟨?_,rfl⟩) ⟨rfl,rfl,rfl,Jd w g X⟩ (fun b hb=>Fo w g b X fun e=>hb (by rw [e]; exact .inl G)) (fun I' hI=>⟨⟨n,_,vs,q.flatW G hrow hr' (by omega) (by rw [hcs']; exact hf) hI⟩,fun x hx=>by cases hx⟩) ⟨fun k' hk'=>(ha.usedL _ _ hL).2 k' hk',fun x k' hx=>by cases hx⟩ (fun a' w' h=>hK _ a' w' rfl h)
  simp [execOp,ho,hv,hrun]
 | @storeN t x y _ _ k s i p e sz o' e2 sz2 cs z ag d b cs' c2 ht hc hs hi ck hd _=>
  obtain⟨e1,e2'⟩:=K1 (show Ef σ true [x,y]=_ from hds)
  obtain⟨h1,h2,h3⟩:=Ch ha e1
  obtain⟨h4,-,-⟩:=Ch ha e2'
  have hL:=h3 _ _ rfl rfl
  unfold Cp at h1
  obtain⟨vs',u,g,r1,r2,G,hv⟩:=h1
  obtain⟨n,us,vs,q⟩:=ha.lo _ _ hL
  have e0:=q.hs.symm.trans r1
  injection e0 with e0
  subst e0
  obtain⟨us',u1,u2,u3⟩:=Md h4 hd.ok
  have hr':=Gw.rd hd u2
  obtain⟨p0,n2,us2,c0,p1,p2,p3,p4⟩:=q.nest i u r2 (by simp)
  rw [hc] at p1
  injection p1 with p1
  injection p1 with _ p1
  subst p1
  have hl:=p3.1
  have hus':us'.length=z:=by rw [<- u2.length]; exact hs
  obtain⟨X,hrun,hrow⟩:=Vl (P:=P) (p:=p) ht p2 G u1 hus' (by omega) u3
  refine fQ (lb':=.tree e sz o' e2 sz2 s none (cs.set (i * sz + o') (.sl sz2 (Cu c2 p cs')))) (d:=none) (v:=undef) (w':=w.setRow g X) ha hdst hL (.inl ⟨?_,rfl⟩) ⟨rfl,rfl,rfl,Jd w g X⟩ (fun b hb=>Fo w g b X fun e=>hb (by rw [e]; exact .inr ⟨vs,i,u,q.hs,r2,by simp,G⟩)) (fun I' hI=>⟨⟨n,us,vs,q.nestW r2 G hrow hI ((p3.splice hr' p).keep_ (fun b hb=>(hI b hb).2) fun b hb=>(hI b hb).1)⟩,fun x hx=>by cases hx⟩) ⟨fun k' hk'=>(ha.usedL _ _ hL).2 k' hk',fun x k' hx=>by cases hx⟩ (fun a' w' h=>hK _ a' w' rfl h)
  simp [execOp,ho,hv,hrun]
 | @lenV t x _ _ k ds e bytes hS=>
  have e1:=Ie (show Ef σ true [x]=_ from hds)
  obtain⟨h1,-,h3⟩:=Ch ha e1
  unfold Cp at h1
  obtain⟨b,vs,q1,q2,q3,q4,q5,q6⟩:=ha.lo _ _ (h3 _ _ rfl rfl)
  have hlen:=q6.length
  refine Ic ha hdst (v:=.int .i64 (ds.length:Int)) ?_ (Je (Ih.2 ?_)) (fun k' hk'=>Sn k' hk') (fun a' w' h=>hK _ a' w' rfl h)
  ·have:(Builtin.len_ #[t] o.type #[.slice (some ⟨b,0,none⟩) vs.length vs.length]).run P w=.ok (.int .i64 (ds.length:Int)) w:=by
    simp [Builtin.len_,run_underlying hS.ht,goInt,hlen]
   simp [execOp,ho,resolve,invoke,builtin,h1.1,q1,this]
  ·have e3:IntKind.i64.min=-9223372036854775808:=by decide
   have e4:IntKind.i64.max=9223372036854775807:=by decide
   unfold maxLen at q2
   omega
 | @idxV t x i _ _ k ds e bytes kk b n j hS hj hl=>
  subst hj
  obtain⟨e1,e2⟩:=K1 (show Ef σ true [x,i]=_ from hds)
  obtain⟨h1,h2,h3⟩:=Ch ha e1
  have hi:=Eo ha e2
  unfold Cp at h1
  obtain⟨b',vs,q1,q2,q3,q4,q5,q6⟩:=ha.lo _ _ (h3 _ _ rfl rfl)
  have hlen:=q6.length
  have h1':=h1.1
  rw [q1] at h1'
  refine Ic ha hdst (v:=.pointer (some ⟨b',j * 1,none⟩)) ?_ (by unfold Cp; exact⟨b',by rw [q1]; exact G8 q2.1,by rw [Nat.mul_one]⟩) (fun k' hk'=>h2 k' (by unfold men at *; exact hk')) (fun a' w' h=>hK _ a' w' rfl h)
  simp [execOp,ho,h1',hi,Sp hS _ vs.length vs.length kk (j:=j) (by omega),Jg]
 | @loadV t x _ _ k i ds e sz d ht hd=>
  have e1:=Ie (show Ef σ true [x]=_ from hds)
  obtain⟨h1,-,h3⟩:=Ch ha e1
  have hL:=h3 _ _ rfl rfl
  unfold Cp at h1
  obtain⟨g,G,hv⟩:=h1
  obtain⟨b',vs,q1,q2,q3,q4,q5,q6⟩:=ha.lo _ _ hL
  have hgb:b'=g:=by rw [q1] at G; exact (E7 G).1
  subst hgb
  obtain⟨v,hv',hr⟩:=q6.at_ hd
  have hc:w.cell? ⟨b',i,none⟩=some v:=by simp [World.cell?,q3,hv']
  refine Ic ha hdst (v:=v) ?_ hr (fun k' hk'=>(ha.usedL _ _ hL).2 k' (by unfold Oj; exact Ry.2 ⟨d,aG3 hd,hk'⟩)) (fun a' w' h=>hK _ a' w' rfl h)
  simp [execOp,ho,hv,K8 ht hc]
theorem Nv {k0 k:Nat} {lb:LB} {d:Option DV} (h:(Sr k0 lb d).l k≠none):k=k0:=by
 have h':(bif Nat.beq k k0 then some (some lb) else none)≠none:=h
 cases hb:Nat.beq k k0 with
 | true=>exact aEr hb
 | false=>rw [hb] at h'; exact absurd rfl h'
theorem R0 {tk k:Nat} {lb:LB} {d:DV} (h:(M6 tk lb d).l k≠none):k=tk:=by
 have h':(bif Nat.beq k tk then some (some lb) else none)≠none:=h
 cases hb:Nat.beq k tk with
 | true=>exact aEr hb
 | false=>rw [hb] at h'; exact absurd rfl h'
theorem Ue {el:List (Nat×Option LB)} {d:Option DV} {k:Nat} (h:(X9 el d).l k≠none):k∈el.map (·.1):=by
 have h:E5 el k≠none:=h
 cases hl:E5 el k with
 | none=>exact absurd hl h
 | some x=>exact aIk.2 ⟨_,F3 hl,rfl⟩
theorem ExtR.key {tk:Nat} {op:Op} {ty:TypeId} {ds:List (DV×Option LB)} {env:cK} {wr:List Nat} {E:Lz->Prop} {np:Nat} (h:ExtR P np tk op ty ds env wr E):∀ e,E e->∀ k,e.l k≠none->k∈wr\/(tk<=k/\k < tk + 8):=by
 cases h with
 | makeMap=>rintro e rfl k hk; have:=R0 hk; exact .inr (by omega)
 | lookR=>rintro e rfl k hk; exact absurd rfl hk
 | lookM=>rintro e rfl k hk; exact absurd rfl hk
 | put=>rintro e rfl k hk; exact .inl (aEp.2 (Nv hk))
 | range=>rintro e rfl k hk; have:=R0 hk; exact .inr (by omega)
 | next=>
  rintro e (⟨-,rfl⟩ | ⟨i,p,-,-,rfl⟩) k hk
  ·exact .inl (aEp.2 (Nv hk))
  ·exact .inl (aEp.2 (Nv hk))
 | entry=>rintro e rfl k hk; exact absurd rfl hk
 | clearP=>rintro e rfl k hk; exact .inl (aEp.2 (Nv hk))
 | copyR=>rintro e rfl k hk; exact .inl (aEp.2 (Nv hk))
 | makeC=>rintro e rfl k hk; have:=R0 hk; exact .inr (by omega)
 | appZ=>rintro e rfl k hk; have:=R0 hk; exact .inr (by omega)
 | buildV=>rintro e rfl k hk; have:=R0 hk; exact .inr (by omega)
 | storeT=>rintro e rfl k hk; exact .inl (aEp.2 (Nv hk))
 | appN=>rintro e rfl k hk; have:=Ue hk; simp at this; rcases this with rfl | rfl <;> first | (exact .inr (by omega)) | (exact .inl (aEp.2 rfl))
 | stoH=>rintro e rfl k hk; have:=Ue hk; simp at this; rcases this with rfl | rfl | rfl <;> first | (exact .inr (by omega)) | (exact .inl (by simp))
 | buildT=>rintro e rfl k hk; have:=Ue hk; simp at this; rcases this with rfl | rfl | rfl <;> first | (exact .inr (by omega)) | (exact .inl (by simp))
 | appT=>rintro e rfl k hk; have:=Ue hk; simp at this; rcases this with rfl | rfl | rfl | rfl <;> first | (exact .inr (by omega)) | (exact .inl (by simp))
 | storeN=>rintro e rfl k hk; exact .inl (aEp.2 (Nv hk))
 | lenV=>rintro e rfl k hk; exact absurd rfl hk
 | extV=>rintro e rfl k hk; exact absurd rfl hk
 | idxV=>rintro e rfl k hk; exact absurd rfl hk
 | loadV=>rintro e rfl k hk; exact absurd rfl hk
theorem ExtR.sub {tk:Nat} {op:Op} {ty:TypeId} {ds:List (DV×Option LB)} {env:cK} {wr:List Nat} {E:Lz->Prop} {np:Nat} (h:ExtR P np tk op ty ds env wr E):∀ k,k∈wr->k∈env.map (·.1):=by
 cases h with
 | put _ _ hm=>intro k hk; rw [aEp.1 hk]; exact aIk.2 ⟨_,hm,rfl⟩
 | next hj=>intro k hk; rw [aEp.1 hk]; exact aIk.2 ⟨_,hj,rfl⟩
 | clearP _ _ hm=>intro k hk; rw [aEp.1 hk]; exact aIk.2 ⟨_,hm,rfl⟩
 | copyR _ _ hm=>intro k hk; rw [aEp.1 hk]; exact aIk.2 ⟨_,hm,rfl⟩
 | storeT _ _ _ _ _ hm=>intro k hk; rw [aEp.1 hk]; exact hm
 | appN _ _ _ _ hm=>intro k hk; rw [aEp.1 hk]; exact hm
 | stoH _ _ _ hm hj=>
  intro k hk
  simp at hk
  rcases hk with rfl | rfl
  ·exact hm
  ·exact hj
 | buildT _ _ _ _ _ _ _ _ _ hj=>intro k hk; rw [aEp.1 hk]; exact aIk.2 ⟨_,hj,rfl⟩
 | appT _ hL hL'=>
  intro k hk
  simp at hk
  rcases hk with rfl | rfl
  ·exact hL
  ·exact hL'
 | storeN _ _ _ _ _ hm=>intro k hk; rw [aEp.1 hk]; exact hm
 | _=>intro k hk; cases hk
theorem Yn {place:Nat->Option (Nat×Nat)} {i:Nat} {d:DV}:∀ {l:List (Nat×DV)} {cells r:List DV},Gt place cells (l ++ [(i,d)])=some r->∀ x∈Co d,x∈r
 | [],cells,r,h,x,hx=>by
  rw [aOl] at h
  unfold Gt at h
  cases hp:place i with
  | none=>rw [hp] at h; cases h
  | some q=>
   obtain⟨off,size⟩:=q
   rw [hp] at h
   simp only [] at h
   cases hb:(Nat.beq (Co d).length size && Nat.ble (off + size) cells.length) with
   | false=>rw [hb] at h; cases h
   | true=>
    rw [hb] at h
    unfold Gt at h
    injection h with h
    rw [<- h]
    unfold Cu
    exact aJt _ (aKt _ hx)
 | (i',d') :: l,cells,r,h,x,hx=>by
  rw [aOp] at h
  unfold Gt at h
  cases hp:place i' with
  | none=>rw [hp] at h; cases h
  | some q=>
   obtain⟨off,size⟩:=q
   rw [hp] at h
   simp only [] at h
   cases hb:(Nat.beq (Co d').length size && Nat.ble (off + size) cells.length) with
   | false=>rw [hb] at h; cases h
   | true=>
    rw [hb] at h
    exact Yn h x hx
theorem Gw.no_clo:∀ {ks:List (Option Nat)} {ds:List DV} {cs:List C},Gw ks ds cs->∀ d∈ds,∀ f n l,d≠.clo f n l
 | _,_,_,.nil,d,hd,_,_,_=>by cases hd
 | _,_,_,.cons h hs,d,hd,f,n,l=>by
  rcases aE7.1 hd with rfl | hd
  ·rintro rfl; cases h
  ·exact hs.no_clo d hd f n l
theorem Gw.no_row:∀ {ks:List (Option Nat)} {ds:List DV} {cs:List C},Gw ks ds cs->∀ d∈ds,∀ j,d≠.row j
 | _,_,_,.nil,d,hd,_=>by cases hd
 | _,_,_,.cons h hs,d,hd,j=>by
  rcases aE7.1 hd with rfl | hd
  ·rintro rfl; cases h
  ·exact hs.no_row d hd j
theorem ExtR.excl {tk:Nat} {op:Op} {ty:TypeId} {ds:List (DV×Option LB)} {env:cK} {wr wr':List Nat} {e:Lz} {E:Lz->Prop} {np:Nat} (h':Fi P tk op ty ds wr e) (h:ExtR P np tk op ty ds env wr' E):False:=by
 cases h with
 | makeMap=>cases h'
 | lookR=>cases h'
 | lookM=>cases h'
 | put=>cases h'
 | range=>cases h'
 | next=>cases h'
 | entry=>cases h'
 | clearP=>cases h'
 | copyR _ _ _ hs=>obtain⟨b',rfl⟩:=hs; cases h'
 | makeC hS hz hn hc hlt hxy=>
  cases h' with
  | makeSl hS' hz' hn' hm' hk' hc' hxy'=>exact hxy hxy'
 | appZ=>
  cases h' with
  | callV2 hb=>exact absurd rfl hb
  | append _ _ hs _=>cases hs
 | buildV hS hz hlen hd hoc h0 hl=>
  cases h' with
  | buildSl hS' hz' hlen' hd' hk hc ho'=>
   rw [hl] at hd'
   have:=Yn hd' _ (aEp.2 rfl)
   exact hc.no_clo _ this _ _ _ rfl
 | storeT=>cases h'
 | storeN=>cases h'
 | appN=>cases h' with | append _ ht _ _=>cases ht
 | stoH=>cases h'
 | @buildT t _ _ x d b e sz o e2 sz2 bytes z r pre post ck1 ck2 c1 c2 c3 j hS hz hlen hd hoc hr hpo h1 h3 hj _=>
  cases h' with
  | buildSl hS' hz' hlen' hd' hk hc ho'=>
   obtain⟨rfl,rfl⟩:=hS.uniq hS'
   obtain rfl:=hz.uniq hz'
   have h4:some r=some _:=hd.symm.trans hd'
   injection h4 with h4
   subst h4
   exact hc.no_row (.row j) (by rw [hr]; simp) j rfl
 | appT hS=>
  cases h' with
  | append _ ht _ _=>cases ht
 | lenV=>
  cases h' with
  | len _ h=>cases h
 | idxV=>cases h'
 | extV=>cases h'
 | loadV=>cases h'
end
end Go.Proofs.YtkioneinddihlaaGreat
