import Derived.Test.YtboglmbblmakjaaGreatDoorEC
import Derived.Maps.RangeWalk
import Derived.Laws.Externs
import Derived.Lib.Bytealg
import Derived.Lib.AppendZeros
import Derived.Test.YtboglmbblmakjaaGreatDoorPU
set_option linter.unusedVariables false
set_option linter.unusedSimpArgs false
namespace Go.Proofs.YtboglmbblmakjaaGreatDoor
open Go.RowKit
open Go.ChangeMaps (setBlock)
abbrev qK:=List (Nat×Option LB)
theorem M6 {σ:St} {l:List Nat} {j:Nat} {lb:LB} (h:(j,some lb)∈Kz σ l):σ.L j=some lb:=by
 obtain⟨k,-,hk⟩:=aP8.1 h
 injection hk with h1 h2
 subst h1
 exact h2
structure uC (P:Program) (kt:TypeId) {κ:Type} (f:κ->Value):Prop where
 chk:∀ (e:Bool) x w,(Instr.checkKey e 10000 kt (f x)).run P w=.ok () w
 find:∀ x (es:List MapEntry) (xs:List κ) w,es.map (·.key)=xs.map f->∃ r,(Instr.findKey kt (f x) es).run P w=.ok r w/\match r with
  | none=>x∉xs
  | some (i,v)=>∃ e,es[i]?=some e/\v=e.val/\e.key=f x/\xs[i]?=some x/\∀ j,j < i->xs[j]?≠some x
 same:∀ x,Instr.sameBits 10000 (f x) (f x)=true
section
variable {κ ν:Type} [DecidableEq κ]
def Vj (f:κ->Value) (g:ν->Value) (l:List (κ×ν)):List (Value×Value):=l.map fun p=>(f p.1,g p.2)
theorem nH {l:List (κ×ν)} {x:κ} (h:x∉l.map (·.1)) (z:ν):Pm l x z=z/\dE l x=false/\l.findIdx? (fun p=>decide (p.1=x))=none:=by
 have hn:∀ p∈l,¬ decide (p.1=x)=true:=fun p hp hd=>h (aP8.2 ⟨p,hp,aDm hd⟩)
 refine⟨?_,?_,?_⟩
 ·unfold Pm
  rw [List.find?_eq_none.2 hn]
 ·unfold dE
  cases ha:l.any fun p=>decide (p.1=x) with
  | false=>rfl
  | true=>
   obtain⟨p,hp,hd⟩:=aLm.1 ha
   exact absurd hd (hn p hp)
 ·rw [bA4]
  intro p hp
  simpa using hn p hp
theorem nJ {l:List (κ×ν)} {x:κ} {i:Nat} (h:(l.map (·.1))[i]?=some x) (hj:∀ j,j < i->(l.map (·.1))[j]?≠some x) (z:ν):∃ v,l[i]?=some (x,v)/\Pm l x z=v/\dE l x=true/\l.findIdx? (fun p=>decide (p.1=x))=some i:=by
 have hi:i < l.length:=by
  have:=(aBe.1 h).1
  simpa using this
 have hx:l[i].1=x:=by
  rw [aKm,aBb hi] at h
  injection h
 have hf:l.findIdx? (fun p=>decide (p.1=x))=some i:=by
  rw [aLb]
  refine⟨hi,by rw [hx]; exact aBd rfl,fun j hjl=>?_⟩
  have hj':=hj j hjl
  rw [aKm,aBb (by omega)] at hj'
  simp only [aU9]
  intro e
  exact hj' (by rw [<- e]; rfl)
 refine⟨l[i].2,by rw [aBb hi,<- hx],?_,?_,hf⟩
 ·unfold Pm
  have:l.find? (fun p=>decide (p.1=x))=some l[i]:=by
   rw [List.find?_eq_some_iff_getElem]
   refine⟨by rw [hx]; exact aBd rfl,i,hi,rfl,fun j hjl=>?_⟩
   have hj':=hj j hjl
   rw [aKm,aBb (by omega)] at hj'
   simp only [aWr,decide_eq_false_iff_not]
   intro e
   exact hj' (by rw [<- e]; rfl)
  rw [this]
 ·exact aLm.2 ⟨l[i],List.getElem_mem hi,by rw [hx]; exact aBd rfl⟩
omit [DecidableEq κ] in
theorem sQ {f:κ->Value} {g:ν->Value} {l:List (κ×ν)} {es:List MapEntry} (h:es.map (fun e=>(e.key,e.val))=Vj f g l):es.map (·.key)=(l.map (·.1)).map f:=by
 have:=congrArg (List.map Prod.fst) h
 unfold Vj at this
 rw [List.map_map,List.map_map] at this
 rw [List.map_map]
 exact this
omit [DecidableEq κ] in
theorem aNq {f:κ->Value} {g:ν->Value} {l:List (κ×ν)} {es:List MapEntry} (h:es.map (fun e=>(e.key,e.val))=Vj f g l) {i:Nat} {e:MapEntry} {p:κ×ν} (h1:es[i]?=some e) (h2:l[i]?=some p):e.key=f p.1/\e.val=g p.2:=by
 have:=congrArg (fun q:List (Value×Value)=>q[i]?) h
 unfold Vj at this
 simp only [aKm,h1,h2,aZk] at this
 injection this with this
 injection this with a b
 exact⟨a,b⟩
end
section
variable {P:Program} {w:World}
theorem aCi {κ ν:Type} [DecidableEq κ] {t kt vt:TypeId} {f:κ->Value} {g:ν->Value} {l:List (κ×ν)} {m:Nat} {x:κ} {z:ν} (ht:P.underlying t=some (.map kt vt)) (hK:uC P kt f) (hz:∀ w,(zeroValue vt).run P w=.ok (g z) w) (hm:Za w m (Vj f g l)) (ok:Bool) :
  (Instr.lookup t (.map (some m)) (f x) ok).run P w=.ok (bif ok then .tuple #[g (Pm l x z),.bool (dE l x)] else g (Pm l x z)) w:=by
 obtain⟨es,h1,h2,h3,h4⟩:=hm
 obtain⟨r,hr,hs⟩:=hK.find x es.toList (l.map (·.1)) w (sQ h2)
 simp only [Instr.lookup,Sem.run_bind,run_underlying ht,Result.andThen_ok,Go.MapKept.run_getObj_map h1,Sem.run_pure,hK.chk,hr]
 cases r with
 | none=>
  obtain⟨q1,q2,-⟩:=nH hs z
  rw [q1,q2]
  simp only [Sem.run_bind,hz,Result.andThen_ok,Sem.run_pure]
  cases ok <;> rfl
 | some q=>
  obtain⟨i,v⟩:=q
  obtain⟨e,e1,rfl,e2,e3,e4⟩:=hs
  obtain⟨v,q0,q1,q2,-⟩:=nJ e3 e4 z
  have:=aNq h2 e1 q0
  rw [q1,q2,this.2]
  cases ok <;> rfl
theorem Xa (r:Nat) (o:Obj):(setBlock w r o).heap.size=w.heap.size:=by simp [setBlock]
theorem Wd {r b:Nat} (o:Obj) (h:b≠r):(setBlock w r o).heap[b]?=w.heap[b]?:=by
 simp [setBlock,aTm,Ne.symm h]
theorem Tw {r:Nat} {o o':Obj} (h:w.heap[r]?=some o'):(setBlock w r o).heap[r]?=some o:=by
 have:=(aF8.1 h).1
 simp [setBlock,aTm,this]
theorem aIi {κ ν:Type} [DecidableEq κ] {t kt vt:TypeId} {f:κ->Value} {g:ν->Value} {l:List (κ×ν)} {m:Nat} {x:κ} {v:ν} (ht:P.underlying t=some (.map kt vt)) (hK:uC P kt f) (hm:Za w m (Vj f g l)) (hkx:G6 (f x)=true) (hgv:G6 (g v)=true) :
  ∃ es,(Instr.mapUpdate t (.map (some m)) (f x) (g v)).run P w=.ok () (setBlock w m (.map es es.size))/\Za (setBlock w m (.map es es.size)) m (Vj f g (Rc l x v)):=by
 obtain⟨es,h1,h2,h3,h4⟩:=hm
 obtain⟨r,hr,hs⟩:=hK.find x es.toList (l.map (·.1)) w (sQ h2)
 have hlen:es.size=l.length:=by
  have:=congrArg List.length h2
  simpa [Vj] using this
 cases r with
 | none=>
  obtain⟨q1,q2,q3⟩:=nH (l:=l) hs v
  refine⟨es.push { key:=f x,val:=g v,born:=es.size },?_,?_⟩
  ·simp only [Instr.mapUpdate,Sem.run_bind,run_underlying ht,Result.andThen_ok,Go.MapKept.run_getObj_map h1,hK.chk,hr,Go.MapKept.run_setObj_map _ h1,Array.size_push]
   rfl
  ·refine⟨_,Tw h1,?_,fun i e hi=>?_,fun p hp=>?_⟩
   ·unfold Rc
    rw [q3]
    simp only [Array.toList_push,aUk,h2,aUl,List.map_nil]
    unfold Vj
    rw [aUk]
    rfl
   ·rw [Array.getElem?_push] at hi
    split at hi
    ·injection hi with hi
     subst hi
     rename_i h; exact h.symm
    ·exact h3 i e hi
   ·unfold Rc at hp
    rw [q3] at hp
    unfold Vj at hp
    rw [aUk] at hp
    rcases aKi.1 hp with hp | hp
    ·exact h4 p hp
    ·rw [aUl,List.map_nil,aF2] at hp
     subst hp
     exact⟨hkx,hgv⟩
 | some q=>
  obtain⟨i,v0⟩:=q
  obtain⟨e,e1,rfl,e2,e3,e4⟩:=hs
  obtain⟨v1,q0,-,-,q3⟩:=nJ e3 e4 v
  have hi:i < es.size:=by
   have:=(aBe.1 e1).1
   simpa using this
  have e1':es[i]?=some e:=by rw [<- aUo]; exact e1
  refine⟨es.modify i fun e=>{ e with key:=f x,val:=g v },?_,?_⟩
  ·have hst:(Instr.keyThatStays (((es[i]?).map (·.key)).getD (f x)) (f x)).run P w=.ok (f x) w:=by
    rw [e1']
    simp only [aZk,Option.getD_some,e2,Instr.keyThatStays,hK.same,if_true]
    rfl
   simp only [Instr.mapUpdate,Sem.run_bind,run_underlying ht,Result.andThen_ok,Go.MapKept.run_getObj_map h1,hK.chk,hr,hst,Go.MapKept.run_setObj_map _ h1,Array.size_modify]
   rfl
  ·have hlist:(es.modify i fun e=>{ e with key:=f x,val:=g v }).toList.map (fun e=>(e.key,e.val))=Vj f g (Rc l x v):=by
    unfold Rc
    rw [q3]
    apply List.ext_getElem?
    intro j
    have hj:=congrArg (fun q:List (Value×Value)=>q[j]?) h2
    simp only [aKm] at hj
    unfold Vj at hj ⊢
    rw [aKm,aKm,aUo,bDf,List.getElem?_set]
    rw [aKm,aUo] at hj
    by_cases hij:i=j
    ·subst hij
     rw [if_pos rfl,if_pos rfl,if_pos (by omega),e1']
     rfl
    ·rw [if_neg hij,if_neg hij]
     exact hj
   refine⟨_,Tw h1,hlist,fun j e' hj=>?_,fun p hp=>?_⟩
   ·rw [bDf] at hj
    split at hj
    ·rename_i hij
     subst hij
     rw [e1'] at hj
     injection hj with hj
     subst hj
     exact h3 i e e1'
    ·exact h3 j e' hj
   ·unfold Rc at hp
    rw [q3] at hp
    unfold Vj at hp
    obtain⟨q,hq,rfl⟩:=aP8.1 hp
    rcases bBi hq with hq | rfl
    ·exact h4 _ (aP8.2 ⟨q,hq,rfl⟩)
    ·exact⟨hkx,hgv⟩
end
def aL (k0:Nat) (lb:LB) (d:Option DV):Q6:=⟨d,fun k=>bif Nat.beq k k0 then some (some lb) else none⟩
section
variable {P:Program} {cx:Cx} {ρ:Nat->Value} {σ:St} {a:Act} {w w':World} {o:Oper} {K:Act->World->Prop} {Q:Exit->Act->World->Prop}
theorem aDq (ha:Fg cx ρ σ a w) (hdst:∀ t,o.dst=some t->t < cx.N) {k0:Nat} {lb lb':LB} {d:Option DV} {v:Value} (hL:σ.L k0=some lb) (hrun:(execOp a.eval o).run P w=.ok .skip w'/\v=undef\/(execOp a.eval o).run P w=.ok (.value v) w')
  (hw:w'.os=w.os/\w'.tape=w.tape/\w'.output=w.output/\w'.heap.size=w.heap.size) (hb:∀ b,Dg (ρ k0)≠some b->w'.heap[b]?=w.heap[b]?)
  (hnew:∀ I':Nat->Prop,(∀ b,O1 cx σ ρ w b->I' b/\w'.heap[b]?=w.heap[b]?)->U2 cx ρ I' w' (ρ k0) lb'/\∀ x,d=some x->Dk ρ I' w' x v) (hu:(∀ k',Wt lb' k'->σ.U k'=true)/\∀ x k',d=some x->men x k'->σ.U k'=true)
  (hK:∀ a' w',O8 cx (σ.app o.dst (aL k0 lb' d)) a' w'->K a' w'):o.wp P a w K Q:=by
 have hl:∀ k lb1,(aL k0 lb' d).l k=some (some lb1)->k=k0/\lb1=lb':=fun k lb1 h=>by
  have h':(bif Nat.beq k k0 then some (some lb') else none)=some (some lb1):=h
  cases hb:Nat.beq k k0 with
  | true=>
   rw [hb] at h'
   injection h' with h'
   injection h' with h'
   exact⟨aFs hb,h'.symm⟩
  | false=>rw [hb] at h'; cases h'
 have hl0:(aL k0 lb' d).l k0≠none:=by
  have:(aL k0 lb' d).l k0=bif Nat.beq k0 k0 then some (some lb') else none:=rfl
  rw [this]; simp
 obtain⟨c1,c2,c3,c4,c5⟩:=ha.kept
 obtain⟨w1,w2,w3,w4⟩:=hw
 have key:O8 cx (σ.app o.dst (aL k0 lb' d)) (a.put o.dst v) w':=by
  refine⟨ρ,ha.app (v:=v) ⟨w1.trans c1,w2.trans c2,w3.trans c3,by rw [w4]; exact c4,fun b hb' hM=>?_⟩ (by rw [w4]; exact aKp _) hdst (fun _ _=>rfl) (fun b _ h=>hb b fun e=>h k0 lb hl0 hL e) (fun k lb1 b h1 h2=>?_) (fun k k' lb1 lb2 b h1 h2 _ _=>by rw [(hl k lb1 h1).1,(hl k' lb2 h2).1]) (fun hI _=>?_) ⟨fun k lb1 k' h1 h2=>?_,fun d' k' h1 h2=>?_⟩ (fun k lb1 b h1 h2 h3=>by obtain⟨rfl,rfl⟩:=hl k lb1 h1; exact ha.fresh k lb b hL h2 h3)⟩
  ·refine (hb b fun e=>?_).trans (c5 b hb' hM)
   rcases ((ha.lo k0 lb hL).blk e).2 with h | h
   ·omega
   ·exact hM h
  ·obtain⟨rfl,rfl⟩:=hl k lb1 h1
   exact .inr ⟨k,lb,hl0,hL,h2⟩
  ·obtain⟨n1,n2⟩:=hnew _ hI
   refine⟨fun k lb1 h=>?_,fun d' hd'=>n2 d' hd'⟩
   obtain⟨rfl,rfl⟩:=hl k lb1 h
   exact n1
  ·obtain⟨rfl,rfl⟩:=hl k lb1 h1
   exact .inl (hu.1 k' h2)
  ·exact .inl (hu.2 d' k' h1 h2)
 unfold Oper.wp
 rcases hrun with ⟨hrun,rfl⟩ | hrun
 ·rw [hrun]
  exact hK _ _ key
 ·rw [hrun]
  exact hK _ _ key
end
def aJj (P:Program) (e:TypeId) (zc:List C):Prop:=∃ z ck,Zt P e z/\Mr ck (z.map DV.val) zc
inductive ExtR (P:Program) (np:Nat):Nat->Op->TypeId->List (DV×Option LB)->qK->List Nat->(Q6->Prop)->Prop
 | makeMap {tk t ty env}:ExtR P np tk (.makeMap t none) ty [] env [] (fun e=>e=Wp tk (.map []) (.row tk))
 | lookR {tk t x i ok ty env k b kd bk} {κ ν:Type} [DecidableEq κ] {kt vt:TypeId} {f:κ->Value} {g:ν->Value} {l:List (κ×ν)} {key:κ} {z:ν} (ht:P.underlying t=some (.map kt vt)) (hK:uC P kt f) (hz:∀ w,(zeroValue vt).run P w=.ok (g z) w) (hzk:G6 (g z)=true) (hm:(k,some (.map (Vj f g l)))∈env) (hk:Qv kd=some (f key)) :
  ExtR P np tk (.lookup t x i ok) ty [(.row k,b),(kd,bk)] env [] (fun e=>e=v0 (bif ok then .tup [.val (g (Pm l key z)),.val (.bool (dE l key))] else .val (g (Pm l key z))))
 | put {tk t x y y' ty env k b kd bk vd bv} {κ ν:Type} [DecidableEq κ] {kt vt:TypeId} {f:κ->Value} {g:ν->Value} {l:List (κ×ν)} {key:κ} {v:ν} (ht:P.underlying t=some (.map kt vt)) (hK:uC P kt f) (hm:(k,some (.map (Vj f g l)))∈env) (hk:Qv kd=some (f key)) (hv:Qv vd=some (g v)) :
  ExtR P np tk (.mapUpdate t x y y') ty [(.row k,b),(kd,bk),(vd,bv)] env [k] (fun e=>e=aL k (.map (Vj f g (Rc l key v))) none)
 | range {tk t x ty env k b l} {kt vt:TypeId} (ht:P.underlying t=some (.map kt vt)) (hm:(k,some (.map l))∈env):ExtR P np tk (.range t x) ty [(.row k,b)] env [] (fun e=>e=Wp tk (.mit k l.length []) (.ptr tk 0))
 | next {tk x ty env j k b n seen l} (hj:(j,some (.mit k n seen))∈env) (hm:(k,some (.map l))∈env) (hn:n=l.length) :
  ExtR P np tk (.next x false) ty [(.ptr j 0,b)] env [j] (fun e=>((∀ i,i < n->i∈seen)/\e=aL j (.mit k n seen) (some (.tup [.val (.bool false)])))\/∃ i p,l[i]?=some p/\i∉seen/\e=aL j (.mit k n (seen ++ [i])) (some (.tup [.val (.bool true),.val p.1,.val p.2])))
 | entry {tk x ty env j k b n seen i l p} (hj:(j,some (.mit k n (seen ++ [i])))∈env) (hm:(k,some (.map l))∈env) (hn:n=l.length) (hp:l[i]?=some p) :
  ExtR P np tk (.entry x) ty [(.ptr j 0,b)] env [] (fun e=>e=v0 (.tup [.val p.1,.val p.2]))
 | clearP {tk t x ty env k off m b e sz bytes cs zc} (hS:Jf P t e sz bytes) (hz:aJj P e zc) (hL:(k,some (.row e sz cs))∈env) (hl:off + m * sz<=cs.length) :
  ExtR P np tk (.call ⟨.builtin .clear,#[x],#[t]⟩) ty [(.part k off m,b)] env [k] (fun e'=>e'=aL k (.row e sz (Fa cs off (List.replicate m zc).flatten)) (some (.tup [])))
 | extV {tk f xs tys ty dsA env vs v} (hd:Ve (dsA.map (·.1))=some vs) (hv:(∀ u∈vs,G6 u=true)->G6 v=true) (h:∀ w,(callFunc f vs.toArray).run P w=.ok (.value v) w) :
  ExtR P np tk (.call ⟨.value (.func f),xs,tys⟩) ty ((.val (.func (.func f) #[] #[]),none) :: dsA) env [] (fun e=>e=v0 (.val v))
 | idxA {tk t x i ty env cs kk b1 b2 n m e} {j:Nat} (ht:P.underlying t=some (.array m e)) (he:Ty P e false 1) (hj:n=(j:Int)) (hm:j < m):ExtR P np tk (.indexAddr t x i) ty [(.elt cs,b1),(.val (.int kk n),b2)] env [] (fun e'=>e'=v0 (.elt (cs.drop j)))
section
variable {P:Program} {cx:Cx} {ρ:Nat->Value} {σ:St} {a:Act} {w w':World} {o:Oper} {K:Act->World->Prop} {Q:Exit->Act->World->Prop}
theorem uW {α:Type} (l xs:List α) (i:Nat) (h:i + xs.length<=l.length):(Fa l i xs).length=l.length:=by
 unfold Fa
 simp only [aF3,aHg,aKq]
 omega
theorem tS {α:Type} (l:List α) (i:Nat):Fa l i []=l:=by
 unfold Fa
 simp
theorem rU {I:Nat->Prop} {v:Value} {e s i g:Nat} {cs cs':List C} {us':List Value} (hw:U2 cx ρ I w v (.row e s cs)) (G:Dg v=some g) (hr':I1 w I cs' us') (h1:∀ u∈us',u.oneCell'=true) (hi:i + cs'.length<=cs.length) :
  ∃ X:Array Value,(storeCells ⟨g,i,none⟩ us').run P w=.ok () (w.setRow g X)/\∀ I':Nat->Prop,(∀ b,I b->I' b/\(w.setRow g X).heap[b]?=w.heap[b]?)->U2 cx ρ I' (w.setRow g X) v (.row e s (Fa cs i cs')):=by
 obtain⟨n,us,hw,hM,hr⟩:=hw
 rcases hw.2 with ⟨A0,q1,-⟩ | ⟨g',cap,cur,q1,q2,q3,q4,q5,q6,q7⟩
 ·rw [q1] at G; cases A0 <;> cases G
 ·have hgg:g'=g:=by rw [q1] at G; exact (Ks G).1
  subst hgg
  have hul:us.length=n * s:=hw.1
  have hcl:cs.length=us.length:=hr.1
  have hcl':cs'.length=us'.length:=hr'.1
  have hn:n * s<=cap * s:=aS3 _ q4
  have hrun:=run_storeCells_at P g' i e us' 0 cur w q3 (by omega) h1
  simp only [Nat.add_zero] at hrun
  refine⟨_,hrun,fun I' hI=>?_⟩
  have hlen:∀ {α:Type} (l xs:List α),i + xs.length<=l.length->(Fa l i xs).length=l.length:=fun l xs h=>uW l xs i h
  have hcur:cur.toList.length=cap * s:=by simpa using q6
  refine⟨n,Fa us i us',⟨by rw [hlen us us' (by omega)]; exact hul,.inr ⟨g',cap,(Fa cur.toList i us').toArray,q1,q2,setRow_heap w g' _ _ e (0,0) q3,q4,q5,?_,?_⟩⟩,hM,?_⟩
  ·simp only [List.size_toArray]
   rw [hlen cur.toList us' (by omega)]
   simpa using q6
  ·unfold Fa
   have e3:us.take i=cur.toList.take i:=by rw [<- q7,bD4]; congr 1; omega
   have e4:us.drop (i + us'.length)=(cur.toList.drop (i + us'.length)).take (n * s - (i + us'.length)):=by rw [<- q7,List.drop_take]
   rw [e3,e4]
   rw [bDm,aKz (by simp only [aF3,aHg]; omega)]
   congr 1
   congr 1
   simp only [aF3,aHg]
   omega
  ·exact (hr.splice hr' i).keep_ (fun b hb=>(hI b hb).2) fun b hb=>(hI b hb).1
theorem aP0 {κ ν:Type} [DecidableEq κ] {f:κ->Value} {g:ν->Value} {l:List (κ×ν)} {key:κ} {z:ν} {m:Nat} (hm:Za w m (Vj f g l)) (hz:G6 (g z)=true):G6 (g (Pm l key z))=true:=by
 unfold Pm
 cases hf:l.find? fun p=>decide (p.1=key) with
 | none=>exact hz
 | some p=>
  obtain⟨es,-,-,-,h4⟩:=hm
  exact (h4 _ (aP8.2 ⟨p,List.mem_of_find?_eq_some hf,rfl⟩)).2
theorem xB {I:Nat->Prop} {x y:Value} (hx:G6 x=true) (hy:G6 y=true):Dk ρ I w (.tup [.val x,.val y]) (.tuple #[x,y]):=by
 unfold Dk
 refine⟨[x,y],rfl,?_⟩
 unfold Cj
 refine⟨x,[y],rfl,Qe hx,?_⟩
 unfold Cj
 refine⟨y,[],rfl,Qe hy,?_⟩
 unfold Cj
 rfl
theorem aE7 {I:Nat->Prop} {x y z:Value} (hx:G6 x=true) (hy:G6 y=true) (hz:G6 z=true):Dk ρ I w (.tup [.val x,.val y,.val z]) (.tuple #[x,y,z]):=by
 unfold Dk
 refine⟨[x,y,z],rfl,?_⟩
 unfold Cj
 refine⟨x,[y,z],rfl,Qe hx,?_⟩
 unfold Cj
 refine⟨y,[z],rfl,Qe hy,?_⟩
 unfold Cj
 refine⟨z,[],rfl,Qe hz,?_⟩
 unfold Cj
 rfl
theorem aF0 {I:Nat->Prop} {x:Value} (hx:G6 x=true):Dk ρ I w (.tup [.val x]) (.tuple #[x]):=by
 unfold Dk
 refine⟨[x],rfl,?_⟩
 unfold Cj
 refine⟨x,[],rfl,Qe hx,?_⟩
 unfold Cj
 rfl
theorem Va:∀ (l:List Value) (k:Nat),men (.tup (l.map DV.val)) k->False:=fun l k h=>U4 l k (by unfold men at h; exact h)
theorem aQz {e sz:Nat} {zc:List C} (h:aJj P e zc) {t bytes:Nat} (hS:Jf P t e sz bytes) (w:World) (I:Nat->Prop) (m:Nat):∃ z:Value,(zeroValue e).run P w=.ok z w/\z.cells.size=sz/\zc.length=sz/\I1 w I (List.replicate m zc).flatten (List.replicate m z.cells.toList).flatten/\(∀ u∈z.cells.toList,u.oneCell'=true)/\(∃ it,P.info? e=some it/\it.zero=some z/\it.size=sz/\it.bytes=bytes):=by
 obtain⟨z,ck,hz,hd⟩:=h
 obtain⟨it,zv,z1,z2,z3,z4⟩:=hz.get
 obtain⟨it',zv',y1,y2,y3,y4,y5⟩:=hS.hi
 rw [z1] at y1
 injection y1 with y1
 subst y1
 rw [z2] at y2
 injection y2 with y2
 subst y2
 have hr:I1 w I zc z:=Mr.rd (ρ:=fun _=>.nilFunc) hd (Cj.ofVals _ fun u hu=>(z4 u hu).2)
 have hl:zc.length=sz:=by rw [hr.1,<- z3]; simpa using y5
 refine⟨zv,by simp [zeroValue,typeInfo,z1,z2],y5,hl,?_,fun u hu=>(z4 u (by rw [<- z3]; exact hu)).1,it,z1,z2,y3,y4⟩
 rw [z3]
 induction m with
 | zero=>exact⟨rfl,fun j c u h _=>by simp at h⟩
 | succ m ih=>
  rw [aUj,aUj,aVk,aVk]
  exact hr.append ih
theorem lZ {I:Nat->Prop}:∀ {ds:List DV} {vs us:List Value},Cj ρ I w ds us->Ve ds=some vs->∀ u∈vs,G6 u=true
 | [],vs,us,h,hd=>by
  unfold Ve at hd
  injection hd with hd
  subst hd
  simp
 | d :: ds,vs,us,h,hd=>by
  unfold Cj at h
  obtain⟨u,us',rfl,h1,h2⟩:=h
  unfold Ve at hd
  cases hv:Qv d with
  | none=>rw [hv] at hd; cases hd
  | some v=>
   cases hv':Ve ds with
   | none=>rw [hv,hv'] at hd; cases hd
   | some vs'=>
    rw [hv,hv'] at hd
    injection hd with hd
    subst hd
    intro x hx
    rcases aF6.1 hx with rfl | hx
    ·exact Dk.dval_ok h1 hv
    ·exact lZ h2 hv' x hx
theorem aBi {f:FuncId} {fn:Func} (hf:P.funcs[f]?=some fn) (hname:(fn.name == "runtime.NumGoroutine")=false) (hb:fn.body.isNone=true) (hn:Extern.findNext fn=none) (he:Extern.find fn=some Extern.BytealgIndexByte.indexByte) (s:ByteArray) (c:UInt8) (w:World) :
  (callFunc f [.string s,.int .u8 (c.toNat:Int)].toArray).run P w=.ok (.value (.int .i64 (pH s c))) w:=by
 rw [run_callFunc_extern hf hname hb hn he]
 have:=run_indexByte_string (P:=P) s (c.toNat:Int) w
 rw [show ([.string s,.int .u8 (c.toNat:Int)].toArray:Array Value)=#[.string s,.int .u8 (c.toNat:Int)] from rfl,this]
 have e1:((c.toNat:Int).toNat.toUInt8)=c:=by simp
 rw [e1]
 rfl
theorem aH8 {s:ByteArray} {c:UInt8} (h:∀ u∈[Value.string s,.int .u8 (c.toNat:Int)],G6 u=true):G6 (.int .i64 (pH s c))=true:=by
 have hs:=Rq.1 (h (.string s) (by simp))
 have e3:IntKind.i64.min=-9223372036854775808:=by decide
 have e4:IntKind.i64.max=9223372036854775807:=by decide
 have key:-1<=pH s c/\pH s c<=s.size:=by
  unfold pH
  cases hf:(List.range s.size).find? fun i=>s[i]! == c with
  | none=>exact⟨aUn _,by show (-1:Int)<=_; omega⟩
  | some i=>
   have:=List.mem_of_find?_eq_some hf
   rw [bA1] at this
   exact⟨by show -1<=(i:Int); omega,by show (i:Int)<=_; omega⟩
 unfold maxLen at hs
 exact M7.2 ⟨by omega,by omega⟩
theorem ExtR.sound {tk:Nat} {op:Op} {ty:TypeId} {ds:List (DV×Option LB)} {env:qK} {wr:List Nat} {E:Q6->Prop} (h:ExtR P cx.np tk op ty ds env wr E) (ha:Fg cx ρ σ a w) (hds:Gk σ (Mp op) op.operands.toList=some ds) {l0:List Nat} (henv:env=Kz σ l0) (hf:∀ j,j < 8->σ.U (tk + j)=false) (ho:o.op=op) (hdst:∀ t,o.dst=some t->t < cx.N)
  (hK:∀ e a' w',E e->O8 cx (σ.app o.dst e) a' w'->K a' w'):o.wp P a w K Q:=by
 subst henv
 have hf0:σ.U tk=false:=hf 0 (by omega)
 cases h with
 | @makeMap t _ _=>
  refine vQ (lb:=.map []) (ks:=[]) (d:=.row tk) (w':=w.alloc (.map #[] 0)) ha hdst hf0 (v:=.map (some w.heap.size)) (vn:=.map (some w.heap.size)) ?_ (ha.kept.alloc _) (by simp) (fun b hb _=>Below.heap_alloc w _ b hb) (fun b hb=>.inl (by injection hb with hb; omega)) (fun I' hI=>⟨?_,?_⟩) ⟨fun k' hk'=>hk'.elim,fun k' hk'=>.inr (by unfold men at hk'; exact hk')⟩ (fun k' hk'=>by simp at hk') (fun a' w' h=>hK _ a' w' rfl h)
  ·simp [execOp,ho,Instr.makeMap]
  ·exact⟨w.heap.size,rfl,⟨#[],heap_alloc_new w _,rfl,fun i e h=>by simp at h,fun p hp=>by cases hp⟩,.inl ha.kept.2.2.2.1⟩
  ·unfold Dk
   simp [Sp,Value.oneCell']
 | @lookR t x i ok _ _ k b kd bk κ ν _ kt vt f g l key z ht hK' hz hzk hm hk=>
  have hL:=M6 hm
  obtain⟨e1,e2⟩:=Vk (show Gk σ false [x,i]=_ from hds)
  have h1:=(D8 ha e1).1
  have h2:=Dk.dval _ _ _ (D8 ha e2).1 hk
  unfold Dk at h1
  obtain⟨m,q1,q2,-⟩:=ha.lo _ _ hL
  have hrun:=aCi (P:=P) ht hK' hz q2 (x:=key) ok
  have hgo:=aP0 (key:=key) q2 hzk
  refine Oh ha hdst (v:=bif ok then .tuple #[g (Pm l key z),.bool (dE l key)] else g (Pm l key z)) ?_ ?_ (fun k' hk'=>?_) (fun a' w' h=>hK _ a' w' rfl h)
  ·simp only [execOp,ho,h1.1,q1,h2,Sem.run_bind,hrun,Result.andThen_ok,Sem.run_pure]
  ·cases ok with
   | true=>exact xB hgo rfl
   | false=>exact Qe hgo
  ·cases ok with
   | true=>exact (Va [_,_] k' hk').elim
   | false=>exact gO k' hk'
 | @put t x y y' _ _ k b kd bk vd bv κ ν _ kt vt f g l key v ht hK' hm hk hv=>
  have hL:=M6 hm
  obtain⟨e1,e2,e3⟩:=aGm (show Gk σ false [x,y,y']=_ from hds)
  have h1:=(D8 ha e1).1
  have h2:=Dk.dval _ _ _ (D8 ha e2).1 hk
  have h2':=Dk.dval_ok (D8 ha e2).1 hk
  have h3:=Dk.dval _ _ _ (D8 ha e3).1 hv
  have h3':=Dk.dval_ok (D8 ha e3).1 hv
  unfold Dk at h1
  obtain⟨m,q1,q2,q3⟩:=ha.lo _ _ hL
  obtain⟨es,hrun,hnew⟩:=aIi (P:=P) ht hK' q2 h2' h3'
  refine aDq (lb':=.map (Vj f g (Rc l key v))) (d:=none) (v:=undef) (w':=setBlock w m (.map es es.size)) ha hdst hL (.inl ⟨?_,rfl⟩) ⟨rfl,rfl,rfl,Xa _ _⟩ (fun b hb=>Wd _ fun e=>hb (by rw [q1,e]; rfl)) (fun I' hI=>⟨⟨m,q1,hnew,q3⟩,fun x hx=>by cases hx⟩) ⟨fun k' hk'=>hk'.elim,fun x k' hx=>by cases hx⟩ (fun a' w' h=>hK _ a' w' rfl h)
  simp only [execOp,ho,h1.1,q1,h2,h3,Sem.run_bind,hrun,Result.andThen_ok,Sem.run_pure]
 | @range t x _ _ k b l kt vt ht hm=>
  have hL:=M6 hm
  have e1:=N4 (show Gk σ false [x]=_ from hds)
  obtain⟨h1,h2,-⟩:=D8 ha e1
  unfold Dk at h1
  obtain⟨m,q1,⟨es,q2,q3,q4,q5⟩,-⟩:=ha.lo _ _ hL
  have hn:es.size=l.length:=by rw [<- q3]; simp
  have hrun:=run_range_map (P:=P) w t kt vt m es es.size ht q2
  have hku:σ.U k=true:=(ha.usedL _ _ hL).1
  have hne:k≠tk:=fun e=>by rw [e,hf0] at hku; cases hku
  refine vQ (lb:=.mit k l.length []) (ks:=[]) (d:=.ptr tk 0) (w':=w.alloc (.mapIter (some m) es.size #[] es.size)) ha hdst hf0 (v:=.pointer (some ⟨w.heap.size,0,none⟩)) (vn:=.pointer (some ⟨w.heap.size,0,none⟩)) ?_ (ha.kept.alloc _) (by simp) (fun b hb _=>Below.heap_alloc w _ b hb) (fun b hb=>.inl (by injection hb with hb; exact bB3 hb)) (fun I' hI=>⟨?_,?_⟩) ⟨fun k' hk'=>by have hk':k'=k:=hk'; rw [hk']; exact hku,fun k' hk'=>.inr (by unfold men at hk'; exact hk')⟩ (fun k' hk'=>by simp at hk') (fun a' w' h=>hK _ a' w' rfl h)
  ·simp only [execOp,ho,h1.1,q1,Sem.run_bind,hrun,Result.andThen_ok,Sem.run_pure]
  ·refine⟨w.heap.size,m,rfl,by rw [<- q1]; unfold Sp; rw [if_neg hne],?_,.inl ha.kept.2.2.2.1⟩
   rw [heap_alloc_new,hn]
  ·unfold Dk
   exact⟨w.heap.size,by simp [Sp,Dg],rfl⟩
 | @next x _ _ j k b n seen l hj hm hn=>
  have hLj:=M6 hj
  have hLk:=M6 hm
  have e1:=N4 (show Gk σ false [x]=_ from hds)
  obtain⟨h1,h2,-⟩:=D8 ha e1
  unfold Dk at h1
  obtain⟨g,G,hv⟩:=h1
  obtain⟨b',m,r1,r2,r3,r4⟩:=ha.lo _ _ hLj
  have hgb:b'=g:=by rw [r1] at G; injection G
  subst hgb
  obtain⟨m',q1,⟨es,q2,q3,q4,q5⟩,-⟩:=ha.lo _ _ hLk
  have hmm:m=m':=by rw [r2] at q1; injection q1 with q1; injection q1
  subst hmm
  have hes:es.size=n:=by rw [hn,<- q3]; simp
  have hku:σ.U k=true:=(ha.usedL _ _ hLk).1
  have hlt:∀ x∈es.toList,x.born < n:=fun x hx=>by
   obtain⟨i,hi,rfl⟩:=aUt hx
   have hi':i < es.size:=by simpa using hi
   have:=q4 i es[i] (by simp [hi'])
   simp only [Array.getElem_toList]
   rw [this]; omega
  have left:∀ e,e∈(leftOf es seen.toArray).toList↔e∈es.toList/\e.born∉seen:=fun e=>by
   unfold leftOf
   simp
  rcases run_next_at (P:=P) w o.type b' m n n seen.toArray es es.size r3 q2 hlt (aKp _) with ⟨s1,s2⟩ | ⟨e,s1,w1,s2,s3⟩
  ·refine aDq (d:=some (.tup [.val (.bool false)])) (lb':=.mit k n seen) (v:=.tuple #[.bool false]) (w':=w) ha hdst hLj (.inr ?_) ⟨rfl,rfl,rfl,rfl⟩ (fun b hb=>rfl) (fun I' hI=>⟨⟨b',m,r1,r2,r3,r4⟩,fun x hx=>by injection hx with hx; subst hx; exact aF0 rfl⟩) ⟨fun k' hk'=>by have hk':k'=k:=hk'; rw [hk']; exact hku,fun x k' hx hm=>by injection hx with hx; subst hx; exact (Va [_] k' hm).elim⟩ (fun a' w' h=>hK _ a' w' (.inl ⟨fun i hi=>?_,rfl⟩) h)
   ·simp only [execOp,ho,hv,Sem.run_bind,s2,Result.andThen_ok,Sem.run_pure]
   ·refine Decidable.byContradiction fun hns=>?_
    have hi':i < es.size:=by omega
    have:es[i]∈(leftOf es seen.toArray).toList:=(left _).2 ⟨by simp,by rw [q4 i es[i] (by simp [hi'])]; exact hns⟩
    have h0:(leftOf es seen.toArray)=#[]:=Array.eq_empty_of_size_eq_zero s1
    rw [h0] at this
    simp at this
  ·obtain⟨t1,t2⟩:=(left e).1 s1
   obtain⟨i,hi,hie⟩:=aUt t1
   have hi':i < es.size:=by simpa using hi
   have hei:es[i]?=some e:=by
    rw [<- aUo,aBb hi,hie]
   have hb:=q4 i e hei
   have hl:l[i]?=some (e.key,e.val):=by
    rw [<- q3,aKm,aUo,hei]
    rfl
   have hok:=q5 _ (aIm hl)
   have hw1:w1.os=w.os/\w1.tape=w.tape/\w1.output=w.output/\w1.heap=w.heap:=by
    rcases s2 with rfl | rfl <;> exact⟨rfl,rfl,rfl,rfl⟩
   obtain⟨v1,v2,v3,v4⟩:=hw1
   refine aDq (d:=some (.tup [.val (.bool true),.val e.key,.val e.val])) (lb':=.mit k n (seen ++ [i])) (v:=.tuple #[.bool true,e.key,e.val]) (w':=setBlock w1 b' (.mapIter (some m) n (seen.toArray.push e.born) es.size)) ha hdst hLj (.inr ?_) ⟨v1,v2,v3,by rw [Xa,v4]⟩ (fun b hb=>(Wd _ fun e=>hb (by rw [r1,e]; rfl)).trans (by rw [v4])) (fun I' hI=>⟨⟨b',m,r1,r2,?_,r4⟩,fun x hx=>by injection hx with hx; subst hx; exact aE7 rfl hok.1 hok.2⟩) ⟨fun k' hk'=>by have hk':k'=k:=hk'; rw [hk']; exact hku,fun x k' hx hm=>by injection hx with hx; subst hx; exact (Va [_,_,_] k' hm).elim⟩ (fun a' w' h=>hK _ a' w' (.inr ⟨i,_,hl,by rw [<- hb]; exact t2,rfl⟩) h)
   ·simp only [execOp,ho,hv,Sem.run_bind,s3,Result.andThen_ok,Sem.run_pure]
   ·rw [Tw (w:=w1) (by rw [v4]; exact r3),hb,hes]
    simp
 | @entry x _ _ j k b n seen i l p hj hm hn hp=>
  have hLj:=M6 hj
  have hLk:=M6 hm
  have e1:=N4 (show Gk σ false [x]=_ from hds)
  obtain⟨h1,h2,-⟩:=D8 ha e1
  unfold Dk at h1
  obtain⟨g,G,hv⟩:=h1
  obtain⟨b',m,r1,r2,r3,r4⟩:=ha.lo _ _ hLj
  have hgb:b'=g:=by rw [r1] at G; injection G
  subst hgb
  obtain⟨m',q1,⟨es,q2,q3,q4,q5⟩,-⟩:=ha.lo _ _ hLk
  have hmm:m=m':=by rw [r2] at q1; injection q1 with q1; injection q1
  subst hmm
  have hes:es.size=n:=by rw [hn,<- q3]; simp
  have hok:=q5 _ (aIm hp)
  have hpe:=hp
  rw [<- q3,aKm,aUo] at hpe
  obtain⟨e,hei,rfl⟩:=Option.map_eq_some_iff.1 hpe
  have hb:=q4 i e hei
  obtain⟨hi,hie⟩:=aF8.1 hei
  have hfind:es.find? (fun x=>x.born == i)=some e:=by
   rw [Array.find?_eq_some_iff_getElem]
   refine⟨by rw [hb]; simp,i,hi,hie,fun q hq=>?_⟩
   have:=q4 q es[q] (by simp)
   rw [this]
   have:q≠i:=by omega
   simp [this]
  have hrun:(Instr.entry (.pointer (some ⟨b',0,none⟩))).run P w=.ok (.tuple #[e.key,e.val]) w:=by
   have hback:(seen ++ [i]).toArray.back?=some i:=by simp
   simp only [Instr.entry,getObj,Sem.run_bind,Sem.run,r3,q2,Result.andThen,hback,hes,hfind,bne_self_eq_false,aYk,if_false]
   rfl
  refine Oh ha hdst (d:=.tup [.val e.key,.val e.val]) (v:=.tuple #[e.key,e.val]) ?_ (xB hok.1 hok.2) (fun k' hk'=>(Va [_,_] k' hk').elim) (fun a' w' h=>hK _ a' w' rfl h)
  simp only [execOp,ho,hv,Sem.run_bind,hrun,Result.andThen_ok,Sem.run_pure]
 | @clearP t x _ _ k off m b e sz bytes cs zc hS hz hL hl=>
  have hL:=M6 hL
  have e1:=N4 (show Gk σ true [x]=_ from hds)
  obtain⟨h1,h2,-⟩:=D8 ha e1
  unfold Dk at h1
  obtain⟨A,c,hv,-,-,hA,-⟩:=h1
  obtain⟨z,z1,z2,z3,z4,z5,-⟩:=aQz hz hS w (O1 cx σ ρ w) m
  have ht:=hS.ht
  have hlo:=ha.lo _ _ hL
  rcases aLg m with hm | hm
  ·subst hm
   refine aDq (lb':=.row e sz (Fa cs off (List.replicate 0 zc).flatten)) (d:=some (.tup [])) (v:=.tuple #[]) (w':=w) ha hdst hL (.inr ?_) ⟨rfl,rfl,rfl,rfl⟩ (fun b hb=>rfl) (fun I' hI=>⟨?_,fun x hx=>by injection hx with hx; subst hx; unfold Dk; exact⟨[],rfl,by unfold Cj; rfl⟩⟩) ⟨fun k' hk'=>hk'.elim,fun x k' hx hm=>by injection hx with hx; subst hx; exact (Va [] k' hm).elim⟩ (fun a' w' h=>hK _ a' w' rfl h)
   ·have:(Builtin.clear_ #[t] o.type #[.slice A 0 c]).run P w=.ok (.tuple #[]) w:=by
     cases A <;> simp [Builtin.clear_,run_underlying ht]
    simp [execOp,ho,resolve,invoke,builtin,hv,this]
   ·rw [List.replicate_zero,List.flatten_nil,tS]
    obtain⟨n,us,q1,q2,q3⟩:=hlo
    exact⟨n,us,q1,q2,q3.keep_ (fun _ _=>rfl) fun b hb=>(hI b hb).1⟩
  ·obtain⟨g,G,rfl⟩:=hA hm
   have hlen:(List.replicate m zc).flatten.length=m * sz:=by simp [z3]
   obtain⟨X,hst,hnew⟩:=rU (P:=P) (i:=off) hlo G z4 (fun u hu=>by
    obtain⟨l,h3,h4⟩:=bDr.1 hu
    rw [(bCc.1 h3).2] at h4
    exact z5 u h4) (by rw [hlen]; exact hl)
   have hzc:(Builtin.zeroCells z.cells m).toList=(List.replicate m z.cells.toList).flatten:=by
    unfold Builtin.zeroCells
    exact cQ z.cells m z.cells.size rfl (by rw [z2]; exact hS.hsz)
   refine aDq (lb':=.row e sz (Fa cs off (List.replicate m zc).flatten)) (d:=some (.tup [])) (v:=.tuple #[]) (w':=w.setRow g X) ha hdst hL (.inr ?_) ⟨rfl,rfl,rfl,Xy w g X⟩ (fun b hb=>Vl w g b X fun e=>hb (by rw [G,e])) (fun I' hI=>⟨hnew I' hI,fun x hx=>by injection hx with hx; subst hx; unfold Dk; exact⟨[],rfl,by unfold Cj; rfl⟩⟩) ⟨fun k' hk'=>hk'.elim,fun x k' hx hm=>by injection hx with hx; subst hx; exact (Va [] k' hm).elim⟩ (fun a' w' h=>hK _ a' w' rfl h)
   have:(Builtin.clear_ #[t] o.type #[.slice (some ⟨g,off,none⟩) m c]).run P w=.ok (.tuple #[]) (w.setRow g X):=by
    obtain⟨m',rfl⟩:∃ m',m=m' + 1:=⟨m - 1,by omega⟩
    simp [Builtin.clear_,run_underlying ht,z1,hzc,hst]
   simp [execOp,ho,resolve,invoke,builtin,hv,this]
 | @extV f xs tys _ dsA _ vs v hd hv h=>
  have hds':Gk σ true (.func f :: xs.toList)=some ((.val (.func (.func f) #[] #[]),none) :: dsA):=by
   have:(Op.call ⟨.value (.func f),xs,tys⟩).operands.toList=.func f :: xs.toList:=by simp [Op.operands,Call.operands]
   rw [<- this]; exact hds
  obtain⟨-,e2⟩:=S7 hds'
  have hr:=(Rm ha e2).1
  have e1:=Cj.dvals _ _ _ hr hd
  have hok:∀ u∈vs,G6 u=true:=lZ hr hd
  refine Oh ha hdst (v:=v) ?_ (Qe (hv hok)) (fun k' hk'=>gO k' hk') (fun a' w' h=>hK _ a' w' rfl h)
  have h1:=h w
  have e0:(xs.toList.map a.eval).toArray=xs.map a.eval:=by rw [<- bB0,aWp]
  rw [<- e1,e0] at h1
  have e4:a.eval (.func f)=.func (.func f) #[] #[]:=rfl
  have e3:(#[] ++ Array.map a.eval xs ++ #[]:Array Value)=Array.map a.eval xs:=by simp
  simp only [execOp,ho,resolve,e4,Deferred.ofValue,Sem.run_bind,Sem.run_pure,Result.andThen_ok,invoke,e3]
  exact h1
 | @idxA t x i _ _ cs kk b1 b2 n m e j ht he hj hm=>
  subst hj
  obtain⟨e1,e2⟩:=Vk (show Gk σ true [x,i]=_ from hds)
  obtain⟨h1,-,-⟩:=D8 ha e1
  have hi:=He ha e2
  unfold Dk at h1
  obtain⟨ad,hv,hI,hr⟩:=h1
  refine Oh ha hdst (v:=.pointer (some (ad.add j))) ?_ (by
   unfold Dk
   refine⟨_,rfl,by rw [S5]; exact hI,Jq.of_at _ 0 fun j' c hj'=>?_⟩
   rw [aLf] at hj'
   have:=hr.at_ hj'
   rw [aNm] at this
   rw [aNm,Xn]
   exact this) (fun k hk=>by unfold men at hk; exact hk.elim) (fun a' w' h=>hK _ a' w' rfl h)
  have hlen:P.arrayLen t=m:=by unfold Program.arrayLen; rw [ht]
  have hel:P.elem t=e:=by unfold Program.elem; rw [ht]
  have hrun:(Instr.indexAt t (.pointer (some ad)) (.int kk (j:Int))).run P w=.ok (.pointer (some (ad.add j))) w:=by
   rw [run_indexAt_array w t ad kk _ (by rw [hlen,hel]; exact ht),hlen,if_pos ⟨by omega,by omega⟩,hel,he.size]
   simp
  simp [execOp,ho,hv,hi,hrun]
theorem aF {k0 k:Nat} {lb:LB} {d:Option DV} (h:(aL k0 lb d).l k≠none):k=k0:=by
 have h':(bif Nat.beq k k0 then some (some lb) else none)≠none:=h
 cases hb:Nat.beq k k0 with
 | true=>exact aFs hb
 | false=>rw [hb] at h'; exact absurd rfl h'
theorem rE {tk k:Nat} {lb:LB} {d:DV} (h:(Wp tk lb d).l k≠none):k=tk:=by
 have h':(bif Nat.beq k tk then some (some lb) else none)≠none:=h
 cases hb:Nat.beq k tk with
 | true=>exact aFs hb
 | false=>rw [hb] at h'; exact absurd rfl h'
theorem ExtR.key {tk:Nat} {op:Op} {ty:TypeId} {ds:List (DV×Option LB)} {env:qK} {wr:List Nat} {E:Q6->Prop} {np:Nat} (h:ExtR P np tk op ty ds env wr E):∀ e,E e->∀ k,e.l k≠none->k∈wr\/(tk<=k/\k < tk + 8):=by
 cases h with
 | makeMap=>rintro e rfl k hk; have:=rE hk; exact .inr (by omega)
 | lookR=>rintro e rfl k hk; exact absurd rfl hk
 | put=>rintro e rfl k hk; exact .inl (aF2.2 (aF hk))
 | range=>rintro e rfl k hk; have:=rE hk; exact .inr (by omega)
 | next=>
  rintro e (⟨-,rfl⟩ | ⟨i,p,-,-,rfl⟩) k hk
  ·exact .inl (aF2.2 (aF hk))
  ·exact .inl (aF2.2 (aF hk))
 | entry=>rintro e rfl k hk; exact absurd rfl hk
 | clearP=>rintro e rfl k hk; exact .inl (aF2.2 (aF hk))
 | extV=>rintro e rfl k hk; exact absurd rfl hk
 | idxA=>rintro e rfl k hk; exact absurd rfl hk
theorem ExtR.sub {tk:Nat} {op:Op} {ty:TypeId} {ds:List (DV×Option LB)} {env:qK} {wr:List Nat} {E:Q6->Prop} {np:Nat} (h:ExtR P np tk op ty ds env wr E):∀ k,k∈wr->k∈env.map (·.1):=by
 cases h with
 | put _ _ hm=>intro k hk; rw [aF2.1 hk]; exact aP8.2 ⟨_,hm,rfl⟩
 | next hj=>intro k hk; rw [aF2.1 hk]; exact aP8.2 ⟨_,hj,rfl⟩
 | clearP _ _ hm=>intro k hk; rw [aF2.1 hk]; exact aP8.2 ⟨_,hm,rfl⟩
 | _=>intro k hk; cases hk
theorem ExtR.excl {tk:Nat} {op:Op} {ty:TypeId} {ds:List (DV×Option LB)} {env:qK} {wr wr':List Nat} {e:Q6} {E:Q6->Prop} {np:Nat} (h':Ha P tk op ty ds wr e) (h:ExtR P np tk op ty ds env wr' E):False:=by
 cases h with
 | makeMap=>cases h'
 | lookR=>cases h'
 | put=>cases h'
 | range=>cases h'
 | next=>cases h'
 | entry=>cases h'
 | clearP=>cases h'
 | idxA=>cases h'
 | extV=>cases h'
end
end Go.Proofs.YtboglmbblmakjaaGreatDoor
