import Derived.Test.YtbpchmikjiinpaaGreatEC
import Derived.Maps.RangeWalk
import Derived.Laws.Externs
import Derived.Lib.Bytealg
import Derived.Lib.AppendZeros
import Derived.Test.YtbpchmikjiinpaaGreatPU
set_option linter.unusedVariables false
set_option linter.unusedSimpArgs false
namespace Go.Proofs.YtbpchmikjiinpaaGreat
open Go.RowKit
open Go.ChangeMaps (setBlock)
abbrev jU:=List (Nat×Option LB)
theorem Ku {σ:St} {l:List Nat} {j:Nat} {lb:LB} (h:(j,some lb)∈Lu σ l):σ.L j=some lb:=by
 obtain⟨k,-,hk⟩:=aLl.1 h
 injection hk with h1 h2
 subst h1
 exact h2
structure jQ (P:Program) (kt:TypeId) {κ:Type} (f:κ->Value):Prop where
 chk:∀ (e:Bool) x w,(Instr.checkKey e 10000 kt (f x)).run P w=.ok () w
 find:∀ x (es:List MapEntry) (xs:List κ) w,es.map (·.key)=xs.map f->∃ r,(Instr.findKey kt (f x) es).run P w=.ok r w/\match r with
  | none=>x∉xs
  | some (i,v)=>∃ e,es[i]?=some e/\v=e.val/\e.key=f x/\xs[i]?=some x/\∀ j,j < i->xs[j]?≠some x
 same:∀ x,Instr.sameBits 10000 (f x) (f x)=true
section
variable {κ ν:Type} [DecidableEq κ]
def U5 (f:κ->Value) (g:ν->Value) (l:List (κ×ν)):List (Value×Value):=l.map fun p=>(f p.1,g p.2)
theorem fI {l:List (κ×ν)} {x:κ} (h:x∉l.map (·.1)) (z:ν):Hm l x z=z/\Uf l x=false/\l.findIdx? (fun p=>decide (p.1=x))=none:=by
 have hn:∀ p∈l,¬ decide (p.1=x)=true:=fun p hp hd=>h (aLl.2 ⟨p,hp,aCm hd⟩)
 refine⟨?_,?_,?_⟩
 ·unfold Hm
  rw [List.find?_eq_none.2 hn]
 ·unfold Uf
  cases ha:l.any fun p=>decide (p.1=x) with
  | false=>rfl
  | true=>
   obtain⟨p,hp,hd⟩:=aK8.1 ha
   exact absurd hd (hn p hp)
 ·rw [aSa]
  intro p hp
  simpa using hn p hp
theorem fM {l:List (κ×ν)} {x:κ} {i:Nat} (h:(l.map (·.1))[i]?=some x) (hj:∀ j,j < i->(l.map (·.1))[j]?≠some x) (z:ν):∃ v,l[i]?=some (x,v)/\Hm l x z=v/\Uf l x=true/\l.findIdx? (fun p=>decide (p.1=x))=some i:=by
 have hi:i < l.length:=by
  have:=(aC4.1 h).1
  simpa using this
 have hx:l[i].1=x:=by
  rw [aMu,aBx hi] at h
  injection h
 have hf:l.findIdx? (fun p=>decide (p.1=x))=some i:=by
  rw [aIw]
  refine⟨hi,by rw [hx]; exact aBe rfl,fun j hjl=>?_⟩
  have hj':=hj j hjl
  rw [aMu,aBx (by omega)] at hj'
  simp only [aN6]
  intro e
  exact hj' (by rw [<- e]; rfl)
 refine⟨l[i].2,by rw [aBx hi,<- hx],?_,?_,hf⟩
 ·unfold Hm
  have:l.find? (fun p=>decide (p.1=x))=some l[i]:=by
   rw [List.find?_eq_some_iff_getElem]
   refine⟨by rw [hx]; exact aBe rfl,i,hi,rfl,fun j hjl=>?_⟩
   have hj':=hj j hjl
   rw [aMu,aBx (by omega)] at hj'
   simp only [aQ0,decide_eq_false_iff_not]
   intro e
   exact hj' (by rw [<- e]; rfl)
  rw [this]
 ·exact aK8.2 ⟨l[i],List.getElem_mem hi,by rw [hx]; exact aBe rfl⟩
omit [DecidableEq κ] in
theorem mM {f:κ->Value} {g:ν->Value} {l:List (κ×ν)} {es:List MapEntry} (h:es.map (fun e=>(e.key,e.val))=U5 f g l):es.map (·.key)=(l.map (·.1)).map f:=by
 have:=congrArg (List.map Prod.fst) h
 unfold U5 at this
 rw [List.map_map,List.map_map] at this
 rw [List.map_map]
 exact this
omit [DecidableEq κ] in
theorem aG4 {f:κ->Value} {g:ν->Value} {l:List (κ×ν)} {es:List MapEntry} (h:es.map (fun e=>(e.key,e.val))=U5 f g l) {i:Nat} {e:MapEntry} {p:κ×ν} (h1:es[i]?=some e) (h2:l[i]?=some p):e.key=f p.1/\e.val=g p.2:=by
 have:=congrArg (fun q:List (Value×Value)=>q[i]?) h
 unfold U5 at this
 simp only [aMu,h1,h2,aSn] at this
 injection this with this
 injection this with a b
 exact⟨a,b⟩
end
section
variable {P:Program} {w:World}
theorem lG {κ ν:Type} [DecidableEq κ] {t kt vt:TypeId} {f:κ->Value} {g:ν->Value} {l:List (κ×ν)} {m:Nat} {x:κ} {z:ν} (ht:P.underlying t=some (.map kt vt)) (hK:jQ P kt f) (hz:∀ w,(zeroValue vt).run P w=.ok (g z) w) (hm:Wz w m (U5 f g l)) (ok:Bool) :
  (Instr.lookup t (.map (some m)) (f x) ok).run P w=.ok (bif ok then .tuple #[g (Hm l x z),.bool (Uf l x)] else g (Hm l x z)) w:=by
 obtain⟨es,h1,h2,h3,h4⟩:=hm
 obtain⟨r,hr,hs⟩:=hK.find x es.toList (l.map (·.1)) w (mM h2)
 simp only [Instr.lookup,Sem.run_bind,run_underlying ht,Result.andThen_ok,Go.MapKept.run_getObj_map h1,Sem.run_pure,hK.chk,hr]
 cases r with
 | none=>
  obtain⟨q1,q2,-⟩:=fI hs z
  rw [q1,q2]
  simp only [Sem.run_bind,hz,Result.andThen_ok,Sem.run_pure]
  cases ok <;> rfl
 | some q=>
  obtain⟨i,v⟩:=q
  obtain⟨e,e1,rfl,e2,e3,e4⟩:=hs
  obtain⟨v,q0,q1,q2,-⟩:=fM e3 e4 z
  have:=aG4 h2 e1 q0
  rw [q1,q2,this.2]
  cases ok <;> rfl
theorem Uh (r:Nat) (o:Obj):(setBlock w r o).heap.size=w.heap.size:=by simp [setBlock]
theorem Ti {r b:Nat} (o:Obj) (h:b≠r):(setBlock w r o).heap[b]?=w.heap[b]?:=by
 simp [setBlock,aQu,Ne.symm h]
theorem P9 {r:Nat} {o o':Obj} (h:w.heap[r]?=some o'):(setBlock w r o).heap[r]?=some o:=by
 have:=(aG6.1 h).1
 simp [setBlock,aQu,this]
theorem aAq {κ ν:Type} [DecidableEq κ] {t kt vt:TypeId} {f:κ->Value} {g:ν->Value} {l:List (κ×ν)} {m:Nat} {x:κ} {v:ν} (ht:P.underlying t=some (.map kt vt)) (hK:jQ P kt f) (hm:Wz w m (U5 f g l)) (hkx:E8 (f x)=true) (hgv:E8 (g v)=true) :
  ∃ es,(Instr.mapUpdate t (.map (some m)) (f x) (g v)).run P w=.ok () (setBlock w m (.map es es.size))/\Wz (setBlock w m (.map es es.size)) m (U5 f g (Ma l x v)):=by
 obtain⟨es,h1,h2,h3,h4⟩:=hm
 obtain⟨r,hr,hs⟩:=hK.find x es.toList (l.map (·.1)) w (mM h2)
 have hlen:es.size=l.length:=by
  have:=congrArg List.length h2
  simpa [U5] using this
 cases r with
 | none=>
  obtain⟨q1,q2,q3⟩:=fI (l:=l) hs v
  refine⟨es.push { key:=f x,val:=g v,born:=es.size },?_,?_⟩
  ·simp only [Instr.mapUpdate,Sem.run_bind,run_underlying ht,Result.andThen_ok,Go.MapKept.run_getObj_map h1,hK.chk,hr,Go.MapKept.run_setObj_map _ h1,Array.size_push]
   rfl
  ·refine⟨_,P9 h1,?_,fun i e hi=>?_,fun p hp=>?_⟩
   ·unfold Ma
    rw [q3]
    simp only [Array.toList_push,aQj,h2,aM9,List.map_nil]
    unfold U5
    rw [aQj]
    rfl
   ·rw [Array.getElem?_push] at hi
    split at hi
    ·injection hi with hi
     subst hi
     rename_i h; exact h.symm
    ·exact h3 i e hi
   ·unfold Ma at hp
    rw [q3] at hp
    unfold U5 at hp
    rw [aQj] at hp
    rcases aHz.1 hp with hp | hp
    ·exact h4 p hp
    ·rw [aM9,List.map_nil,aDi] at hp
     subst hp
     exact⟨hkx,hgv⟩
 | some q=>
  obtain⟨i,v0⟩:=q
  obtain⟨e,e1,rfl,e2,e3,e4⟩:=hs
  obtain⟨v1,q0,-,-,q3⟩:=fM e3 e4 v
  have hi:i < es.size:=by
   have:=(aC4.1 e1).1
   simpa using this
  have e1':es[i]?=some e:=by rw [<- aN9]; exact e1
  refine⟨es.modify i fun e=>{ e with key:=f x,val:=g v },?_,?_⟩
  ·have hst:(Instr.keyThatStays (((es[i]?).map (·.key)).getD (f x)) (f x)).run P w=.ok (f x) w:=by
    rw [e1']
    simp only [aSn,Option.getD_some,e2,Instr.keyThatStays,hK.same,if_true]
    rfl
   simp only [Instr.mapUpdate,Sem.run_bind,run_underlying ht,Result.andThen_ok,Go.MapKept.run_getObj_map h1,hK.chk,hr,hst,Go.MapKept.run_setObj_map _ h1,Array.size_modify]
   rfl
  ·have hlist:(es.modify i fun e=>{ e with key:=f x,val:=g v }).toList.map (fun e=>(e.key,e.val))=U5 f g (Ma l x v):=by
    unfold Ma
    rw [q3]
    apply List.ext_getElem?
    intro j
    have hj:=congrArg (fun q:List (Value×Value)=>q[j]?) h2
    simp only [aMu] at hj
    unfold U5 at hj ⊢
    rw [aMu,aMu,aN9,aS8,List.getElem?_set]
    rw [aMu,aN9] at hj
    by_cases hij:i=j
    ·subst hij
     rw [if_pos rfl,if_pos rfl,if_pos (by omega),e1']
     rfl
    ·rw [if_neg hij,if_neg hij]
     exact hj
   refine⟨_,P9 h1,hlist,fun j e' hj=>?_,fun p hp=>?_⟩
   ·rw [aS8] at hj
    split at hj
    ·rename_i hij
     subst hij
     rw [e1'] at hj
     injection hj with hj
     subst hj
     exact h3 i e e1'
    ·exact h3 j e' hj
   ·unfold Ma at hp
    rw [q3] at hp
    unfold U5 at hp
    obtain⟨q,hq,rfl⟩:=aLl.1 hp
    rcases List.mem_or_eq_of_mem_set hq with hq | rfl
    ·exact h4 _ (aLl.2 ⟨q,hq,rfl⟩)
    ·exact⟨hkx,hgv⟩
end
def Yl (k0:Nat) (lb:LB) (d:Option DV):Nq:=⟨d,fun k=>bif Nat.beq k k0 then some (some lb) else none⟩
section
variable {P:Program} {cx:Cx} {ρ:Nat->Value} {σ:St} {a:Act} {w w':World} {o:Oper} {K:Act->World->Prop} {Q:Exit->Act->World->Prop}
theorem nV (ha:E1 cx ρ σ a w) (hdst:∀ t,o.dst=some t->t < cx.N) {k0:Nat} {lb lb':LB} {d:Option DV} {v:Value} (hL:σ.L k0=some lb) (hrun:(execOp a.eval o).run P w=.ok .skip w'/\v=undef\/(execOp a.eval o).run P w=.ok (.value v) w')
  (hw:w'.os=w.os/\w'.tape=w.tape/\w'.output=w.output/\w'.heap.size=w.heap.size) (hb:∀ b,C7 (ρ k0)≠some b->w'.heap[b]?=w.heap[b]?)
  (hnew:∀ I':Nat->Prop,(∀ b,N5 cx σ ρ w b->I' b/\w'.heap[b]?=w.heap[b]?)->T8 cx ρ I' w' (ρ k0) lb'/\∀ x,d=some x->Cw ρ I' w' x v) (hu:(∀ k',Sw lb' k'->σ.U k'=true)/\∀ x k',d=some x->men x k'->σ.U k'=true)
  (hK:∀ a' w',Lw cx (σ.app o.dst (Yl k0 lb' d)) a' w'->K a' w'):o.wp P a w K Q:=by
 have hl:∀ k lb1,(Yl k0 lb' d).l k=some (some lb1)->k=k0/\lb1=lb':=fun k lb1 h=>by
  have h':(bif Nat.beq k k0 then some (some lb') else none)=some (some lb1):=h
  cases hb:Nat.beq k k0 with
  | true=>
   rw [hb] at h'
   injection h' with h'
   injection h' with h'
   exact⟨aDj hb,h'.symm⟩
  | false=>rw [hb] at h'; cases h'
 have hl0:(Yl k0 lb' d).l k0≠none:=by
  have:(Yl k0 lb' d).l k0=bif Nat.beq k0 k0 then some (some lb') else none:=rfl
  rw [this]; simp
 obtain⟨c1,c2,c3,c4,c5⟩:=ha.kept
 obtain⟨w1,w2,w3,w4⟩:=hw
 have key:Lw cx (σ.app o.dst (Yl k0 lb' d)) (a.put o.dst v) w':=by
  refine⟨ρ,ha.app (v:=v) ⟨w1.trans c1,w2.trans c2,w3.trans c3,by rw [w4]; exact c4,fun b hb' hM=>?_⟩ (by rw [w4]; exact aHx _) hdst (fun _ _=>rfl) (fun b _ h=>hb b fun e=>h k0 lb hl0 hL e) (fun k lb1 b h1 h2=>?_) (fun k k' lb1 lb2 b h1 h2 _ _=>by rw [(hl k lb1 h1).1,(hl k' lb2 h2).1]) (fun hI _=>?_) ⟨fun k lb1 k' h1 h2=>?_,fun d' k' h1 h2=>?_⟩ (fun k lb1 b h1 h2 h3=>by obtain⟨rfl,rfl⟩:=hl k lb1 h1; exact ha.fresh k lb b hL h2 h3)⟩
  ·refine (hb b fun e=>?_).trans (c5 b hb' hM)
   rcases ((ha.lo k0 lb hL).blk e).2 with h | h
   ·omega
   ·exact hM h
  ·obtain⟨rfl,rfl⟩:=hl k lb1 h1
   exact .inr ⟨k,lb,hl0,hL,h2⟩
  ·obtain⟨n1,n2⟩:=hnew _ hI
   refine⟨fun k lb1 h=>?_,fun d' hd'=>n2 d' hd'⟩
   obtain⟨rfl,rfl⟩:=hl k lb1 h
   exact n1
  ·obtain⟨rfl,rfl⟩:=hl k lb1 h1
   exact .inl (hu.1 k' h2)
  ·exact .inl (hu.2 d' k' h1 h2)
 unfold Oper.wp
 rcases hrun with ⟨hrun,rfl⟩ | hrun
 ·rw [hrun]
  exact hK _ _ key
 ·rw [hrun]
  exact hK _ _ key
end
def rZ (P:Program) (e:TypeId) (zc:List C):Prop:=∃ z ck,Zt P e z/\Ly ck (z.map DV.val) zc
inductive ExtR (P:Program) (np:Nat):Nat->Op->TypeId->List (DV×Option LB)->jU->List Nat->(Nq->Prop)->Prop
 | makeMap {tk t ty env}:ExtR P np tk (.makeMap t none) ty [] env [] (fun e=>e=Pw tk (.map []) (.row tk))
 | lookR {tk t x i ok ty env k b kd bk} {κ ν:Type} [DecidableEq κ] {kt vt:TypeId} {f:κ->Value} {g:ν->Value} {l:List (κ×ν)} {key:κ} {z:ν} (ht:P.underlying t=some (.map kt vt)) (hK:jQ P kt f) (hz:∀ w,(zeroValue vt).run P w=.ok (g z) w) (hzk:E8 (g z)=true) (hm:(k,some (.map (U5 f g l)))∈env) (hk:Nb kd=some (f key)) :
  ExtR P np tk (.lookup t x i ok) ty [(.row k,b),(kd,bk)] env [] (fun e=>e=v0 (bif ok then .tup [.val (g (Hm l key z)),.val (.bool (Uf l key))] else .val (g (Hm l key z))))
 | lookM {tk t x i ok ty env b kd bk} {κ ν:Type} [DecidableEq κ] {kt vt:TypeId} {f:κ->Value} {g:ν->Value} {l:List (κ×ν)} {key:κ} {z:ν} (ht:P.underlying t=some (.map kt vt)) (hK:jQ P kt f) (hz:∀ w,(zeroValue vt).run P w=.ok (g z) w) (hzk:E8 (g z)=true) (hk:Nb kd=some (f key)) :
  ExtR P np tk (.lookup t x i ok) ty [(.mp (U5 f g l),b),(kd,bk)] env [] (fun e=>e=v0 (bif ok then .tup [.val (g (Hm l key z)),.val (.bool (Uf l key))] else .val (g (Hm l key z))))
 | put {tk t x y y' ty env k b kd bk vd bv} {κ ν:Type} [DecidableEq κ] {kt vt:TypeId} {f:κ->Value} {g:ν->Value} {l:List (κ×ν)} {key:κ} {v:ν} (ht:P.underlying t=some (.map kt vt)) (hK:jQ P kt f) (hm:(k,some (.map (U5 f g l)))∈env) (hk:Nb kd=some (f key)) (hv:Nb vd=some (g v)) :
  ExtR P np tk (.mapUpdate t x y y') ty [(.row k,b),(kd,bk),(vd,bv)] env [k] (fun e=>e=Yl k (.map (U5 f g (Ma l key v))) none)
 | range {tk t x ty env k b l} {kt vt:TypeId} (ht:P.underlying t=some (.map kt vt)) (hm:(k,some (.map l))∈env):ExtR P np tk (.range t x) ty [(.row k,b)] env [] (fun e=>e=Pw tk (.mit k l.length []) (.ptr tk 0))
 | next {tk x ty env j k b n seen l} (hj:(j,some (.mit k n seen))∈env) (hm:(k,some (.map l))∈env) (hn:n=l.length) :
  ExtR P np tk (.next x false) ty [(.ptr j 0,b)] env [j] (fun e=>((∀ i,i < n->i∈seen)/\e=Yl j (.mit k n seen) (some (.tup [.val (.bool false)])))\/∃ i p,l[i]?=some p/\i∉seen/\e=Yl j (.mit k n (seen ++ [i])) (some (.tup [.val (.bool true),.val p.1,.val p.2])))
 | entry {tk x ty env j k b n seen i l p} (hj:(j,some (.mit k n (seen ++ [i])))∈env) (hm:(k,some (.map l))∈env) (hn:n=l.length) (hp:l[i]?=some p) :
  ExtR P np tk (.entry x) ty [(.ptr j 0,b)] env [] (fun e=>e=v0 (.tup [.val p.1,.val p.2]))
 | clearP {tk t x ty env k off m b e sz bytes cs zc} (hS:Ix P t e sz bytes) (hz:rZ P e zc) (hL:(k,some (.row e sz cs))∈env) (hl:off + m * sz<=cs.length) :
  ExtR P np tk (.call ⟨.builtin .clear,#[x],#[t]⟩) ty [(.part k off m,b)] env [k] (fun e'=>e'=Yl k (.row e sz (Di cs off (List.replicate m zc).flatten)) (some (.tup [])))
 | copyR {tk t t' x y ty env k b d' e sz bytes cs cs' n} (hS:Ix P t e sz bytes) (hS':Ix P t' e sz bytes) (hL:(k,some (.row e sz cs))∈env) (hs:∃ b',d'=(DV.sl sz cs',b')) (hn:cs.length=n * sz) (hn':cs'.length=n * sz) :
  ExtR P np tk (.call ⟨.builtin .copy,#[x,y],#[t,t']⟩) ty [(.row k,b),d'] env [k] (fun e'=>e'=Yl k (.row e sz cs') (some (.val (.int .i64 (n:Int)))))
 | makeC {tk t x y ty env e sz bytes k k' n c b b' zc} {m:Nat} (hS:Ix P t e sz bytes) (hz:rZ P e zc) (hn:n=(m:Int)) {cap:Nat} (hc:c=(cap:Int)) (hlt:m<=cap) (hxy:x≠y) (hm:cap * bytes<=140737488355328/\cap<=1000000) :
  ExtR P np tk (.makeSlice t x y) ty [(.val (.int k n),b),(.val (.int k' c),b')] env [] (fun e'=>e'=Pw tk (.row e sz (List.replicate m zc).flatten) (.row tk))
 | appZ {tk t tn x y ty env e sz bytes k kn n b b' zc} {m:Nat} (hS:Ix P t e sz bytes) (htn:P.underlying tn=some (.int kn)) (hz:rZ P e zc) (hn:n=(m:Int)) (h0:0 < m) (hm:m * bytes<=140737488355328/\m<=1000000) :
  ExtR P np tk (.call ⟨.builtin .append,#[x,y],#[t,tn]⟩) ty [(.val (.slice none 0 0),b),(.val (.int k n),b')] env [] (fun e'=>e'=Pw tk (.row e sz (List.replicate m zc).flatten) (.row tk))
 | buildV {tk t len parts ty ds env e bytes z r} (hS:Ix P t e 1 bytes) (hz:Zt P e z) (hlen:len * 1<=16777216) (hd:Ja (fun i=>some (i * 1,1)) ((List.replicate len (z.map DV.val)).flatten) ((parts.toList.map (·.1)).zip (ds.map (·.1)))=some r) (hoc:ds.all (fun q=>(C2 q.1).all aG)=true) (h0:0 < len) {pl:List (Nat×DV)} {pi f n:Nat} {pc:List DV} (hl:(parts.toList.map (·.1)).zip (ds.map (·.1))=pl ++ [(pi,.clo f n pc)]) :
  ExtR P np tk (.buildSlice t len parts) ty ds env [] (fun e'=>e'=Pw tk (.vec r e) (.row tk))
 | extV {tk f xs tys ty dsA env vs v} (hd:R9 (dsA.map (·.1))=some vs) (hv:(∀ u∈vs,E8 u=true)->E8 v=true) (h:∀ w,(callFunc f vs.toArray).run P w=.ok (.value v) w) :
  ExtR P np tk (.call ⟨.value (.func f),xs,tys⟩) ty ((.val (.func (.func f) #[] #[]),none) :: dsA) env [] (fun e=>e=v0 (.val v))
 | lenV {tk t x ty env k ds e bytes} (hS:Ix P t e 1 bytes):ExtR P np tk (.call ⟨.builtin .len,#[x],#[t]⟩) ty [(.row k,some (.vec ds e))] env [] (fun e'=>e'=v0 (.val (.int .i64 (ds.length:Int))))
 | idxV {tk t x i ty env k ds e bytes kk b n} {j:Nat} (hS:Ix P t e 1 bytes) (hj:n=(j:Int)) (hl:j < ds.length):ExtR P np tk (.indexAddr t x i) ty [(.row k,some (.vec ds e)),(.val (.int kk n),b)] env [] (fun e'=>e'=v0 (.ptr k j))
 | loadV {tk t x ty env k i ds e sz d} (ht:Ty P t false sz) (hd:ds[i]?=some d):ExtR P np tk (.load t x) ty [(.ptr k i,some (.vec ds e))] env [] (fun e'=>e'=v0 d)
section
variable {P:Program} {cx:Cx} {ρ:Nat->Value} {σ:St} {a:Act} {w w':World} {o:Oper} {K:Act->World->Prop} {Q:Exit->Act->World->Prop}
theorem mZ {α:Type} (l xs:List α) (i:Nat) (h:i + xs.length<=l.length):(Di l i xs).length=l.length:=by
 unfold Di
 simp only [aDd,aFl,aIf]
 omega
theorem oI {α:Type} (l:List α) (i:Nat):Di l i []=l:=by
 unfold Di
 simp
theorem Y8 {I:Nat->Prop} {v:Value} {e s i g:Nat} {cs cs':List C} {us':List Value} (hw:T8 cx ρ I w v (.row e s cs)) (G:C7 v=some g) (hr':Fc w I cs' us') (h1:∀ u∈us',u.oneCell'=true) (hi:i + cs'.length<=cs.length) :
  ∃ X:Array Value,(storeCells ⟨g,i,none⟩ us').run P w=.ok () (w.setRow g X)/\∀ I':Nat->Prop,(∀ b,I b->I' b/\(w.setRow g X).heap[b]?=w.heap[b]?)->T8 cx ρ I' (w.setRow g X) v (.row e s (Di cs i cs')):=by
 obtain⟨n,us,hw,hM,hr⟩:=hw
 rcases hw.2 with ⟨A0,q1,-⟩ | ⟨g',cap,cur,q1,q2,q3,q4,q5,q6,q7⟩
 ·rw [q1] at G; cases A0 <;> cases G
 ·have hgg:g'=g:=by rw [q1] at G; exact (F2 G).1
  subst hgg
  have hul:us.length=n * s:=hw.1
  have hcl:cs.length=us.length:=hr.1
  have hcl':cs'.length=us'.length:=hr'.1
  have hn:n * s<=cap * s:=aLi _ q4
  have hrun:=run_storeCells_at P g' i e us' 0 cur w q3 (by omega) h1
  simp only [Nat.add_zero] at hrun
  refine⟨_,hrun,fun I' hI=>?_⟩
  have hlen:∀ {α:Type} (l xs:List α),i + xs.length<=l.length->(Di l i xs).length=l.length:=fun l xs h=>mZ l xs i h
  have hcur:cur.toList.length=cap * s:=by simpa using q6
  refine⟨n,Di us i us',⟨by rw [hlen us us' (by omega)]; exact hul,.inr ⟨g',cap,(Di cur.toList i us').toArray,q1,q2,setRow_heap w g' _ _ e (0,0) q3,q4,q5,?_,?_⟩⟩,hM,?_⟩
  ·simp only [List.size_toArray]
   rw [hlen cur.toList us' (by omega)]
   simpa using q6
  ·unfold Di
   have e3:us.take i=cur.toList.take i:=by rw [<- q7,aTg]; congr 1; omega
   have e4:us.drop (i + us'.length)=(cur.toList.drop (i + us'.length)).take (n * s - (i + us'.length)):=by rw [<- q7,List.drop_take]
   rw [e3,e4]
   rw [aSx,aH0 (by simp only [aDd,aFl]; omega)]
   congr 1
   congr 1
   simp only [aDd,aFl]
   omega
  ·exact (hr.splice hr' i).keep_ (fun b hb=>(hI b hb).2) fun b hb=>(hI b hb).1
theorem vC {κ ν:Type} [DecidableEq κ] {f:κ->Value} {g:ν->Value} {l:List (κ×ν)} {key:κ} {z:ν} {m:Nat} (hm:Wz w m (U5 f g l)) (hz:E8 (g z)=true):E8 (g (Hm l key z))=true:=by
 unfold Hm
 cases hf:l.find? fun p=>decide (p.1=key) with
 | none=>exact hz
 | some p=>
  obtain⟨es,-,-,-,h4⟩:=hm
  exact (h4 _ (aLl.2 ⟨p,List.mem_of_find?_eq_some hf,rfl⟩)).2
theorem jP {I:Nat->Prop} {x y:Value} (hx:E8 x=true) (hy:E8 y=true):Cw ρ I w (.tup [.val x,.val y]) (.tuple #[x,y]):=by
 unfold Cw
 refine⟨[x,y],rfl,?_⟩
 unfold Cb
 refine⟨x,[y],rfl,Kl hx,?_⟩
 unfold Cb
 refine⟨y,[],rfl,Kl hy,?_⟩
 unfold Cb
 rfl
theorem yB {I:Nat->Prop} {x y z:Value} (hx:E8 x=true) (hy:E8 y=true) (hz:E8 z=true):Cw ρ I w (.tup [.val x,.val y,.val z]) (.tuple #[x,y,z]):=by
 unfold Cw
 refine⟨[x,y,z],rfl,?_⟩
 unfold Cb
 refine⟨x,[y,z],rfl,Kl hx,?_⟩
 unfold Cb
 refine⟨y,[z],rfl,Kl hy,?_⟩
 unfold Cb
 refine⟨z,[],rfl,Kl hz,?_⟩
 unfold Cb
 rfl
theorem uT {I:Nat->Prop} {x:Value} (hx:E8 x=true):Cw ρ I w (.tup [.val x]) (.tuple #[x]):=by
 unfold Cw
 refine⟨[x],rfl,?_⟩
 unfold Cb
 refine⟨x,[],rfl,Kl hx,?_⟩
 unfold Cb
 rfl
theorem P3:∀ (l:List Value) (k:Nat),men (.tup (l.map DV.val)) k->False:=fun l k h=>Pf l k (by unfold men at h; exact h)
theorem wW {e sz:Nat} {zc:List C} (h:rZ P e zc) {t bytes:Nat} (hS:Ix P t e sz bytes) (w:World) (I:Nat->Prop) (m:Nat):∃ z:Value,(zeroValue e).run P w=.ok z w/\z.cells.size=sz/\zc.length=sz/\Fc w I (List.replicate m zc).flatten (List.replicate m z.cells.toList).flatten/\(∀ u∈z.cells.toList,u.oneCell'=true)/\(∃ it,P.info? e=some it/\it.zero=some z/\it.size=sz/\it.bytes=bytes):=by
 obtain⟨z,ck,hz,hd⟩:=h
 obtain⟨it,zv,z1,z2,z3,z4⟩:=hz.get
 obtain⟨it',zv',y1,y2,y3,y4,y5⟩:=hS.hi
 rw [z1] at y1
 injection y1 with y1
 subst y1
 rw [z2] at y2
 injection y2 with y2
 subst y2
 have hr:Fc w I zc z:=Ly.rd (ρ:=fun _=>.nilFunc) hd (Cb.ofVals _ fun u hu=>(z4 u hu).2)
 have hl:zc.length=sz:=by rw [hr.1,<- z3]; simpa using y5
 refine⟨zv,by simp [zeroValue,typeInfo,z1,z2],y5,hl,?_,fun u hu=>(z4 u (by rw [<- z3]; exact hu)).1,it,z1,z2,y3,y4⟩
 rw [z3]
 induction m with
 | zero=>exact⟨rfl,fun j c u h _=>by simp at h⟩
 | succ m ih=>
  rw [aRo,aRo,aSr,aSr]
  exact hr.append ih
theorem yE {t e:TypeId} {len bytes tk:Nat} {parts:Array (Nat×Operand)} {ds:List (DV×Option LB)} {z:List Value} {r:List DV} {tc:Bool} (hS:Ix P t e 1 bytes) (hz:Zt P e z) (hlen:len * 1<=16777216)
  (hd:Ja (fun i=>some (i * 1,1)) ((List.replicate len (z.map DV.val)).flatten) ((parts.toList.map (·.1)).zip (ds.map (·.1)))=some r) (h0:0 < len) (hoc:ds.all (fun q=>(C2 q.1).all aG)=true)
  (ha:E1 cx ρ σ a w) (hds:E0 σ tc (parts.toList.map (·.2))=some ds) (ho:o.op=.buildSlice t len parts) (hf:σ.U tk=false) (hdst:∀ t,o.dst=some t->t < cx.N) (hK:∀ a' w',Lw cx (σ.app o.dst (Pw tk (.vec r e) (.row tk))) a' w'->K a' w'):o.wp P a w K Q:=by
 obtain⟨hr,hm⟩:=N3 ha hds
 obtain⟨it,zv,z1,z2,z3,z4⟩:=hz.get
 obtain⟨it',zv',y1,y2,y3,y4,y5⟩:=hS.hi
 rw [z1] at y1
 injection y1 with y1
 subst y1
 rw [z2] at y2
 injection y2 with y2
 subst y2
 have hsz:=hS.hsz
 rw [Yo] at hd
 have hone:∀ u∈(List.replicate len z).flatten,u.oneCell'=true:=fun u hu=>by
  obtain⟨l,h1,h2⟩:=aSi.1 hu
  rw [(aR1.1 h1).2] at h2
  exact (z4 u h2).1
 have hok0:∀ u∈(List.replicate len z).flatten,E8 u=true:=fun u hu=>by
  obtain⟨l,h1,h2⟩:=aSi.1 hu
  rw [(aR1.1 h1).2] at h2
  exact (z4 u h2).2
 obtain⟨rs,r1,r2,r3⟩:=Ud (place:=fun i=>some (i * 1,1)) (parts.toList.map (·.1)) _ _ _ ((List.replicate len z).flatten) r hr (fun d hd'=>by
  obtain⟨q,hq,rfl⟩:=aLl.1 hd'
  exact aG8.1 hoc q hq) (Cb.ofVals _ hok0) hone hd
 have hrun:(Instr.buildSlice t len (parts.map fun (i,x)=>(i,a.eval x))).run P w=.ok (.slice (some ⟨w.heap.size,0,none⟩) len len) (w.alloc (.cells rs.toArray e)):=by
  have e1:(parts.map fun (i,x)=>(i,a.eval x)).toList=(parts.toList.map (·.1)).zip ((parts.toList.map (·.2)).map a.eval):=by
   rw [<- Us]; simp
  have e3:((Array.range (len * 1)).map (zv.cells[· % zv.cells.size]!))=((List.replicate len z).flatten).toArray:=by
   rw [<- z3,<- Pe zv.cells len 1 y5 hsz]
  by_cases h0':len * 1=0
  ·have hl0:len=0:=by
    rcases aS1.1 h0' with h | h
    ·exact h
    ·omega
   subst hl0
   have r1':Instr.fill (fun i=>some (i * 1,1)) #[] (parts.map fun (i,x)=>(i,a.eval x)).toList=some rs.toArray:=by
    rw [e1]; simpa using r1
   have hs0:=hS.size (w:=w)
   generalize (parts.map fun (i,x)=>(i,a.eval x))=pp at r1' ⊢
   have hn0:((Array.range (0 * 1)).map ((#[]:Array Value)[· % (#[]:Array Value).size]!))=#[]:=by
    rw [aSo]; simp
   simp only [Instr.buildSlice,Sem.run_bind,run_underlying hS.ht,Result.andThen_ok,hs0,aSo]
   rw [if_neg (by omega)]
   simp only [if_true,Sem.run_pure,Result.andThen_ok,Sem.run_bind]
   rw [aSo] at hn0
   rw [hn0,r1']
   simp [newRow]
  ·refine run_buildSlice w t e len _ rs.toArray it zv hS.ht z1 z2 (by rw [y3]; omega) (by rw [y3]; exact h0') ?_
   rw [y3,e3,e1]
   exact r1
 have hrl:rs.length=len * 1:=by
  have hdl:∀ (ps:List (Nat×DV)) (ds r:List DV),Ja (fun i=>some (i * 1,1)) ds ps=some r->r.length=ds.length:=by
   intro ps
   induction ps with
   | nil=>intro ds r h; unfold Ja at h; injection h with h; rw [h]
   | cons p ps ih=>
    intro ds r h
    obtain⟨i,d⟩:=p
    unfold Ja at h
    simp only [] at h
    cases hb:(Nat.beq (C2 d).length 1 && Nat.ble (i * 1 + 1) ds.length) with
    | false=>rw [hb] at h; cases h
    | true=>
     rw [hb] at h
     rw [aFx] at hb
     have b1:=aDj hb.1
     have b2:=aCt hb.2
     rw [ih _ _ h]
     unfold Di
     simp only [aDd,aFl,aIf]
     omega
  rw [<- r2.length,hdl _ _ _ hd,aSp]
  have hzl:z.length=1:=by rw [<- z3]; simpa using y5
  simp [hzl]
 have hmr:∀ k,F7 r k->σ.U k=true:=fun k hk=>by
  rcases U1 hd hk with h | ⟨p,h1,h2⟩
  ·exact (Pf _ k h).elim
  ·obtain⟨q,hq,he⟩:=aLl.1 (List.of_mem_zip h1).2
   exact hm q hq k (by rw [he]; exact h2)
 rw [Su] at hK
 have hrl':rs.length=len:=by rw [hrl]; omega
 refine Z4 (lb:=.vec r e) (ks:=[]) (d:=.row tk) (w':=w.alloc (.cells rs.toArray e)) ha hdst hf (v:=.slice (some ⟨w.heap.size,0,none⟩) len len) (vn:=.slice (some ⟨w.heap.size,0,none⟩) len len) ?_ (ha.kept.alloc _) (by simp) (fun b hb _=>Below.heap_alloc w _ b hb) (fun b hb=>.inl (aR0 (F2 hb).1)) (fun I' hI=>⟨?_,?_⟩) ⟨fun k' hk'=>?_,fun k' hk'=>.inr (by unfold men at hk'; exact hk')⟩ (fun k' hk'=>by simp at hk') hK
 ·simp only [execOp,ho,Sem.run_bind,hrun,Result.andThen_ok,Sem.run_pure]
 ·refine⟨w.heap.size,rs,by rw [hrl'],⟨by omega,by unfold maxLen; omega⟩,heap_alloc_new w _,.inl ha.kept.2.2.2.1,r3,Cb.step hI _ _ (fun k hk=>?_) r2⟩
  unfold K4
  split
  ·rename_i h
   subst h
   have:=hmr k hk
   rw [hf] at this; cases this
  ·rfl
 ·unfold Cw
  simp [K4,Value.oneCell']
 ·exact hmr k' hk'
theorem fJ {I:Nat->Prop}:∀ {ds:List DV} {vs us:List Value},Cb ρ I w ds us->R9 ds=some vs->∀ u∈vs,E8 u=true
 | [],vs,us,h,hd=>by
  unfold R9 at hd
  injection hd with hd
  subst hd
  simp
 | d :: ds,vs,us,h,hd=>by
  unfold Cb at h
  obtain⟨u,us',rfl,h1,h2⟩:=h
  unfold R9 at hd
  cases hv:Nb d with
  | none=>rw [hv] at hd; cases hd
  | some v=>
   cases hv':R9 ds with
   | none=>rw [hv,hv'] at hd; cases hd
   | some vs'=>
    rw [hv,hv'] at hd
    injection hd with hd
    subst hd
    intro x hx
    rcases aC6.1 hx with rfl | hx
    ·exact Cw.dval_ok h1 hv
    ·exact fJ h2 hv' x hx
theorem jZ:∀ a b:List UInt8,Go.Lib.compareBytes a b=Xa a b
 | [],[]=>rfl
 | [],_ :: _=>rfl
 | _ :: _,[]=>rfl
 | x :: a,y :: b=>by
  show (if x < y then (-1:Int) else if y < x then 1 else Go.Lib.compareBytes a b)=(if x < y then (-1:Int) else if y < x then 1 else Xa a b)
  rw [jZ a b]
theorem fO:∀ a b:List UInt8,-1<=Xa a b/\Xa a b<=1
 | [],[]=>⟨by decide,by decide⟩
 | [],_ :: _=>⟨by show (-1:Int)<=-1; decide,by show (-1:Int)<=1; decide⟩
 | _ :: _,[]=>⟨by show (-1:Int)<=1; decide,by show (1:Int)<=1; decide⟩
 | x :: a,y :: b=>by
  have h:=fO a b
  unfold Xa
  split
  ·exact⟨by decide,by decide⟩
  ·split
   ·exact⟨by decide,by decide⟩
   ·exact h
theorem uW {f:FuncId} {fn:Func} (hf:P.funcs[f]?=some fn) (hname:(fn.name == "runtime.NumGoroutine")=false) (hb:fn.body.isNone=true) (hn:Extern.findNext fn=none) (he:Extern.find fn=some Extern.BytealgCompare.compare) (a b:ByteArray) (w:World) :
  (callFunc f [.string a,.string b].toArray).run P w=.ok (.value (.int .i64 (sY a b))) w:=by
 rw [run_callFunc_extern hf hname hb hn he]
 have:=Go.Lib.run_compareString (P:=P) a b w
 rw [show ([.string a,.string b].toArray:Array Value)=#[.string a,.string b] from rfl,this,jZ]
 rfl
theorem aB4 {a b:ByteArray} (h:∀ u∈[Value.string a,.string b],E8 u=true):E8 (.int .i64 (sY a b))=true:=by
 have e3:IntKind.i64.min=-9223372036854775808:=by decide
 have e4:IntKind.i64.max=9223372036854775807:=by decide
 have key:=fO a.data.toList b.data.toList
 unfold sY
 exact Ia.2 ⟨by omega,by omega⟩
theorem tJ {f:FuncId} {fn:Func} (hf:P.funcs[f]?=some fn) (hname:(fn.name == "runtime.NumGoroutine")=false) (hb:fn.body.isNone=true) (hn:Extern.findNext fn=none) (he:Extern.find fn=some Extern.BytealgIndexByte.indexByte) (s:ByteArray) (c:UInt8) (w:World) :
  (callFunc f [.string s,.int .u8 (c.toNat:Int)].toArray).run P w=.ok (.value (.int .i64 (iH s c))) w:=by
 rw [run_callFunc_extern hf hname hb hn he]
 have:=run_indexByte_string (P:=P) s (c.toNat:Int) w
 rw [show ([.string s,.int .u8 (c.toNat:Int)].toArray:Array Value)=#[.string s,.int .u8 (c.toNat:Int)] from rfl,this]
 have e1:((c.toNat:Int).toNat.toUInt8)=c:=by simp
 rw [e1]
 rfl
theorem zA {s:ByteArray} {c:UInt8} (h:∀ u∈[Value.string s,.int .u8 (c.toNat:Int)],E8 u=true):E8 (.int .i64 (iH s c))=true:=by
 have hs:=Oc.1 (h (.string s) (by simp))
 have e3:IntKind.i64.min=-9223372036854775808:=by decide
 have e4:IntKind.i64.max=9223372036854775807:=by decide
 have key:-1<=iH s c/\iH s c<=s.size:=by
  unfold iH
  cases hf:(List.range s.size).find? fun i=>s[i]! == c with
  | none=>exact⟨aR9 _,by show (-1:Int)<=_; omega⟩
  | some i=>
   have:=List.mem_of_find?_eq_some hf
   rw [aSv] at this
   exact⟨by show -1<=(i:Int); omega,by show (i:Int)<=_; omega⟩
 unfold maxLen at hs
 exact Ia.2 ⟨by omega,by omega⟩
theorem ExtR.sound {tk:Nat} {op:Op} {ty:TypeId} {ds:List (DV×Option LB)} {env:jU} {wr:List Nat} {E:Nq->Prop} (h:ExtR P cx.np tk op ty ds env wr E) (ha:E1 cx ρ σ a w) (hds:E0 σ (Kj op) op.operands.toList=some ds) {l0:List Nat} (henv:env=Lu σ l0) (hf:∀ j,j < 8->σ.U (tk + j)=false) (ho:o.op=op) (hdst:∀ t,o.dst=some t->t < cx.N)
  (hK:∀ e a' w',E e->Lw cx (σ.app o.dst e) a' w'->K a' w'):o.wp P a w K Q:=by
 subst henv
 have hf0:σ.U tk=false:=hf 0 (by omega)
 cases h with
 | @makeMap t _ _=>
  refine Z4 (lb:=.map []) (ks:=[]) (d:=.row tk) (w':=w.alloc (.map #[] 0)) ha hdst hf0 (v:=.map (some w.heap.size)) (vn:=.map (some w.heap.size)) ?_ (ha.kept.alloc _) (by simp) (fun b hb _=>Below.heap_alloc w _ b hb) (fun b hb=>.inl (by injection hb with hb; omega)) (fun I' hI=>⟨?_,?_⟩) ⟨fun k' hk'=>hk'.elim,fun k' hk'=>.inr (by unfold men at hk'; exact hk')⟩ (fun k' hk'=>by simp at hk') (fun a' w' h=>hK _ a' w' rfl h)
  ·simp [execOp,ho,Instr.makeMap]
  ·exact⟨w.heap.size,rfl,⟨#[],heap_alloc_new w _,rfl,fun i e h=>by simp at h,fun p hp=>by cases hp⟩,.inl ha.kept.2.2.2.1⟩
  ·unfold Cw
   simp [K4,Value.oneCell']
 | @lookR t x i ok _ _ k b kd bk κ ν _ kt vt f g l key z ht hK' hz hzk hm hk=>
  have hL:=Ku hm
  obtain⟨e1,e2⟩:=Oo (show E0 σ false [x,i]=_ from hds)
  have h1:=(C1 ha e1).1
  have h2:=Cw.dval _ _ _ (C1 ha e2).1 hk
  unfold Cw at h1
  obtain⟨m,q1,q2,-⟩:=ha.lo _ _ hL
  have hrun:=lG (P:=P) ht hK' hz q2 (x:=key) ok
  have hgo:=vC (key:=key) q2 hzk
  refine K1 ha hdst (v:=bif ok then .tuple #[g (Hm l key z),.bool (Uf l key)] else g (Hm l key z)) ?_ ?_ (fun k' hk'=>?_) (fun a' w' h=>hK _ a' w' rfl h)
  ·simp only [execOp,ho,h1.1,q1,h2,Sem.run_bind,hrun,Result.andThen_ok,Sem.run_pure]
  ·cases ok with
   | true=>exact jP hgo rfl
   | false=>exact Kl hgo
  ·cases ok with
   | true=>exact (P3 [_,_] k' hk').elim
   | false=>exact Ux k' hk'
 | @lookM t x i ok _ _ b kd bk κ ν _ kt vt f g l key z ht hK' hz hzk hk=>
  obtain⟨e1,e2⟩:=Oo (show E0 σ false [x,i]=_ from hds)
  have h1:=(C1 ha e1).1
  have h2:=Cw.dval _ _ _ (C1 ha e2).1 hk
  unfold Cw E9 at h1
  obtain⟨m,q1,-,q2⟩:=h1
  have hrun:=lG (P:=P) ht hK' hz q2 (x:=key) ok
  have hgo:=vC (key:=key) q2 hzk
  refine K1 ha hdst (v:=bif ok then .tuple #[g (Hm l key z),.bool (Uf l key)] else g (Hm l key z)) ?_ ?_ (fun k' hk'=>?_) (fun a' w' h=>hK _ a' w' rfl h)
  ·simp only [execOp,ho,q1,h2,Sem.run_bind,hrun,Result.andThen_ok,Sem.run_pure]
  ·cases ok with
   | true=>exact jP hgo rfl
   | false=>exact Kl hgo
  ·cases ok with
   | true=>exact (P3 [_,_] k' hk').elim
   | false=>exact Ux k' hk'
 | @put t x y y' _ _ k b kd bk vd bv κ ν _ kt vt f g l key v ht hK' hm hk hv=>
  have hL:=Ku hm
  obtain⟨e1,e2,e3⟩:=zV (show E0 σ false [x,y,y']=_ from hds)
  have h1:=(C1 ha e1).1
  have h2:=Cw.dval _ _ _ (C1 ha e2).1 hk
  have h2':=Cw.dval_ok (C1 ha e2).1 hk
  have h3:=Cw.dval _ _ _ (C1 ha e3).1 hv
  have h3':=Cw.dval_ok (C1 ha e3).1 hv
  unfold Cw at h1
  obtain⟨m,q1,q2,q3⟩:=ha.lo _ _ hL
  obtain⟨es,hrun,hnew⟩:=aAq (P:=P) ht hK' q2 h2' h3'
  refine nV (lb':=.map (U5 f g (Ma l key v))) (d:=none) (v:=undef) (w':=setBlock w m (.map es es.size)) ha hdst hL (.inl ⟨?_,rfl⟩) ⟨rfl,rfl,rfl,Uh _ _⟩ (fun b hb=>Ti _ fun e=>hb (by rw [q1,e]; rfl)) (fun I' hI=>⟨⟨m,q1,hnew,q3⟩,fun x hx=>by cases hx⟩) ⟨fun k' hk'=>hk'.elim,fun x k' hx=>by cases hx⟩ (fun a' w' h=>hK _ a' w' rfl h)
  simp only [execOp,ho,h1.1,q1,h2,h3,Sem.run_bind,hrun,Result.andThen_ok,Sem.run_pure]
 | @range t x _ _ k b l kt vt ht hm=>
  have hL:=Ku hm
  have e1:=K8 (show E0 σ false [x]=_ from hds)
  obtain⟨h1,h2,-⟩:=C1 ha e1
  unfold Cw at h1
  obtain⟨m,q1,⟨es,q2,q3,q4,q5⟩,-⟩:=ha.lo _ _ hL
  have hn:es.size=l.length:=by rw [<- q3]; simp
  have hrun:=run_range_map (P:=P) w t kt vt m es es.size ht q2
  have hku:σ.U k=true:=(ha.usedL _ _ hL).1
  have hne:k≠tk:=fun e=>by rw [e,hf0] at hku; cases hku
  refine Z4 (lb:=.mit k l.length []) (ks:=[]) (d:=.ptr tk 0) (w':=w.alloc (.mapIter (some m) es.size #[] es.size)) ha hdst hf0 (v:=.pointer (some ⟨w.heap.size,0,none⟩)) (vn:=.pointer (some ⟨w.heap.size,0,none⟩)) ?_ (ha.kept.alloc _) (by simp) (fun b hb _=>Below.heap_alloc w _ b hb) (fun b hb=>.inl (by injection hb with hb; exact aR0 hb)) (fun I' hI=>⟨?_,?_⟩) ⟨fun k' hk'=>by have hk':k'=k:=hk'; rw [hk']; exact hku,fun k' hk'=>.inr (by unfold men at hk'; exact hk')⟩ (fun k' hk'=>by simp at hk') (fun a' w' h=>hK _ a' w' rfl h)
  ·simp only [execOp,ho,h1.1,q1,Sem.run_bind,hrun,Result.andThen_ok,Sem.run_pure]
  ·refine⟨w.heap.size,m,rfl,by rw [<- q1]; unfold K4; rw [if_neg hne],?_,.inl ha.kept.2.2.2.1⟩
   rw [heap_alloc_new,hn]
  ·unfold Cw
   exact⟨w.heap.size,by simp [K4,C7],rfl⟩
 | @next x _ _ j k b n seen l hj hm hn=>
  have hLj:=Ku hj
  have hLk:=Ku hm
  have e1:=K8 (show E0 σ false [x]=_ from hds)
  obtain⟨h1,h2,-⟩:=C1 ha e1
  unfold Cw at h1
  obtain⟨g,G,hv⟩:=h1
  obtain⟨b',m,r1,r2,r3,r4⟩:=ha.lo _ _ hLj
  have hgb:b'=g:=by rw [r1] at G; injection G
  subst hgb
  obtain⟨m',q1,⟨es,q2,q3,q4,q5⟩,-⟩:=ha.lo _ _ hLk
  have hmm:m=m':=by rw [r2] at q1; injection q1 with q1; injection q1
  subst hmm
  have hes:es.size=n:=by rw [hn,<- q3]; simp
  have hku:σ.U k=true:=(ha.usedL _ _ hLk).1
  have hlt:∀ x∈es.toList,x.born < n:=fun x hx=>by
   obtain⟨i,hi,rfl⟩:=aP6 hx
   have hi':i < es.size:=by simpa using hi
   have:=q4 i es[i] (by simp [hi'])
   simp only [Array.getElem_toList]
   rw [this]; omega
  have left:∀ e,e∈(leftOf es seen.toArray).toList↔e∈es.toList/\e.born∉seen:=fun e=>by
   unfold leftOf
   simp
  rcases run_next_at (P:=P) w o.type b' m n n seen.toArray es es.size r3 q2 hlt (aHx _) with ⟨s1,s2⟩ | ⟨e,s1,w1,s2,s3⟩
  ·refine nV (d:=some (.tup [.val (.bool false)])) (lb':=.mit k n seen) (v:=.tuple #[.bool false]) (w':=w) ha hdst hLj (.inr ?_) ⟨rfl,rfl,rfl,rfl⟩ (fun b hb=>rfl) (fun I' hI=>⟨⟨b',m,r1,r2,r3,r4⟩,fun x hx=>by injection hx with hx; subst hx; exact uT rfl⟩) ⟨fun k' hk'=>by have hk':k'=k:=hk'; rw [hk']; exact hku,fun x k' hx hm=>by injection hx with hx; subst hx; exact (P3 [_] k' hm).elim⟩ (fun a' w' h=>hK _ a' w' (.inl ⟨fun i hi=>?_,rfl⟩) h)
   ·simp only [execOp,ho,hv,Sem.run_bind,s2,Result.andThen_ok,Sem.run_pure]
   ·refine Decidable.byContradiction fun hns=>?_
    have hi':i < es.size:=by omega
    have:es[i]∈(leftOf es seen.toArray).toList:=(left _).2 ⟨by simp,by rw [q4 i es[i] (by simp [hi'])]; exact hns⟩
    have h0:(leftOf es seen.toArray)=#[]:=Array.eq_empty_of_size_eq_zero s1
    rw [h0] at this
    simp at this
  ·obtain⟨t1,t2⟩:=(left e).1 s1
   obtain⟨i,hi,hie⟩:=aP6 t1
   have hi':i < es.size:=by simpa using hi
   have hei:es[i]?=some e:=by
    rw [<- aN9,aBx hi,hie]
   have hb:=q4 i e hei
   have hl:l[i]?=some (e.key,e.val):=by
    rw [<- q3,aMu,aN9,hei]
    rfl
   have hok:=q5 _ (aIh hl)
   have hw1:w1.os=w.os/\w1.tape=w.tape/\w1.output=w.output/\w1.heap=w.heap:=by
    rcases s2 with rfl | rfl <;> exact⟨rfl,rfl,rfl,rfl⟩
   obtain⟨v1,v2,v3,v4⟩:=hw1
   refine nV (d:=some (.tup [.val (.bool true),.val e.key,.val e.val])) (lb':=.mit k n (seen ++ [i])) (v:=.tuple #[.bool true,e.key,e.val]) (w':=setBlock w1 b' (.mapIter (some m) n (seen.toArray.push e.born) es.size)) ha hdst hLj (.inr ?_) ⟨v1,v2,v3,by rw [Uh,v4]⟩ (fun b hb=>(Ti _ fun e=>hb (by rw [r1,e]; rfl)).trans (by rw [v4])) (fun I' hI=>⟨⟨b',m,r1,r2,?_,r4⟩,fun x hx=>by injection hx with hx; subst hx; exact yB rfl hok.1 hok.2⟩) ⟨fun k' hk'=>by have hk':k'=k:=hk'; rw [hk']; exact hku,fun x k' hx hm=>by injection hx with hx; subst hx; exact (P3 [_,_,_] k' hm).elim⟩ (fun a' w' h=>hK _ a' w' (.inr ⟨i,_,hl,by rw [<- hb]; exact t2,rfl⟩) h)
   ·simp only [execOp,ho,hv,Sem.run_bind,s3,Result.andThen_ok,Sem.run_pure]
   ·rw [P9 (w:=w1) (by rw [v4]; exact r3),hb,hes]
    simp
 | @entry x _ _ j k b n seen i l p hj hm hn hp=>
  have hLj:=Ku hj
  have hLk:=Ku hm
  have e1:=K8 (show E0 σ false [x]=_ from hds)
  obtain⟨h1,h2,-⟩:=C1 ha e1
  unfold Cw at h1
  obtain⟨g,G,hv⟩:=h1
  obtain⟨b',m,r1,r2,r3,r4⟩:=ha.lo _ _ hLj
  have hgb:b'=g:=by rw [r1] at G; injection G
  subst hgb
  obtain⟨m',q1,⟨es,q2,q3,q4,q5⟩,-⟩:=ha.lo _ _ hLk
  have hmm:m=m':=by rw [r2] at q1; injection q1 with q1; injection q1
  subst hmm
  have hes:es.size=n:=by rw [hn,<- q3]; simp
  have hok:=q5 _ (aIh hp)
  have hpe:=hp
  rw [<- q3,aMu,aN9] at hpe
  obtain⟨e,hei,rfl⟩:=Option.map_eq_some_iff.1 hpe
  have hb:=q4 i e hei
  obtain⟨hi,hie⟩:=aG6.1 hei
  have hfind:es.find? (fun x=>x.born == i)=some e:=by
   rw [Array.find?_eq_some_iff_getElem]
   refine⟨by rw [hb]; simp,i,hi,hie,fun q hq=>?_⟩
   have:=q4 q es[q] (by simp)
   rw [this]
   have:q≠i:=by omega
   simp [this]
  have hrun:(Instr.entry (.pointer (some ⟨b',0,none⟩))).run P w=.ok (.tuple #[e.key,e.val]) w:=by
   have hback:(seen ++ [i]).toArray.back?=some i:=by simp
   simp only [Instr.entry,getObj,Sem.run_bind,Sem.run,r3,q2,Result.andThen,hback,hes,hfind,bne_self_eq_false,aS0,if_false]
   rfl
  refine K1 ha hdst (d:=.tup [.val e.key,.val e.val]) (v:=.tuple #[e.key,e.val]) ?_ (jP hok.1 hok.2) (fun k' hk'=>(P3 [_,_] k' hk').elim) (fun a' w' h=>hK _ a' w' rfl h)
  simp only [execOp,ho,hv,Sem.run_bind,hrun,Result.andThen_ok,Sem.run_pure]
 | @clearP t x _ _ k off m b e sz bytes cs zc hS hz hL hl=>
  have hL:=Ku hL
  have e1:=K8 (show E0 σ true [x]=_ from hds)
  obtain⟨h1,h2,-⟩:=C1 ha e1
  unfold Cw at h1
  obtain⟨A,c,hv,-,-,hA,-⟩:=h1
  obtain⟨z,z1,z2,z3,z4,z5,-⟩:=wW hz hS w (N5 cx σ ρ w) m
  have ht:=hS.ht
  have hlo:=ha.lo _ _ hL
  rcases aJv m with hm | hm
  ·subst hm
   refine nV (lb':=.row e sz (Di cs off (List.replicate 0 zc).flatten)) (d:=some (.tup [])) (v:=.tuple #[]) (w':=w) ha hdst hL (.inr ?_) ⟨rfl,rfl,rfl,rfl⟩ (fun b hb=>rfl) (fun I' hI=>⟨?_,fun x hx=>by injection hx with hx; subst hx; unfold Cw; exact⟨[],rfl,by unfold Cb; rfl⟩⟩) ⟨fun k' hk'=>hk'.elim,fun x k' hx hm=>by injection hx with hx; subst hx; exact (P3 [] k' hm).elim⟩ (fun a' w' h=>hK _ a' w' rfl h)
   ·have:(Builtin.clear_ #[t] o.type #[.slice A 0 c]).run P w=.ok (.tuple #[]) w:=by
     cases A <;> simp [Builtin.clear_,run_underlying ht]
    simp [execOp,ho,resolve,invoke,builtin,hv,this]
   ·rw [List.replicate_zero,List.flatten_nil,oI]
    obtain⟨n,us,q1,q2,q3⟩:=hlo
    exact⟨n,us,q1,q2,q3.keep_ (fun _ _=>rfl) fun b hb=>(hI b hb).1⟩
  ·obtain⟨g,G,rfl⟩:=hA hm
   have hlen:(List.replicate m zc).flatten.length=m * sz:=by simp [z3]
   obtain⟨X,hst,hnew⟩:=Y8 (P:=P) (i:=off) hlo G z4 (fun u hu=>by
    obtain⟨l,h3,h4⟩:=aSi.1 hu
    rw [(aR1.1 h3).2] at h4
    exact z5 u h4) (by rw [hlen]; exact hl)
   have hzc:(Builtin.zeroCells z.cells m).toList=(List.replicate m z.cells.toList).flatten:=by
    unfold Builtin.zeroCells
    exact Pe z.cells m z.cells.size rfl (by rw [z2]; exact hS.hsz)
   refine nV (lb':=.row e sz (Di cs off (List.replicate m zc).flatten)) (d:=some (.tup [])) (v:=.tuple #[]) (w':=w.setRow g X) ha hdst hL (.inr ?_) ⟨rfl,rfl,rfl,Qu w g X⟩ (fun b hb=>O0 w g b X fun e=>hb (by rw [G,e])) (fun I' hI=>⟨hnew I' hI,fun x hx=>by injection hx with hx; subst hx; unfold Cw; exact⟨[],rfl,by unfold Cb; rfl⟩⟩) ⟨fun k' hk'=>hk'.elim,fun x k' hx hm=>by injection hx with hx; subst hx; exact (P3 [] k' hm).elim⟩ (fun a' w' h=>hK _ a' w' rfl h)
   have:(Builtin.clear_ #[t] o.type #[.slice (some ⟨g,off,none⟩) m c]).run P w=.ok (.tuple #[]) (w.setRow g X):=by
    obtain⟨m',rfl⟩:∃ m',m=m' + 1:=⟨m - 1,by omega⟩
    simp [Builtin.clear_,run_underlying ht,z1,hzc,hst]
   simp [execOp,ho,resolve,invoke,builtin,hv,this]
 | @copyR t t' x y _ _ k b d' e sz bytes cs cs' n hS hS' hL hs hn hn'=>
  have hL:=Ku hL
  obtain⟨b',rfl⟩:=hs
  obtain⟨e1,e2⟩:=Oo (show E0 σ true [x,y]=_ from hds)
  obtain⟨h1,-,-⟩:=C1 ha e1
  obtain⟨h2,-,-⟩:=C1 ha e2
  unfold Cw at h1 h2
  obtain⟨A,m,c,hv,hm,hmc,hc⟩:=h2.slice
  have hsz:=hS.hsz
  have hmn:m=n:=aKn hsz (hm.symm.trans hn')
  subst hmn
  rw [hv] at h2
  obtain⟨us',u1,u2,u3⟩:=h2.vals
  have hlo:=ha.lo _ _ hL
  obtain⟨N,us,q1,q2,q3⟩:=id hlo
  have hN:N=m:=aKn hsz (by rw [<- q1.1,<- q3.1]; exact hn)
  subst hN
  obtain⟨it,zv,y1,y2,y3,y4,y5⟩:=hS.hi
  have hsplice:Di cs 0 cs'=cs':=by
   unfold Di
   rw [aLq,hn',<- hn,List.take_zero,List.drop_length]
   simp
  rcases aJv N with h0 | h0
  ·subst h0
   have hcs:cs=[]:=aDn (by simpa using hn)
   have hcs':cs'=[]:=aDn (by simpa using hn')
   subst hcs hcs'
   refine nV (lb':=.row e sz []) (d:=some (.val (.int .i64 0))) (v:=.int .i64 0) (w':=w) ha hdst hL (.inr ?_) ⟨rfl,rfl,rfl,rfl⟩ (fun b hb=>rfl) (fun I' hI=>⟨?_,fun x hx=>by injection hx with hx; subst hx; exact Kl rfl⟩) ⟨fun k' hk'=>hk'.elim,fun x k' hx hm=>by injection hx with hx; subst hx; unfold men at hm; exact hm.elim⟩ (fun a' w' h=>hK _ a' w' rfl h)
   ·have key:∀ B cap',(Builtin.copy_ #[t,t'] o.type #[.slice B 0 cap',.slice A 0 c]).run P w=.ok (.int .i64 0) w:=fun B cap'=>by
     cases B <;> cases A <;> simp [Builtin.copy_,run_underlying hS.ht,Builtin.lenOf,Builtin.firstCells,sizeOf,typeInfo,y1,storeCells,loadCells,loadCellsFrom,goInt]
    have hsl:∃ B cap',ρ k=.slice B 0 cap':=by
     rcases q1.2 with ⟨B,e,-⟩ | ⟨g,cap,cur,e,-⟩
     ·exact⟨_,_,e⟩
     ·exact⟨_,_,e⟩
    obtain⟨B,cap',hB⟩:=hsl
    simp [execOp,ho,resolve,invoke,builtin,hv,h1.1,hB,key]
   ·exact⟨0,us,q1,q2,q3.keep_ (fun _ _=>rfl) fun b hb=>(hI b hb).1⟩
  ·obtain⟨ad,rfl,-,hcell⟩:=u3 h0
   obtain⟨g,cap,hr,hcap,-,-⟩:=W1 q1 h0
   have G:C7 (ρ k)=some g:=by rw [hr]; exact J7 (by omega)
   obtain⟨X,hst,hnew⟩:=Y8 (P:=P) (i:=0) hlo G u2 (iF u2) (by rw [hn,hn']; omega)
   rw [hsplice] at hnew
   have hokN:E8 (.int .i64 (N:Int))=true:=by
    have e3:IntKind.i64.min=-9223372036854775808:=by decide
    have e4:IntKind.i64.max=9223372036854775807:=by decide
    unfold maxLen at hc
    exact Ia.2 ⟨by omega,by omega⟩
   refine nV (lb':=.row e sz cs') (d:=some (.val (.int .i64 (N:Int)))) (v:=.int .i64 (N:Int)) (w':=w.setRow g X) ha hdst hL (.inr ?_) ⟨rfl,rfl,rfl,Qu w g X⟩ (fun b hb=>O0 w g b X fun e=>hb (by rw [G,e])) (fun I' hI=>⟨hnew I' hI,fun x hx=>by injection hx with hx; subst hx; exact Kl hokN⟩) ⟨fun k' hk'=>hk'.elim,fun x k' hx hm=>by injection hx with hx; subst hx; unfold men at hm; exact hm.elim⟩ (fun a' w' h=>hK _ a' w' rfl h)
   have hload:=run_loadCells_list (P:=P) w ad us' hcell
   rw [u1] at hload
   have key:(Builtin.copy_ #[t,t'] o.type #[.slice (some ⟨g,0,none⟩) N cap,.slice (some ad) N c]).run P w=.ok (.int .i64 (N:Int)) (w.setRow g X):=by
    simp [Builtin.copy_,run_underlying hS.ht,Builtin.lenOf,Builtin.firstCells,sizeOf,typeInfo,y1,y3,hload,hst,goInt]
   simp [execOp,ho,resolve,invoke,builtin,hv,h1.1,hr,key]
 | @makeC t x y _ _ e sz bytes k k' n c b b' zc m hS hz hn cap hc hlt hxy hm=>
  subst hn hc
  obtain⟨e1,e2⟩:=Oo (show E0 σ false [x,y]=_ from hds)
  have hx:=E7 ha e1
  have hy:=E7 ha e2
  obtain⟨zv,z1,z2,z3,z4,z5,it,y1,y2,y3,y4⟩:=wW hz hS w (fun _=>False) m
  have hsz:=hS.hsz
  have hr:=run_make (P:=P) w t e it zv hS.ht y1 y2 k k' (m:Int) (cap:Int) (by omega) (by omega) (by
   rw [y4]
   have:((bytes * cap:Nat):Int)<=281474976710656:=by rw [Nat.mul_comm]; omega
   rwa [Int.natCast_mul] at this) (by omega)
  simp only [aK9,y3] at hr
  have hcells:(madeCells zv.cells (cap * sz)).toList=(List.replicate cap zv.cells.toList).flatten:=by
   unfold madeCells
   exact Pe zv.cells cap sz z2 hsz
  refine Z4 (lb:=.row e sz (List.replicate m zc).flatten) (ks:=[]) (d:=.row tk) (w':=w.alloc (.cells (madeCells zv.cells (cap * sz)) e)) ha hdst hf0 (v:=.slice (some ⟨w.heap.size,0,none⟩) m cap) (vn:=.slice (some ⟨w.heap.size,0,none⟩) m cap) ?_ (ha.kept.alloc _) (by simp) (fun b hb _=>Below.heap_alloc w _ b hb) (fun b hb=>.inl (aR0 (F2 hb).1)) (fun I' hI=>⟨?_,?_⟩) ⟨fun k' hk'=>hk'.elim,fun k' hk'=>.inr (by unfold men at hk'; exact hk')⟩ (fun k' hk'=>by simp at hk') (fun a' w' h=>hK _ a' w' rfl h)
  ·simp [execOp,ho,hx,hy,hr]
  ·refine⟨m,(List.replicate m zv.cells.toList).flatten,World.rowOk_of (base:=0) ⟨by simp [z2],.inr ⟨w.heap.size,cap,madeCells zv.cells (cap * sz),rfl,aI3 _,heap_alloc_new w _,by omega,by unfold maxLen; omega,size_madeCells _ _,?_⟩⟩,fun b hb=>.inl (by rw [<- (F2 hb).1]; exact ha.kept.2.2.2.1),z4.keep_ (fun b hb=>hb.elim) fun b hb=>hb.elim⟩
   rw [hcells]
   have:cap=m + (cap - m):=by omega
   rw [this,<- List.replicate_append_replicate,List.flatten_append,aNe (by simp [z2])]
   exact aH0 (by simp [z2])
  ·unfold Cw
   simp [K4,Value.oneCell']
 | @appZ t tn x y _ _ e sz bytes k kn n b b' zc m hS htn hz hn h0 hm=>
  subst hn
  obtain⟨e1,e2⟩:=Oo (show E0 σ true [x,y]=_ from hds)
  have hx:=E7 ha e1
  have hy:=E7 ha e2
  obtain⟨zv,z1,z2,z3,z4,z5,it,y1,y2,y3,y4⟩:=wW hz hS w (fun _=>False) m
  have hsz:=hS.hsz
  have hr:=Go.Lib.run_append_nil_zeros (P:=P) w t tn o.type e it zv k kn hS.ht htn y1 y2 m h0 (by rw [y3]; exact hsz) (by omega) (by rw [y4]; omega)
  have hge:=grownCap_ge w m 0 e
  have hcm:=grownCap_le_maxLen w m 0 e (by unfold maxLen; omega)
  have hzc:∀ q,(Builtin.zeroCells zv.cells q).toList=(List.replicate q zv.cells.toList).flatten:=fun q=>by
   unfold Builtin.zeroCells
   rw [z2]
   have:=Pe zv.cells q sz z2 hsz
   rw [z2] at this
   exact this
  generalize hcap:grownCap w m 0 e=cap at hr hge hcm
  have hsize:∀ q,(Builtin.zeroCells zv.cells q).size=q * sz:=fun q=>by unfold Builtin.zeroCells; simp [z2]
  refine Z4 (lb:=.row e sz (List.replicate m zc).flatten) (ks:=[]) (d:=.row tk) (w':=w.drew.alloc (.cells (Builtin.zeroCells zv.cells m ++ Builtin.zeroCells zv.cells (cap - m)) e)) ha hdst hf0 (v:=.slice (some ⟨w.heap.size,0,none⟩) m cap) (vn:=.slice (some ⟨w.heap.size,0,none⟩) m cap) ?_ ((show cx.Kept w.drew from ha.kept).alloc _) (by have:=dA w.drew (.cells (Builtin.zeroCells zv.cells m ++ Builtin.zeroCells zv.cells (cap - m)) e); have h9:w.drew.heap.size=w.heap.size:=rfl; omega) (fun b hb _=>Below.heap_alloc w.drew _ b hb) (fun b hb=>.inl (aR0 (F2 hb).1)) (fun I' hI=>⟨?_,?_⟩) ⟨fun k' hk'=>hk'.elim,fun k' hk'=>.inr (by unfold men at hk'; exact hk')⟩ (fun k' hk'=>by simp at hk') (fun a' w' h=>hK _ a' w' rfl h)
  ·simp [execOp,ho,resolve,invoke,builtin,hx,hy,hr]
  ·refine⟨m,(List.replicate m zv.cells.toList).flatten,World.rowOk_of (base:=0) ⟨by simp [z2],.inr ⟨w.heap.size,cap,_,rfl,aI3 _,heap_alloc_new w.drew _,hge,hcm,?_,?_⟩⟩,fun b hb=>.inl (by rw [<- (F2 hb).1]; exact ha.kept.2.2.2.1),z4.keep_ (fun b hb=>hb.elim) fun b hb=>hb.elim⟩
   ·rw [Array.size_append,hsize,hsize,<- aNn]
    congr 1
    omega
   ·rw [Array.toList_append,hzc,aNe (by simp [z2])]
    exact aH0 (by simp [z2])
  ·unfold Cw
   simp [K4,Value.oneCell']
 | buildV hS hz hlen hd hoc h0 hl=>exact yE hS hz hlen hd h0 hoc ha (show E0 σ false _=_ from hds) ho hf0 hdst (fun a' w' h=>hK _ a' w' rfl h)
 | @extV f xs tys _ dsA _ vs v hd hv h=>
  have hds':E0 σ true (.func f :: xs.toList)=some ((.val (.func (.func f) #[] #[]),none) :: dsA):=by
   have:(Op.call ⟨.value (.func f),xs,tys⟩).operands.toList=.func f :: xs.toList:=by simp [Op.operands,Call.operands]
   rw [<- this]; exact hds
  obtain⟨-,e2⟩:=Qh hds'
  have hr:=(N3 ha e2).1
  have e1:=Cb.dvals _ _ _ hr hd
  have hok:∀ u∈vs,E8 u=true:=fJ hr hd
  refine K1 ha hdst (v:=v) ?_ (Kl (hv hok)) (fun k' hk'=>Ux k' hk') (fun a' w' h=>hK _ a' w' rfl h)
  have h1:=h w
  have e0:(xs.toList.map a.eval).toArray=xs.map a.eval:=by rw [<- aTa,aSu]
  rw [<- e1,e0] at h1
  have e4:a.eval (.func f)=.func (.func f) #[] #[]:=rfl
  have e3:(#[] ++ Array.map a.eval xs ++ #[]:Array Value)=Array.map a.eval xs:=by simp
  simp only [execOp,ho,resolve,e4,Deferred.ofValue,Sem.run_bind,Sem.run_pure,Result.andThen_ok,invoke,e3]
  exact h1
 | @lenV t x _ _ k ds e bytes hS=>
  have e1:=K8 (show E0 σ true [x]=_ from hds)
  obtain⟨h1,-,h3⟩:=C1 ha e1
  unfold Cw at h1
  obtain⟨b,vs,q1,q2,q3,q4,q5,q6⟩:=ha.lo _ _ (h3 _ _ rfl rfl)
  have hlen:=q6.length
  refine K1 ha hdst (v:=.int .i64 (ds.length:Int)) ?_ (Kl (Ia.2 ?_)) (fun k' hk'=>Ux k' hk') (fun a' w' h=>hK _ a' w' rfl h)
  ·have:(Builtin.len_ #[t] o.type #[.slice (some ⟨b,0,none⟩) vs.length vs.length]).run P w=.ok (.int .i64 (ds.length:Int)) w:=by
    simp [Builtin.len_,run_underlying hS.ht,goInt,hlen]
   simp [execOp,ho,resolve,invoke,builtin,h1.1,q1,this]
  ·have e3:IntKind.i64.min=-9223372036854775808:=by decide
   have e4:IntKind.i64.max=9223372036854775807:=by decide
   unfold maxLen at q2
   omega
 | @idxV t x i _ _ k ds e bytes kk b n j hS hj hl=>
  subst hj
  obtain⟨e1,e2⟩:=Oo (show E0 σ true [x,i]=_ from hds)
  obtain⟨h1,h2,h3⟩:=C1 ha e1
  have hi:=E7 ha e2
  unfold Cw at h1
  obtain⟨b',vs,q1,q2,q3,q4,q5,q6⟩:=ha.lo _ _ (h3 _ _ rfl rfl)
  have hlen:=q6.length
  have h1':=h1.1
  rw [q1] at h1'
  refine K1 ha hdst (v:=.pointer (some ⟨b',j * 1,none⟩)) ?_ (by unfold Cw; exact⟨b',by rw [q1]; exact J7 q2.1,by rw [Nat.mul_one]⟩) (fun k' hk'=>h2 k' (by unfold men at *; exact hk')) (fun a' w' h=>hK _ a' w' rfl h)
  simp [execOp,ho,h1',hi,aN hS _ vs.length vs.length kk (j:=j) (by omega),Nw]
 | @loadV t x _ _ k i ds e sz d ht hd=>
  have e1:=K8 (show E0 σ true [x]=_ from hds)
  obtain⟨h1,-,h3⟩:=C1 ha e1
  have hL:=h3 _ _ rfl rfl
  unfold Cw at h1
  obtain⟨g,G,hv⟩:=h1
  obtain⟨b',vs,q1,q2,q3,q4,q5,q6⟩:=ha.lo _ _ hL
  have hgb:b'=g:=by rw [q1] at G; exact (F2 G).1
  subst hgb
  obtain⟨v,hv',hr⟩:=q6.at_ hd
  have hc:w.cell? ⟨b',i,none⟩=some v:=by simp [World.cell?,q3,hv']
  refine K1 ha hdst (v:=v) ?_ hr (fun k' hk'=>(ha.usedL _ _ hL).2 k' (by unfold Sw; exact Ue.2 ⟨d,aIh hd,hk'⟩)) (fun a' w' h=>hK _ a' w' rfl h)
  simp [execOp,ho,hv,Rv ht hc]
theorem Tt {k0 k:Nat} {lb:LB} {d:Option DV} (h:(Yl k0 lb d).l k≠none):k=k0:=by
 have h':(bif Nat.beq k k0 then some (some lb) else none)≠none:=h
 cases hb:Nat.beq k k0 with
 | true=>exact aDj hb
 | false=>rw [hb] at h'; exact absurd rfl h'
theorem T6 {tk k:Nat} {lb:LB} {d:DV} (h:(Pw tk lb d).l k≠none):k=tk:=by
 have h':(bif Nat.beq k tk then some (some lb) else none)≠none:=h
 cases hb:Nat.beq k tk with
 | true=>exact aDj hb
 | false=>rw [hb] at h'; exact absurd rfl h'
theorem ExtR.key {tk:Nat} {op:Op} {ty:TypeId} {ds:List (DV×Option LB)} {env:jU} {wr:List Nat} {E:Nq->Prop} {np:Nat} (h:ExtR P np tk op ty ds env wr E):∀ e,E e->∀ k,e.l k≠none->k∈wr\/(tk<=k/\k < tk + 8):=by
 cases h with
 | makeMap=>rintro e rfl k hk; have:=T6 hk; exact .inr (by omega)
 | lookR=>rintro e rfl k hk; exact absurd rfl hk
 | lookM=>rintro e rfl k hk; exact absurd rfl hk
 | put=>rintro e rfl k hk; exact .inl (aDi.2 (Tt hk))
 | range=>rintro e rfl k hk; have:=T6 hk; exact .inr (by omega)
 | next=>
  rintro e (⟨-,rfl⟩ | ⟨i,p,-,-,rfl⟩) k hk
  ·exact .inl (aDi.2 (Tt hk))
  ·exact .inl (aDi.2 (Tt hk))
 | entry=>rintro e rfl k hk; exact absurd rfl hk
 | clearP=>rintro e rfl k hk; exact .inl (aDi.2 (Tt hk))
 | copyR=>rintro e rfl k hk; exact .inl (aDi.2 (Tt hk))
 | makeC=>rintro e rfl k hk; have:=T6 hk; exact .inr (by omega)
 | appZ=>rintro e rfl k hk; have:=T6 hk; exact .inr (by omega)
 | buildV=>rintro e rfl k hk; have:=T6 hk; exact .inr (by omega)
 | lenV=>rintro e rfl k hk; exact absurd rfl hk
 | extV=>rintro e rfl k hk; exact absurd rfl hk
 | idxV=>rintro e rfl k hk; exact absurd rfl hk
 | loadV=>rintro e rfl k hk; exact absurd rfl hk
theorem ExtR.sub {tk:Nat} {op:Op} {ty:TypeId} {ds:List (DV×Option LB)} {env:jU} {wr:List Nat} {E:Nq->Prop} {np:Nat} (h:ExtR P np tk op ty ds env wr E):∀ k,k∈wr->k∈env.map (·.1):=by
 cases h with
 | put _ _ hm=>intro k hk; rw [aDi.1 hk]; exact aLl.2 ⟨_,hm,rfl⟩
 | next hj=>intro k hk; rw [aDi.1 hk]; exact aLl.2 ⟨_,hj,rfl⟩
 | clearP _ _ hm=>intro k hk; rw [aDi.1 hk]; exact aLl.2 ⟨_,hm,rfl⟩
 | copyR _ _ hm=>intro k hk; rw [aDi.1 hk]; exact aLl.2 ⟨_,hm,rfl⟩
 | _=>intro k hk; cases hk
theorem aU {place:Nat->Option (Nat×Nat)} {i:Nat} {d:DV}:∀ {l:List (Nat×DV)} {cells r:List DV},Ja place cells (l ++ [(i,d)])=some r->∀ x∈C2 d,x∈r
 | [],cells,r,h,x,hx=>by
  rw [aQp] at h
  unfold Ja at h
  cases hp:place i with
  | none=>rw [hp] at h; cases h
  | some q=>
   obtain⟨off,size⟩:=q
   rw [hp] at h
   simp only [] at h
   cases hb:(Nat.beq (C2 d).length size && Nat.ble (off + size) cells.length) with
   | false=>rw [hb] at h; cases h
   | true=>
    rw [hb] at h
    unfold Ja at h
    injection h with h
    rw [<- h]
    unfold Di
    exact aLm _ (aMk _ hx)
 | (i',d') :: l,cells,r,h,x,hx=>by
  rw [aRp] at h
  unfold Ja at h
  cases hp:place i' with
  | none=>rw [hp] at h; cases h
  | some q=>
   obtain⟨off,size⟩:=q
   rw [hp] at h
   simp only [] at h
   cases hb:(Nat.beq (C2 d').length size && Nat.ble (off + size) cells.length) with
   | false=>rw [hb] at h; cases h
   | true=>
    rw [hb] at h
    exact aU h x hx
theorem Ly.no_clo:∀ {ks:List (Option Nat)} {ds:List DV} {cs:List C},Ly ks ds cs->∀ d∈ds,∀ f n l,d≠.clo f n l
 | _,_,_,.nil,d,hd,_,_,_=>by cases hd
 | _,_,_,.cons h hs,d,hd,f,n,l=>by
  rcases aC6.1 hd with rfl | hd
  ·rintro rfl; cases h
  ·exact hs.no_clo d hd f n l
theorem ExtR.excl {tk:Nat} {op:Op} {ty:TypeId} {ds:List (DV×Option LB)} {env:jU} {wr wr':List Nat} {e:Nq} {E:Nq->Prop} {np:Nat} (h':F1 P tk op ty ds wr e) (h:ExtR P np tk op ty ds env wr' E):False:=by
 cases h with
 | makeMap=>cases h'
 | lookR=>cases h'
 | lookM=>cases h'
 | put=>cases h'
 | range=>cases h'
 | next=>cases h'
 | entry=>cases h'
 | clearP=>cases h'
 | copyR _ _ _ hs=>obtain⟨b',rfl⟩:=hs; cases h'
 | makeC hS hz hn hc hlt hxy=>
  cases h' with
  | makeSl hS' hz' hn' hm' hk' hc' hxy'=>exact hxy hxy'
 | appZ=>
  cases h' with
  | callV2 hb=>exact absurd rfl hb
  | append _ _ hs _=>cases hs
 | buildV hS hz hlen hd hoc h0 hl=>
  cases h' with
  | buildSl hS' hz' hlen' hd' hk hc ho'=>
   rw [hl] at hd'
   have:=aU hd' _ (aDi.2 rfl)
   exact hc.no_clo _ this _ _ _ rfl
 | lenV=>
  cases h' with
  | len _ h=>cases h
 | idxV=>cases h'
 | extV=>cases h'
 | loadV=>cases h'
end
end Go.Proofs.YtbpchmikjiinpaaGreat
