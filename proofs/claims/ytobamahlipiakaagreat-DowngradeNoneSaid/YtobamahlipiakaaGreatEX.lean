import Derived.Test.YtobamahlipiakaaGreatEC
import Derived.Maps.RangeWalk
import Derived.Laws.Externs
import Derived.Lib.Bytealg
import Derived.Lib.AppendZeros
import Derived.Test.YtobamahlipiakaaGreatPU
set_option linter.unusedVariables false
set_option linter.unusedSimpArgs false
namespace Go.Proofs.YtobamahlipiakaaGreat
open Go.RowKit
open Go.ChangeMaps (setBlock)
abbrev qI:=List (Nat×Option LB)
theorem Ku {σ:St} {l:List Nat} {j:Nat} {lb:LB} (h:(j,some lb)∈Jc σ l):σ.L j=some lb:=by
 obtain⟨k,-,hk⟩:=aOq.1 h
 injection hk with h1 h2
 subst h1
 exact h2
structure wE (P:Program) (kt:TypeId) {κ:Type} (f:κ->Value):Prop where
 chk:∀ (e:Bool) x w,(Instr.checkKey e 10000 kt (f x)).run P w=.ok () w
 find:∀ x (es:List MapEntry) (xs:List κ) w,es.map (·.key)=xs.map f->∃ r,(Instr.findKey kt (f x) es).run P w=.ok r w/\match r with
  | none=>x∉xs
  | some (i,v)=>∃ e,es[i]?=some e/\v=e.val/\e.key=f x/\xs[i]?=some x/\∀ j,j < i->xs[j]?≠some x
 same:∀ x,Instr.sameBits 10000 (f x) (f x)=true
section
variable {κ ν:Type} [DecidableEq κ]
def Wx (f:κ->Value) (g:ν->Value) (l:List (κ×ν)):List (Value×Value):=l.map fun p=>(f p.1,g p.2)
theorem mE {l:List (κ×ν)} {x:κ} (h:x∉l.map (·.1)) (z:ν):M3 l x z=z/\Vc l x=false/\l.findIdx? (fun p=>decide (p.1=x))=none:=by
 have hn:∀ p∈l,¬ decide (p.1=x)=true:=fun p hp hd=>h (aOq.2 ⟨p,hp,aEk hd⟩)
 refine⟨?_,?_,?_⟩
 ·unfold M3
  rw [List.find?_eq_none.2 hn]
 ·unfold Vc
  cases ha:l.any fun p=>decide (p.1=x) with
  | false=>rfl
  | true=>
   obtain⟨p,hp,hd⟩:=aL5.1 ha
   exact absurd hd (hn p hp)
 ·rw [aYm]
  intro p hp
  simpa using hn p hp
theorem mW {l:List (κ×ν)} {x:κ} {i:Nat} (h:(l.map (·.1))[i]?=some x) (hj:∀ j,j < i->(l.map (·.1))[j]?≠some x) (z:ν):∃ v,l[i]?=some (x,v)/\M3 l x z=v/\Vc l x=true/\l.findIdx? (fun p=>decide (p.1=x))=some i:=by
 have hi:i < l.length:=by
  have:=(aDx.1 h).1
  simpa using this
 have hx:l[i].1=x:=by
  rw [aPc,aCv hi] at h
  injection h
 have hf:l.findIdx? (fun p=>decide (p.1=x))=some i:=by
  rw [aL6]
  refine⟨hi,by rw [hx]; exact aA4 rfl,fun j hjl=>?_⟩
  have hj':=hj j hjl
  rw [aPc,aCv (by omega)] at hj'
  simp only [aJc]
  intro e
  exact hj' (by rw [<- e]; rfl)
 refine⟨l[i].2,by rw [aCv hi,<- hx],?_,?_,hf⟩
 ·unfold M3
  have:l.find? (fun p=>decide (p.1=x))=some l[i]:=by
   rw [List.find?_eq_some_iff_getElem]
   refine⟨by rw [hx]; exact aA4 rfl,i,hi,rfl,fun j hjl=>?_⟩
   have hj':=hj j hjl
   rw [aPc,aCv (by omega)] at hj'
   simp only [aR1,aXr]
   intro e
   exact hj' (by rw [<- e]; rfl)
  rw [this]
 ·exact aL5.2 ⟨l[i],List.getElem_mem hi,by rw [hx]; exact aA4 rfl⟩
omit [DecidableEq κ] in
theorem tJ {f:κ->Value} {g:ν->Value} {l:List (κ×ν)} {es:List MapEntry} (h:es.map (fun e=>(e.key,e.val))=Wx f g l):es.map (·.key)=(l.map (·.1)).map f:=by
 have:=congrArg (List.map Prod.fst) h
 unfold Wx at this
 rw [List.map_map,List.map_map] at this
 rw [List.map_map]
 exact this
omit [DecidableEq κ] in
end
section
variable {P:Program} {w:World}
theorem Vn (r:Nat) (o:Obj):(setBlock w r o).heap.size=w.heap.size:=by simp [setBlock]
theorem Um {r b:Nat} (o:Obj) (h:b≠r):(setBlock w r o).heap[b]?=w.heap[b]?:=by
 simp [setBlock,aTr,Ne.symm h]
theorem Rg {r:Nat} {o o':Obj} (h:w.heap[r]?=some o'):(setBlock w r o).heap[r]?=some o:=by
 have:=(aJi.1 h).1
 simp [setBlock,aTr,this]
theorem aG9 {κ ν:Type} [DecidableEq κ] {t kt vt:TypeId} {f:κ->Value} {g:ν->Value} {l:List (κ×ν)} {m:Nat} {x:κ} {v:ν} (ht:P.underlying t=some (.map kt vt)) (hK:wE P kt f) (hm:Yn w m (Wx f g l)) (hkx:Gd (f x)=true) (hgv:Gd (g v)=true) :
  ∃ es,(Instr.mapUpdate t (.map (some m)) (f x) (g v)).run P w=.ok () (setBlock w m (.map es es.size))/\Yn (setBlock w m (.map es es.size)) m (Wx f g (Oc l x v)):=by
 obtain⟨es,h1,h2,h3,h4⟩:=hm
 obtain⟨r,hr,hs⟩:=hK.find x es.toList (l.map (·.1)) w (tJ h2)
 have hlen:es.size=l.length:=by
  have:=congrArg List.length h2
  simpa [Wx] using this
 cases r with
 | none=>
  obtain⟨q1,q2,q3⟩:=mE (l:=l) hs v
  refine⟨es.push { key:=f x,val:=g v,born:=es.size },?_,?_⟩
  ·simp only [Instr.mapUpdate,Sem.run_bind,run_underlying ht,Result.andThen_ok,Go.MapKept.run_getObj_map h1,hK.chk,hr,Go.MapKept.run_setObj_map _ h1,Array.size_push]
   rfl
  ·refine⟨_,Rg h1,?_,fun i e hi=>?_,fun p hp=>?_⟩
   ·unfold Oc
    rw [q3]
    simp only [Array.toList_push,aXg,h2,aWq,List.map_nil]
    unfold Wx
    rw [aXg]
    rfl
   ·rw [Array.getElem?_push] at hi
    split at hi
    ·injection hi with hi
     subst hi
     rename_i h; exact h.symm
    ·exact h3 i e hi
   ·unfold Oc at hp
    rw [q3] at hp
    unfold Wx at hp
    rw [aXg] at hp
    rcases aHs.1 hp with hp | hp
    ·exact h4 p hp
    ·rw [aWq,List.map_nil,aF4] at hp
     subst hp
     exact⟨hkx,hgv⟩
 | some q=>
  obtain⟨i,v0⟩:=q
  obtain⟨e,e1,rfl,e2,e3,e4⟩:=hs
  obtain⟨v1,q0,-,-,q3⟩:=mW e3 e4 v
  have hi:i < es.size:=by
   have:=(aDx.1 e1).1
   simpa using this
  have e1':es[i]?=some e:=by rw [<- aW6]; exact e1
  refine⟨es.modify i fun e=>{ e with key:=f x,val:=g v },?_,?_⟩
  ·have hst:(Instr.keyThatStays (((es[i]?).map (·.key)).getD (f x)) (f x)).run P w=.ok (f x) w:=by
    rw [e1']
    simp only [bAq,Option.getD_some,e2,Instr.keyThatStays,hK.same,if_true]
    rfl
   simp only [Instr.mapUpdate,Sem.run_bind,run_underlying ht,Result.andThen_ok,Go.MapKept.run_getObj_map h1,hK.chk,hr,hst,Go.MapKept.run_setObj_map _ h1,Array.size_modify]
   rfl
  ·have hlist:(es.modify i fun e=>{ e with key:=f x,val:=g v }).toList.map (fun e=>(e.key,e.val))=Wx f g (Oc l x v):=by
    unfold Oc
    rw [q3]
    apply List.ext_getElem?
    intro j
    have hj:=congrArg (fun q:List (Value×Value)=>q[j]?) h2
    simp only [aPc] at hj
    unfold Wx at hj ⊢
    rw [aPc,aPc,aW6,bBf,List.getElem?_set]
    rw [aPc,aW6] at hj
    by_cases hij:i=j
    ·subst hij
     rw [if_pos rfl,if_pos rfl,if_pos (by omega),e1']
     rfl
    ·rw [if_neg hij,if_neg hij]
     exact hj
   refine⟨_,Rg h1,hlist,fun j e' hj=>?_,fun p hp=>?_⟩
   ·rw [bBf] at hj
    split at hj
    ·rename_i hij
     subst hij
     rw [e1'] at hj
     injection hj with hj
     subst hj
     exact h3 i e e1'
    ·exact h3 j e' hj
   ·unfold Oc at hp
    rw [q3] at hp
    unfold Wx at hp
    obtain⟨q,hq,rfl⟩:=aOq.1 hp
    rcases List.mem_or_eq_of_mem_set hq with hq | rfl
    ·exact h4 _ (aOq.2 ⟨q,hq,rfl⟩)
    ·exact⟨hkx,hgv⟩
end
def Y2 (k0:Nat) (lb:LB) (d:Option DV):Ow:=⟨d,fun k=>bif Nat.beq k k0 then some (some lb) else none⟩
section
variable {P:Program} {cx:Cx} {ρ:Nat->Value} {σ:St} {a:Act} {w w':World} {o:Oper} {K:Act->World->Prop} {Q:Exit->Act->World->Prop}
theorem vA (ha:Ew cx ρ σ a w) (hdst:∀ t,o.dst=some t->t < cx.N) {k0:Nat} {lb lb':LB} {d:Option DV} {v:Value} (hL:σ.L k0=some lb) (hrun:(execOp a.eval o).run P w=.ok .skip w'/\v=undef\/(execOp a.eval o).run P w=.ok (.value v) w')
  (hw:w'.os=w.os/\w'.tape=w.tape/\w'.output=w.output/\w'.heap.size=w.heap.size) (hb:∀ b,Cu (ρ k0)≠some b->w'.heap[b]?=w.heap[b]?)
  (hnew:∀ I':Nat->Prop,(∀ b,Nc cx σ ρ w b->I' b/\w'.heap[b]?=w.heap[b]?)->S5 cx ρ I' w' (ρ k0) lb'/\∀ x,d=some x->C3 ρ I' w' x v) (hu:(∀ k',Uy lb' k'->σ.U k'=true)/\∀ x k',d=some x->men x k'->σ.U k'=true)
  (hK:∀ a' w',Mx cx (σ.app o.dst (Y2 k0 lb' d)) a' w'->K a' w'):o.wp P a w K Q:=by
 have hl:∀ k lb1,(Y2 k0 lb' d).l k=some (some lb1)->k=k0/\lb1=lb':=fun k lb1 h=>by
  have h':(bif Nat.beq k k0 then some (some lb') else none)=some (some lb1):=h
  cases hb:Nat.beq k k0 with
  | true=>
   rw [hb] at h'
   injection h' with h'
   injection h' with h'
   exact⟨aF5 hb,h'.symm⟩
  | false=>rw [hb] at h'; cases h'
 have hl0:(Y2 k0 lb' d).l k0≠none:=by
  have:(Y2 k0 lb' d).l k0=bif Nat.beq k0 k0 then some (some lb') else none:=rfl
  rw [this]; simp
 obtain⟨c1,c2,c3,c4,c5⟩:=ha.kept
 obtain⟨w1,w2,w3,w4⟩:=hw
 have key:Mx cx (σ.app o.dst (Y2 k0 lb' d)) (a.put o.dst v) w':=by
  refine⟨ρ,ha.app (v:=v) ⟨w1.trans c1,w2.trans c2,w3.trans c3,by rw [w4]; exact c4,fun b hb' hM=>?_⟩ (by rw [w4]; exact aJf _) hdst (fun _ _=>rfl) (fun b _ h=>hb b fun e=>h k0 lb hl0 hL e) (fun k lb1 b h1 h2=>?_) (fun k k' lb1 lb2 b h1 h2 _ _=>by rw [(hl k lb1 h1).1,(hl k' lb2 h2).1]) (fun hI _=>?_) ⟨fun k lb1 k' h1 h2=>?_,fun d' k' h1 h2=>?_⟩ (fun k lb1 b h1 h2 h3=>by obtain⟨rfl,rfl⟩:=hl k lb1 h1; exact ha.fresh k lb b hL h2 h3)⟩
  ·refine (hb b fun e=>?_).trans (c5 b hb' hM)
   rcases ((ha.lo k0 lb hL).blk e).2 with h | h
   ·omega
   ·exact hM h
  ·obtain⟨rfl,rfl⟩:=hl k lb1 h1
   exact .inr ⟨k,lb,hl0,hL,h2⟩
  ·obtain⟨n1,n2⟩:=hnew _ hI
   refine⟨fun k lb1 h=>?_,fun d' hd'=>n2 d' hd'⟩
   obtain⟨rfl,rfl⟩:=hl k lb1 h
   exact n1
  ·obtain⟨rfl,rfl⟩:=hl k lb1 h1
   exact .inl (hu.1 k' h2)
  ·exact .inl (hu.2 d' k' h1 h2)
 unfold Oper.wp
 rcases hrun with ⟨hrun,rfl⟩ | hrun
 ·rw [hrun]
  exact hK _ _ key
 ·rw [hrun]
  exact hK _ _ key
end
inductive ExtR (P:Program) (np:Nat):Nat->Op->TypeId->List (DV×Option LB)->qI->List Nat->(Ow->Prop)->Prop
 | makeMap {tk t ty env}:ExtR P np tk (.makeMap t none) ty [] env [] (fun e=>e=Rj tk (.map []) (.row tk))
 | put {tk t x y y' ty env k b kd bk vd bv} {κ ν:Type} [DecidableEq κ] {kt vt:TypeId} {f:κ->Value} {g:ν->Value} {l:List (κ×ν)} {key:κ} {v:ν} (ht:P.underlying t=some (.map kt vt)) (hK:wE P kt f) (hm:(k,some (.map (Wx f g l)))∈env) (hk:Ox kd=some (f key)) (hv:Ox vd=some (g v)) :
  ExtR P np tk (.mapUpdate t x y y') ty [(.row k,b),(kd,bk),(vd,bv)] env [k] (fun e=>e=Y2 k (.map (Wx f g (Oc l key v))) none)
 | range {tk t x ty env k b l} {kt vt:TypeId} (ht:P.underlying t=some (.map kt vt)) (hm:(k,some (.map l))∈env):ExtR P np tk (.range t x) ty [(.row k,b)] env [] (fun e=>e=Rj tk (.mit k l.length []) (.ptr tk 0))
 | next {tk x ty env j k b n seen l} (hj:(j,some (.mit k n seen))∈env) (hm:(k,some (.map l))∈env) (hn:n=l.length) :
  ExtR P np tk (.next x false) ty [(.ptr j 0,b)] env [j] (fun e=>((∀ i,i < n->i∈seen)/\e=Y2 j (.mit k n seen) (some (.tup [.val (.bool false)])))\/∃ i p,l[i]?=some p/\i∉seen/\e=Y2 j (.mit k n (seen ++ [i])) (some (.tup [.val (.bool true),.val p.1,.val p.2])))
 | entry {tk x ty env j k b n seen i l p} (hj:(j,some (.mit k n (seen ++ [i])))∈env) (hm:(k,some (.map l))∈env) (hn:n=l.length) (hp:l[i]?=some p) :
  ExtR P np tk (.entry x) ty [(.ptr j 0,b)] env [] (fun e=>e=v0 (.tup [.val p.1,.val p.2]))
 | extV {tk f xs tys ty dsA env vs v} (hd:Td (dsA.map (·.1))=some vs) (hv:(∀ u∈vs,Gd u=true)->Gd v=true) (h:∀ w,(callFunc f vs.toArray).run P w=.ok (.value v) w) :
  ExtR P np tk (.call ⟨.value (.func f),xs,tys⟩) ty ((.val (.func (.func f) #[] #[]),none) :: dsA) env [] (fun e=>e=v0 (.val v))
section
variable {P:Program} {cx:Cx} {ρ:Nat->Value} {σ:St} {a:Act} {w w':World} {o:Oper} {K:Act->World->Prop} {Q:Exit->Act->World->Prop}
theorem pU {I:Nat->Prop} {x y:Value} (hx:Gd x=true) (hy:Gd y=true):C3 ρ I w (.tup [.val x,.val y]) (.tuple #[x,y]):=by
 unfold C3
 refine⟨[x,y],rfl,?_⟩
 unfold B5
 refine⟨x,[y],rfl,Ld hx,?_⟩
 unfold B5
 refine⟨y,[],rfl,Ld hy,?_⟩
 unfold B5
 rfl
theorem aCu {I:Nat->Prop} {x y z:Value} (hx:Gd x=true) (hy:Gd y=true) (hz:Gd z=true):C3 ρ I w (.tup [.val x,.val y,.val z]) (.tuple #[x,y,z]):=by
 unfold C3
 refine⟨[x,y,z],rfl,?_⟩
 unfold B5
 refine⟨x,[y,z],rfl,Ld hx,?_⟩
 unfold B5
 refine⟨y,[z],rfl,Ld hy,?_⟩
 unfold B5
 refine⟨z,[],rfl,Ld hz,?_⟩
 unfold B5
 rfl
theorem aDw {I:Nat->Prop} {x:Value} (hx:Gd x=true):C3 ρ I w (.tup [.val x]) (.tuple #[x]):=by
 unfold C3
 refine⟨[x],rfl,?_⟩
 unfold B5
 refine⟨x,[],rfl,Ld hx,?_⟩
 unfold B5
 rfl
theorem Rb:∀ (l:List Value) (k:Nat),men (.tup (l.map DV.val)) k->False:=fun l k h=>Qm l k (by unfold men at h; exact h)
theorem mT {I:Nat->Prop}:∀ {ds:List DV} {vs us:List Value},B5 ρ I w ds us->Td ds=some vs->∀ u∈vs,Gd u=true
 | [],vs,us,h,hd=>by
  unfold Td at hd
  injection hd with hd
  subst hd
  simp
 | d :: ds,vs,us,h,hd=>by
  unfold B5 at h
  obtain⟨u,us',rfl,h1,h2⟩:=h
  unfold Td at hd
  cases hv:Ox d with
  | none=>rw [hv] at hd; cases hd
  | some v=>
   cases hv':Td ds with
   | none=>rw [hv,hv'] at hd; cases hd
   | some vs'=>
    rw [hv,hv'] at hd
    injection hd with hd
    subst hd
    intro x hx
    rcases aF2.1 hx with rfl | hx
    ·exact C3.dval_ok h1 hv
    ·exact mT h2 hv' x hx
theorem aA6 {f:FuncId} {fn:Func} (hf:P.funcs[f]?=some fn) (hname:(fn.name == "runtime.NumGoroutine")=false) (hb:fn.body.isNone=true) (hn:Extern.findNext fn=none) (he:Extern.find fn=some Extern.BytealgIndexByte.indexByte) (s:ByteArray) (c:UInt8) (w:World) :
  (callFunc f [.string s,.int .u8 (c.toNat:Int)].toArray).run P w=.ok (.value (.int .i64 (pS s c))) w:=by
 rw [run_callFunc_extern hf hname hb hn he]
 have:=run_indexByte_string (P:=P) s (c.toNat:Int) w
 rw [show ([.string s,.int .u8 (c.toNat:Int)].toArray:Array Value)=#[.string s,.int .u8 (c.toNat:Int)] from rfl,this]
 have e1:((c.toNat:Int).toNat.toUInt8)=c:=by simp
 rw [e1]
 rfl
theorem aGx {s:ByteArray} {c:UInt8} (h:∀ u∈[Value.string s,.int .u8 (c.toNat:Int)],Gd u=true):Gd (.int .i64 (pS s c))=true:=by
 have hs:=Qw.1 (h (.string s) (by simp))
 have e3:IntKind.i64.min=-9223372036854775808:=by decide
 have e4:IntKind.i64.max=9223372036854775807:=by decide
 have key:-1<=pS s c/\pS s c<=s.size:=by
  unfold pS
  cases hf:(List.range s.size).find? fun i=>s[i]! == c with
  | none=>exact⟨aXi _,by show (-1:Int)<=_; omega⟩
  | some i=>
   have:=List.mem_of_find?_eq_some hf
   rw [aSn] at this
   exact⟨by show -1<=(i:Int); omega,by show (i:Int)<=_; omega⟩
 unfold maxLen at hs
 exact I7.2 ⟨by omega,by omega⟩
theorem ExtR.sound {tk:Nat} {op:Op} {ty:TypeId} {ds:List (DV×Option LB)} {env:qI} {wr:List Nat} {E:Ow->Prop} (h:ExtR P cx.np tk op ty ds env wr E) (ha:Ew cx ρ σ a w) (hds:Fz σ (K7 op) op.operands.toList=some ds) {l0:List Nat} (henv:env=Jc σ l0) (hf:∀ j,j < 8->σ.U (tk + j)=false) (ho:o.op=op) (hdst:∀ t,o.dst=some t->t < cx.N)
  (hK:∀ e a' w',E e->Mx cx (σ.app o.dst e) a' w'->K a' w'):o.wp P a w K Q:=by
 subst henv
 have hf0:σ.U tk=false:=hf 0 (by omega)
 cases h with
 | @makeMap t _ _=>
  refine dJ (lb:=.map []) (ks:=[]) (d:=.row tk) (w':=w.alloc (.map #[] 0)) ha hdst hf0 (v:=.map (some w.heap.size)) (vn:=.map (some w.heap.size)) ?_ (ha.kept.alloc _) (by simp) (fun b hb _=>Below.heap_alloc w _ b hb) (fun b hb=>.inl (by injection hb with hb; omega)) (fun I' hI=>⟨?_,?_⟩) ⟨fun k' hk'=>hk'.elim,fun k' hk'=>.inr (by unfold men at hk'; exact hk')⟩ (fun k' hk'=>by simp at hk') (fun a' w' h=>hK _ a' w' rfl h)
  ·simp [execOp,ho,Instr.makeMap]
  ·exact⟨w.heap.size,rfl,⟨#[],heap_alloc_new w _,rfl,fun i e h=>by simp at h,fun p hp=>by cases hp⟩,.inl ha.kept.2.2.2.1⟩
  ·unfold C3
   simp [L4,Value.oneCell']
 | @put t x y y' _ _ k b kd bk vd bv κ ν _ kt vt f g l key v ht hK' hm hk hv=>
  have hL:=Ku hm
  obtain⟨e1,e2,e3⟩:=aIv (show Fz σ false [x,y,y']=_ from hds)
  have h1:=(Dm ha e1).1
  have h2:=C3.dval _ _ _ (Dm ha e2).1 hk
  have h2':=C3.dval_ok (Dm ha e2).1 hk
  have h3:=C3.dval _ _ _ (Dm ha e3).1 hv
  have h3':=C3.dval_ok (Dm ha e3).1 hv
  unfold C3 at h1
  obtain⟨m,q1,q2,q3⟩:=ha.lo _ _ hL
  obtain⟨es,hrun,hnew⟩:=aG9 (P:=P) ht hK' q2 h2' h3'
  refine vA (lb':=.map (Wx f g (Oc l key v))) (d:=none) (v:=undef) (w':=setBlock w m (.map es es.size)) ha hdst hL (.inl ⟨?_,rfl⟩) ⟨rfl,rfl,rfl,Vn _ _⟩ (fun b hb=>Um _ fun e=>hb (by rw [q1,e]; rfl)) (fun I' hI=>⟨⟨m,q1,hnew,q3⟩,fun x hx=>by cases hx⟩) ⟨fun k' hk'=>hk'.elim,fun x k' hx=>by cases hx⟩ (fun a' w' h=>hK _ a' w' rfl h)
  simp only [execOp,ho,h1.1,q1,h2,h3,Sem.run_bind,hrun,Result.andThen_ok,Sem.run_pure]
 | @range t x _ _ k b l kt vt ht hm=>
  have hL:=Ku hm
  have e1:=Mb (show Fz σ false [x]=_ from hds)
  obtain⟨h1,h2,-⟩:=Dm ha e1
  unfold C3 at h1
  obtain⟨m,q1,⟨es,q2,q3,q4,q5⟩,-⟩:=ha.lo _ _ hL
  have hn:es.size=l.length:=by rw [<- q3]; simp
  have hrun:=run_range_map (P:=P) w t kt vt m es es.size ht q2
  have hku:σ.U k=true:=(ha.usedL _ _ hL).1
  have hne:k≠tk:=fun e=>by rw [e,hf0] at hku; cases hku
  refine dJ (lb:=.mit k l.length []) (ks:=[]) (d:=.ptr tk 0) (w':=w.alloc (.mapIter (some m) es.size #[] es.size)) ha hdst hf0 (v:=.pointer (some ⟨w.heap.size,0,none⟩)) (vn:=.pointer (some ⟨w.heap.size,0,none⟩)) ?_ (ha.kept.alloc _) (by simp) (fun b hb _=>Below.heap_alloc w _ b hb) (fun b hb=>.inl (by injection hb with hb; exact aZo hb)) (fun I' hI=>⟨?_,?_⟩) ⟨fun k' hk'=>by have hk':k'=k:=hk'; rw [hk']; exact hku,fun k' hk'=>.inr (by unfold men at hk'; exact hk')⟩ (fun k' hk'=>by simp at hk') (fun a' w' h=>hK _ a' w' rfl h)
  ·simp only [execOp,ho,h1.1,q1,Sem.run_bind,hrun,Result.andThen_ok,Sem.run_pure]
  ·refine⟨w.heap.size,m,rfl,by rw [<- q1]; unfold L4; rw [if_neg hne],?_,.inl ha.kept.2.2.2.1⟩
   rw [heap_alloc_new,hn]
  ·unfold C3
   exact⟨w.heap.size,by simp [L4,Cu],rfl⟩
 | @next x _ _ j k b n seen l hj hm hn=>
  have hLj:=Ku hj
  have hLk:=Ku hm
  have e1:=Mb (show Fz σ false [x]=_ from hds)
  obtain⟨h1,h2,-⟩:=Dm ha e1
  unfold C3 at h1
  obtain⟨g,G,hv⟩:=h1
  obtain⟨b',m,r1,r2,r3,r4⟩:=ha.lo _ _ hLj
  have hgb:b'=g:=by rw [r1] at G; injection G
  subst hgb
  obtain⟨m',q1,⟨es,q2,q3,q4,q5⟩,-⟩:=ha.lo _ _ hLk
  have hmm:m=m':=by rw [r2] at q1; injection q1 with q1; injection q1
  subst hmm
  have hes:es.size=n:=by rw [hn,<- q3]; simp
  have hku:σ.U k=true:=(ha.usedL _ _ hLk).1
  have hlt:∀ x∈es.toList,x.born < n:=fun x hx=>by
   obtain⟨i,hi,rfl⟩:=aUb hx
   have hi':i < es.size:=by simpa using hi
   have:=q4 i es[i] (by simp [hi'])
   simp only [Array.getElem_toList]
   rw [this]; omega
  have left:∀ e,e∈(leftOf es seen.toArray).toList↔e∈es.toList/\e.born∉seen:=fun e=>by
   unfold leftOf
   simp
  rcases run_next_at (P:=P) w o.type b' m n n seen.toArray es es.size r3 q2 hlt (aJf _) with ⟨s1,s2⟩ | ⟨e,s1,w1,s2,s3⟩
  ·refine vA (d:=some (.tup [.val (.bool false)])) (lb':=.mit k n seen) (v:=.tuple #[.bool false]) (w':=w) ha hdst hLj (.inr ?_) ⟨rfl,rfl,rfl,rfl⟩ (fun b hb=>rfl) (fun I' hI=>⟨⟨b',m,r1,r2,r3,r4⟩,fun x hx=>by injection hx with hx; subst hx; exact aDw rfl⟩) ⟨fun k' hk'=>by have hk':k'=k:=hk'; rw [hk']; exact hku,fun x k' hx hm=>by injection hx with hx; subst hx; exact (Rb [_] k' hm).elim⟩ (fun a' w' h=>hK _ a' w' (.inl ⟨fun i hi=>?_,rfl⟩) h)
   ·simp only [execOp,ho,hv,Sem.run_bind,s2,Result.andThen_ok,Sem.run_pure]
   ·refine Decidable.byContradiction fun hns=>?_
    have hi':i < es.size:=by omega
    have:es[i]∈(leftOf es seen.toArray).toList:=(left _).2 ⟨by simp,by rw [q4 i es[i] (by simp [hi'])]; exact hns⟩
    have h0:(leftOf es seen.toArray)=#[]:=Array.eq_empty_of_size_eq_zero s1
    rw [h0] at this
    simp at this
  ·obtain⟨t1,t2⟩:=(left e).1 s1
   obtain⟨i,hi,hie⟩:=aUb t1
   have hi':i < es.size:=by simpa using hi
   have hei:es[i]?=some e:=by
    rw [<- aW6,aCv hi,hie]
   have hb:=q4 i e hei
   have hl:l[i]?=some (e.key,e.val):=by
    rw [<- q3,aPc,aW6,hei]
    rfl
   have hok:=q5 _ (aJz hl)
   have hw1:w1.os=w.os/\w1.tape=w.tape/\w1.output=w.output/\w1.heap=w.heap:=by
    rcases s2 with rfl | rfl <;> exact⟨rfl,rfl,rfl,rfl⟩
   obtain⟨v1,v2,v3,v4⟩:=hw1
   refine vA (d:=some (.tup [.val (.bool true),.val e.key,.val e.val])) (lb':=.mit k n (seen ++ [i])) (v:=.tuple #[.bool true,e.key,e.val]) (w':=setBlock w1 b' (.mapIter (some m) n (seen.toArray.push e.born) es.size)) ha hdst hLj (.inr ?_) ⟨v1,v2,v3,by rw [Vn,v4]⟩ (fun b hb=>(Um _ fun e=>hb (by rw [r1,e]; rfl)).trans (by rw [v4])) (fun I' hI=>⟨⟨b',m,r1,r2,?_,r4⟩,fun x hx=>by injection hx with hx; subst hx; exact aCu rfl hok.1 hok.2⟩) ⟨fun k' hk'=>by have hk':k'=k:=hk'; rw [hk']; exact hku,fun x k' hx hm=>by injection hx with hx; subst hx; exact (Rb [_,_,_] k' hm).elim⟩ (fun a' w' h=>hK _ a' w' (.inr ⟨i,_,hl,by rw [<- hb]; exact t2,rfl⟩) h)
   ·simp only [execOp,ho,hv,Sem.run_bind,s3,Result.andThen_ok,Sem.run_pure]
   ·rw [Rg (w:=w1) (by rw [v4]; exact r3),hb,hes]
    simp
 | @entry x _ _ j k b n seen i l p hj hm hn hp=>
  have hLj:=Ku hj
  have hLk:=Ku hm
  have e1:=Mb (show Fz σ false [x]=_ from hds)
  obtain⟨h1,h2,-⟩:=Dm ha e1
  unfold C3 at h1
  obtain⟨g,G,hv⟩:=h1
  obtain⟨b',m,r1,r2,r3,r4⟩:=ha.lo _ _ hLj
  have hgb:b'=g:=by rw [r1] at G; injection G
  subst hgb
  obtain⟨m',q1,⟨es,q2,q3,q4,q5⟩,-⟩:=ha.lo _ _ hLk
  have hmm:m=m':=by rw [r2] at q1; injection q1 with q1; injection q1
  subst hmm
  have hes:es.size=n:=by rw [hn,<- q3]; simp
  have hok:=q5 _ (aJz hp)
  have hpe:=hp
  rw [<- q3,aPc,aW6] at hpe
  obtain⟨e,hei,rfl⟩:=Option.map_eq_some_iff.1 hpe
  have hb:=q4 i e hei
  obtain⟨hi,hie⟩:=aJi.1 hei
  have hfind:es.find? (fun x=>x.born == i)=some e:=by
   rw [Array.find?_eq_some_iff_getElem]
   refine⟨by rw [hb]; simp,i,hi,hie,fun q hq=>?_⟩
   have:=q4 q es[q] (by simp)
   rw [this]
   have:q≠i:=by omega
   simp [this]
  have hrun:(Instr.entry (.pointer (some ⟨b',0,none⟩))).run P w=.ok (.tuple #[e.key,e.val]) w:=by
   have hback:(seen ++ [i]).toArray.back?=some i:=by simp
   simp only [Instr.entry,getObj,Sem.run_bind,Sem.run,r3,q2,Result.andThen,hback,hes,hfind,bne_self_eq_false,bA2,if_false]
   rfl
  refine L2 ha hdst (d:=.tup [.val e.key,.val e.val]) (v:=.tuple #[e.key,e.val]) ?_ (pU hok.1 hok.2) (fun k' hk'=>(Rb [_,_] k' hk').elim) (fun a' w' h=>hK _ a' w' rfl h)
  simp only [execOp,ho,hv,Sem.run_bind,hrun,Result.andThen_ok,Sem.run_pure]
 | @extV f xs tys _ dsA _ vs v hd hv h=>
  have hds':Fz σ true (.func f :: xs.toList)=some ((.val (.func (.func f) #[] #[]),none) :: dsA):=by
   have:(Op.call ⟨.value (.func f),xs,tys⟩).operands.toList=.func f :: xs.toList:=by simp [Op.operands,Call.operands]
   rw [<- this]; exact hds
  obtain⟨-,e2⟩:=Pq hds'
  have hr:=(Oo ha e2).1
  have e1:=B5.dvals _ _ _ hr hd
  have hok:∀ u∈vs,Gd u=true:=mT hr hd
  refine L2 ha hdst (v:=v) ?_ (Ld (hv hok)) (fun k' hk'=>Wn k' hk') (fun a' w' h=>hK _ a' w' rfl h)
  have h1:=h w
  have e0:(xs.toList.map a.eval).toArray=xs.map a.eval:=by rw [<- bAz,bAc]
  rw [<- e1,e0] at h1
  have e4:a.eval (.func f)=.func (.func f) #[] #[]:=rfl
  have e3:(#[] ++ Array.map a.eval xs ++ #[]:Array Value)=Array.map a.eval xs:=by simp
  simp only [execOp,ho,resolve,e4,Deferred.ofValue,Sem.run_bind,Sem.run_pure,Result.andThen_ok,invoke,e3]
  exact h1
theorem Vx {k0 k:Nat} {lb:LB} {d:Option DV} (h:(Y2 k0 lb d).l k≠none):k=k0:=by
 have h':(bif Nat.beq k k0 then some (some lb) else none)≠none:=h
 cases hb:Nat.beq k k0 with
 | true=>exact aF5 hb
 | false=>rw [hb] at h'; exact absurd rfl h'
theorem Vz {tk k:Nat} {lb:LB} {d:DV} (h:(Rj tk lb d).l k≠none):k=tk:=by
 have h':(bif Nat.beq k tk then some (some lb) else none)≠none:=h
 cases hb:Nat.beq k tk with
 | true=>exact aF5 hb
 | false=>rw [hb] at h'; exact absurd rfl h'
theorem ExtR.key {tk:Nat} {op:Op} {ty:TypeId} {ds:List (DV×Option LB)} {env:qI} {wr:List Nat} {E:Ow->Prop} {np:Nat} (h:ExtR P np tk op ty ds env wr E):∀ e,E e->∀ k,e.l k≠none->k∈wr\/(tk<=k/\k < tk + 8):=by
 cases h with
 | makeMap=>rintro e rfl k hk; have:=Vz hk; exact .inr (by omega)
 | put=>rintro e rfl k hk; exact .inl (aF4.2 (Vx hk))
 | range=>rintro e rfl k hk; have:=Vz hk; exact .inr (by omega)
 | next=>
  rintro e (⟨-,rfl⟩ | ⟨i,p,-,-,rfl⟩) k hk
  ·exact .inl (aF4.2 (Vx hk))
  ·exact .inl (aF4.2 (Vx hk))
 | entry=>rintro e rfl k hk; exact absurd rfl hk
 | extV=>rintro e rfl k hk; exact absurd rfl hk
theorem ExtR.sub {tk:Nat} {op:Op} {ty:TypeId} {ds:List (DV×Option LB)} {env:qI} {wr:List Nat} {E:Ow->Prop} {np:Nat} (h:ExtR P np tk op ty ds env wr E):∀ k,k∈wr->k∈env.map (·.1):=by
 cases h with
 | put _ _ hm=>intro k hk; rw [aF4.1 hk]; exact aOq.2 ⟨_,hm,rfl⟩
 | next hj=>intro k hk; rw [aF4.1 hk]; exact aOq.2 ⟨_,hj,rfl⟩
 | _=>intro k hk; cases hk
theorem ExtR.excl {tk:Nat} {op:Op} {ty:TypeId} {ds:List (DV×Option LB)} {env:qI} {wr wr':List Nat} {e:Ow} {E:Ow->Prop} {np:Nat} (h':Gw P tk op ty ds wr e) (h:ExtR P np tk op ty ds env wr' E):False:=by
 cases h with
 | makeMap=>cases h'
 | put=>cases h'
 | range=>cases h'
 | next=>cases h'
 | entry=>cases h'
 | extV=>cases h'
end
end Go.Proofs.YtobamahlipiakaaGreat
