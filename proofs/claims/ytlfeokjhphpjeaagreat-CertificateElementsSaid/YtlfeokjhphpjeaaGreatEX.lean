import Derived.Test.YtlfeokjhphpjeaaGreatEC
import Derived.Maps.RangeWalk
import Derived.Laws.Externs
import Derived.Lib.Bytealg
import Derived.Lib.AppendZeros
import Derived.Lib.AppendStr
import Derived.Test.YtlfeokjhphpjeaaGreatPU
set_option linter.unusedVariables false
set_option linter.unusedSimpArgs false
namespace Go.Proofs.YtlfeokjhphpjeaaGreat
open Go.RowKit
open Go.ChangeMaps (setBlock)
abbrev X8:=List (Nat×Option LB)
theorem Ku {σ:St} {l:List Nat} {j:Nat} {lb:LB} (h:(j,some lb)∈K3 σ l):σ.L j=some lb:=by
 obtain⟨k,-,hk⟩:=aBy.1 h
 injection hk with h1 h2
 subst h1
 exact h2
section
variable {κ ν:Type} [DecidableEq κ]
omit [DecidableEq κ] in
omit [DecidableEq κ] in
end
section
variable {P:Program} {w:World}
theorem Wi (r:Nat) (o:Obj):(setBlock w r o).heap.size=w.heap.size:=by simp [setBlock]
theorem Uf {r b:Nat} (o:Obj) (h:b≠r):(setBlock w r o).heap[b]?=w.heap[b]?:=by
 simp [setBlock,aB8,Ne.symm h]
theorem Vf {r:Nat} {o o':Obj} (h:w.heap[r]?=some o'):(setBlock w r o).heap[r]?=some o:=by
 have:=(Array.getElem?_eq_some_iff.1 h).1
 simp [setBlock,aB8,this]
end
def Xt (k0:Nat) (lb:LB) (d:Option DV):Ke:=⟨d,fun k=>bif Nat.beq k k0 then some (some lb) else none⟩
section
variable {P:Program} {cx:Cx} {ρ:Nat->Value} {σ:St} {a:Act} {w w':World} {o:Oper} {K:Act->World->Prop} {Q:Exit->Act->World->Prop}
theorem wB (ha:Dn cx ρ σ a w) (hdst:∀ t,o.dst=some t->t < cx.N) {k0:Nat} {lb lb':LB} {d:Option DV} {v:Value} (hL:σ.L k0=some lb) (hrun:(execOp a.eval o).run P w=.ok .skip w'/\v=undef\/(execOp a.eval o).run P w=.ok (.value v) w')
  (hw:w'.os=w.os/\w'.tape=w.tape/\w'.output=w.output/\w'.heap.size=w.heap.size) (hb:∀ b,¬ own ρ (ρ k0) lb b->w'.heap[b]?=w.heap[b]?)
  (hnew:∀ I':Nat->Prop,(∀ b,Jo cx σ ρ w b->I' b/\w'.heap[b]?=w.heap[b]?)->Qy cx ρ I' w' (ρ k0) lb'/\∀ x,d=some x->B5 ρ I' w' x v) (hu:(∀ k',M5 lb' k'->σ.U k'=true)/\∀ x k',d=some x->men x k'->σ.U k'=true)
  (hK:∀ a' w',Iq cx (σ.app o.dst (Xt k0 lb' d)) a' w'->K a' w') (hlb:∀ b,own ρ (ρ k0) lb' b->own ρ (ρ k0) lb b:=by exact fun _ h=>h):o.wp P a w K Q:=by
 have hl:∀ k lb1,(Xt k0 lb' d).l k=some (some lb1)->k=k0/\lb1=lb':=fun k lb1 h=>by
  have h':(bif Nat.beq k k0 then some (some lb') else none)=some (some lb1):=h
  cases hb:Nat.beq k k0 with
  | true=>
   rw [hb] at h'
   injection h' with h'
   injection h' with h'
   exact⟨Nat.eq_of_beq_eq_true hb,h'.symm⟩
  | false=>rw [hb] at h'; cases h'
 have hl0:(Xt k0 lb' d).l k0≠none:=by
  have:(Xt k0 lb' d).l k0=bif Nat.beq k0 k0 then some (some lb') else none:=rfl
  rw [this]; simp
 obtain⟨c1,c2,c3,c4,c5⟩:=ha.kept
 obtain⟨w1,w2,w3,w4⟩:=hw
 have key:Iq cx (σ.app o.dst (Xt k0 lb' d)) (a.put o.dst v) w':=by
  refine⟨ρ,ha.app (v:=v) ⟨w1.trans c1,w2.trans c2,w3.trans c3,by rw [w4]; exact c4,fun b hb' hM=>?_⟩ (by rw [w4]; exact aBk _) hdst (fun _ _=>rfl) (fun b _ h=>hb b fun e=>h k0 lb hl0 hL e) (fun k lb1 b h1 h2=>?_) (fun k k' lb1 lb2 b h1 h2 _ _=>by rw [(hl k lb1 h1).1,(hl k' lb2 h2).1]) (fun hI _=>?_) ⟨fun k lb1 k' h1 h2=>?_,fun d' k' h1 h2=>?_⟩ (fun k lb1 b h1 h2 h3=>by obtain⟨rfl,rfl⟩:=hl k lb1 h1; exact ha.fresh k lb b hL h2 (hlb b h3))⟩
  ·refine (hb b fun e=>?_).trans (c5 b hb' hM)
   rcases ((ha.lo k0 lb hL).blk e).2 with h | h
   ·omega
   ·exact hM h
  ·obtain⟨rfl,rfl⟩:=hl k lb1 h1
   exact .inr ⟨k,lb,hl0,hL,hlb b h2⟩
  ·obtain⟨n1,n2⟩:=hnew _ hI
   refine⟨fun k lb1 h=>?_,fun d' hd'=>n2 d' hd'⟩
   obtain⟨rfl,rfl⟩:=hl k lb1 h
   exact n1
  ·obtain⟨rfl,rfl⟩:=hl k lb1 h1
   exact .inl (hu.1 k' h2)
  ·exact .inl (hu.2 d' k' h1 h2)
 unfold Oper.wp
 rcases hrun with ⟨hrun,rfl⟩ | hrun
 ·rw [hrun]
  exact hK _ _ key
 ·rw [hrun]
  exact hK _ _ key
end
def Pp (el:List (Nat×Option LB)) (d:Option DV):Ke:=⟨d,E7 el⟩
def aA2 (sz o p m:Nat):Prop:=∀ q,p<=q->q < p + m->q % sz≠o
inductive ExtR (P:Program) (np:Nat):Nat->Op->TypeId->List (DV×Option LB)->X8->List Nat->(Ke->Prop)->Prop
 | next {tk x ty env j k b n seen l} (hj:(j,some (.mit k n seen))∈env) (hm:(k,some (.map l))∈env) (hn:n=l.length) :
  ExtR P np tk (.next x false) ty [(.ptr j 0,b)] env [j] (fun e=>((∀ i,i < n->i∈seen)/\e=Xt j (.mit k n seen) (some (.tup [.val (.bool false)])))\/∃ i p,l[i]?=some p/\i∉seen/\e=Xt j (.mit k n (seen ++ [i])) (some (.tup [.val (.bool true),.val p.1,.val p.2])))
 | entry {tk x ty env j k b n seen i l p} (hj:(j,some (.mit k n (seen ++ [i])))∈env) (hm:(k,some (.map l))∈env) (hn:n=l.length) (hp:l[i]?=some p) :
  ExtR P np tk (.entry x) ty [(.ptr j 0,b)] env [] (fun e=>e=v0 (.tup [.val p.1,.val p.2]))
 | lenV {tk t x ty env k ds e bytes} (hS:Iw P t e 1 bytes):ExtR P np tk (.call ⟨.builtin .len,#[x],#[t]⟩) ty [(.row k,some (.vec ds e))] env [] (fun e'=>e'=v0 (.val (.int .i64 (ds.length:Int))))
 | storeT {tk t x y ty env k p e sz o e2 sz2 s hh cs z ag d b cs'} (ht:Ty P t ag z) (hs:(Cb d).length=z) (hi:p + z<=cs.length) (hf:aA2 sz o p z) {ck:List (Option Nat)} (hd:I9 ck (Cb d) cs') (hk:k∈env.map (·.1)):ExtR P np tk (.store t x y) ty [(.ptr k p,some (.tree e sz o e2 sz2 s hh cs)),(d,b)] env [k] (fun e'=>e'=Xt k (.tree e sz o e2 sz2 s hh (Df cs p cs')) none)
 | storeN {tk t x y ty env k s i p e sz o e2 sz2 cs z ag d b cs' c2} (ht:Ty P t ag z) (hc:cs[i * sz + o]?=some (.sl sz2 c2)) (hs:(Cb d).length=z) (hi:p + z<=c2.length) {ck:List (Option Nat)} (hd:I9 ck (Cb d) cs') (hk:k∈env.map (·.1)):ExtR P np tk (.store t x y) ty [(.npt k s i p,some (.tree e sz o e2 sz2 s none cs)),(d,b)] env [k] (fun e'=>e'=Xt k (.tree e sz o e2 sz2 s none (cs.set (i * sz + o) (.sl sz2 (Df c2 p cs')))) none)
 | appN {tk x y t ty env k s i e sz o e2 sz2 cs c2 bytes d' cs'} (hS:Iw P t e2 sz2 bytes) (hc:cs[i * sz + o]?=some (.sl sz2 c2)) (hs:Us d' sz2 cs') (hl:(c2.length + cs'.length) * bytes<=140737488355328) (hk:k∈env.map (·.1)) (hnp:Nat.ble np k=true) :
  ExtR P np tk (.call ⟨.builtin .append,#[x,y],#[t,t]⟩) ty [(.nst k s i,some (.tree e sz o e2 sz2 s none cs)),d'] env [k] (fun e'=>e'=Pp [(tk,some (.row e2 sz2 (c2 ++ cs'))),(k,some (.tree e sz o e2 sz2 s (some i) cs))] (some (.row tk)))
 | appNP {tk x y t ty env k s i m e sz o e2 sz2 cs c2 bytes d' cs'} (hS:Iw P t e2 sz2 bytes) (hc:cs[i * sz + o]?=some (.sl sz2 c2)) (hm:m * sz2<=c2.length) (hs:Us d' sz2 cs') (hl:((c2.take (m * sz2)).length + cs'.length) * bytes<=140737488355328) (hk:k∈env.map (·.1)) (hnp:Nat.ble np k=true) :
  ExtR P np tk (.call ⟨.builtin .append,#[x,y],#[t,t]⟩) ty [(.npr k s i 0 m,some (.tree e sz o e2 sz2 s none cs)),d'] env [k] (fun e'=>e'=Pp [(tk,some (.row e2 sz2 (c2.take (m * sz2) ++ cs'))),(k,some (.tree e sz o e2 sz2 s (some i) cs))] (some (.row tk)))
 | stoH {tk t x y ty env k p s i e sz o e2 sz2 cs c2 j} (ht:Ty P t false 1) (hp:p=i * sz + o) (hl:p < cs.length) (hk:k∈env.map (·.1)) (hj:j∈env.map (·.1)) (hnp:Nat.ble np k=true) (hnj:Nat.ble np j=true) :
  ExtR P np tk (.store t x y) ty [(.ptr k p,some (.tree e sz o e2 sz2 s (some i) cs)),(.row j,some (.row e2 sz2 c2))] env [k,j] (fun e'=>e'=Pp [(k,some (.tree e sz o e2 sz2 tk none (cs.set p (.sl sz2 c2)))),(tk,some .gho),(j,none)] none)
 | buildT {tk t ty env x d b e sz o e2 sz2 bytes z r pre post ck1 ck2 c1 c2 c3 j} (hS:Iw P t e sz bytes) (hz:Zt P e z) (hlen:1 * sz<=16777216) (hd:Hi (fun i=>some (i * sz,sz)) ((List.replicate 1 (z.map DV.val)).flatten) [(0,d)]=some r) (hoc:(Cb d).all Te=true)
  (hr:r=pre ++ .row j :: post) (ho:pre.length=o) (h1:I9 ck1 pre c1) (h3:I9 ck2 post c3) (hj:(j,some (.row e2 sz2 c2))∈env) (hnp:Nat.ble np j=true) :
  ExtR P np tk (.buildSlice t 1 #[(0,x)]) ty [(d,b)] env [j] (fun e'=>e'=Pp [(tk,some (.tree e sz o e2 sz2 (tk + 1) none (c1 ++ .sl sz2 c2 :: c3))),(tk + 1,some .gho),(j,none)] (some (.row tk)))
 | appT {tk x y t ty env k s k' s' e sz o e2 sz2 cs cs' bytes} (hS:Iw P t e sz bytes) (hk:k∈env.map (·.1)) (hk':k'∈env.map (·.1)) (hne:Nat.beq k k'=false) (hl:(cs.length + cs'.length) * bytes<=140737488355328) (hnp:Nat.ble np k=true) (hnp':Nat.ble np k'=true) :
  ExtR P np tk (.call ⟨.builtin .append,#[x,y],#[t,t]⟩) ty [(.row k,some (.tree e sz o e2 sz2 s none cs)),(.row k',some (.tree e sz o e2 sz2 s' none cs'))] env [k,k'] (fun e'=>e'=Pp [(tk,some (.tree e sz o e2 sz2 (tk + 1) none (cs ++ cs'))),(tk + 1,some .gho),(k,none),(k',none)] (some (.row tk)))
 | idxA {tk t x i ty env cs kk b1 b2 n m e} {j:Nat} (ht:P.underlying t=some (.array m e)) (he:Ty P e false 1) (hj:n=(j:Int)) (hm:j < m):ExtR P np tk (.indexAddr t x i) ty [(.elt cs,b1),(.val (.int kk n),b2)] env [] (fun e'=>e'=v0 (.elt (cs.drop j)))
 | lenQ {tk t x ty env k e e' sz bytes cs n} (hS:Iw P t e sz bytes) (hn:cs.length=n * sz):ExtR P np tk (.call ⟨.builtin .len,#[x],#[t]⟩) ty [(.row k,some (.que e' sz cs))] env [] (fun e'=>e'=v0 (.val (.int .i64 (n:Int))))
 
 | sem {tk op ty ds env wr E} (hs:∀ {cx:Cx} {ρ:Nat->Value} {σ:St} {a:Act} {w:World} {o:Oper} {K:Act->World->Prop} {Q:Exit->Act->World->Prop} {l0:List Nat},np=cx.np->Dn cx ρ σ a w->(∃ ds',We (Jv op) ds ds'/\Ei σ (H6 op) op.operands.toList=some ds')->env=K3 σ l0->(∀ j,j < 8->σ.U (tk + j)=false)->o.op=op->(∀ t,o.dst=some t->t < cx.N)->(∀ e a' w',E e->Iq cx (σ.app o.dst e) a' w'->K a' w')->o.wp P a w K Q)
  (hkey:∀ e,E e->∀ k,e.l k≠none->k∈wr\/(tk<=k/\k < tk + 8)) (hsub:∀ k,k∈wr->k∈env.map (·.1)) (hex:∀ ds' wr' e,We (Jv op) ds ds'->¬ E6 P tk op ty ds' wr' e):ExtR P np tk op ty ds env wr E
section
variable {P:Program} {cx:Cx} {ρ:Nat->Value} {σ:St} {a:Act} {w w':World} {o:Oper} {K:Act->World->Prop} {Q:Exit->Act->World->Prop}
theorem Qu {α:Type} (l xs:List α) (i:Nat) (h:i + xs.length<=l.length):(Df l i xs).length=l.length:=by
 unfold Df
 simp only [List.length_append,List.length_take,List.length_drop]
 omega
theorem X9 {t:TypeId} {ag:Bool} {z:Nat} (ht:Ty P t ag z) {e sz n g p:Nat} {v v':Value} {us us':List Value} (ho:w.rowOk e sz v n us) (D:Cf v=some g) (hv:v'.cells.toList=us') (hl:us'.length=z) (hi:p + z<=us.length) (h1:∀ u∈us',u.oneCell'=true) :
  ∃ X,(Instr.storeAt t (.pointer (some ⟨g,p,none⟩)) v').run P w=.ok () (w.setRow g X)/\(w.setRow g X).rowOk e sz v n (Df us p us'):=by
 rcases ho.2 with ⟨A0,q1,-⟩ | ⟨g',cap,cur,q1,q2,q3,q4,q5,q6,q7⟩
 ·rw [q1] at D; cases A0 <;> cases D
 ·have hgg:g'=g:=by rw [q1] at D; exact (Fi D).1
  subst hgg
  have hul:us.length=n * sz:=ho.1
  have hn:n * sz<=cap * sz:=aCd _ q4
  have hrun:=Tm (P:=P) (w:=w) ht (i:=p) q3 hv hl (by omega) h1
  refine⟨_,hrun,by rw [Qu us us' p (by omega)]; exact hul,.inr ⟨g',cap,(Df cur.toList p us').toArray,q1,q2,setRow_heap w g' _ _ e (0,0) q3,q4,q5,?_,?_⟩⟩
  ·simp only [aDj]
   rw [Qu cur.toList us' p (by simp; omega)]
   simpa using q6
  ·have hcur:cur.toList.length=cap * sz:=by simpa using q6
   unfold Df
   have e3:us.take p=cur.toList.take p:=by rw [<- q7,aDo]; congr 1; omega
   have e4:us.drop (p + us'.length)=(cur.toList.drop (p + us'.length)).take (n * sz - (p + us'.length)):=by rw [<- q7,List.drop_take]
   rw [e3,e4]
   rw [List.take_append,aBl (by simp only [List.length_append,List.length_take]; omega)]
   congr 1
   congr 1
   simp only [List.length_append,List.length_take]
   omega
theorem aAt {α:Type} {l xs:List α} {i j:Nat} (h:i + xs.length<=l.length) (hj:j < i\/i + xs.length<=j):(Df l i xs)[j]?=l[j]?:=by
 unfold Df
 rcases hj with hj | hj
 ·rw [aB3,List.getElem?_append_left (by simp; omega),List.getElem?_take,if_pos hj]
 ·rw [List.getElem?_append_right (by simp; omega),List.getElem?_drop]
  congr 1
  simp
  omega
theorem S5.flatW {I:Nat->Prop} {v:Value} {e sz o e2 sz2 s hh cs n us vs} (q:S5 cx ρ I w v e sz o e2 sz2 s hh cs n us vs) {g p:Nat} {cs':List C} {us':List Value} (D:Cf v=some g) {X:Array Value} (ho:(w.setRow g X).rowOk e sz v n (Df us p us')) (hr:Ev w I cs' us') (hi:p + cs'.length<=cs.length) (hf:aA2 sz o p cs'.length)
  {I':Nat->Prop} (hI:∀ b,I b->I' b/\(w.setRow g X).heap[b]?=w.heap[b]?):S5 cx ρ I' (w.setRow g X) v e sz o e2 sz2 s hh (Df cs p cs') n (Df us p us') vs:=by
 have hl:=hr.1
 have hl2:=q.hl
 refine⟨q.ho,q.hs,ho,q.hn,by rw [Qu _ _ _ hi,Qu _ _ _ (by omega)]; exact q.hl,q.hM,fun j c u hj hu hjo=>?_,fun i u a b=>?_,q.dist⟩
 ·by_cases hin:p<=j/\j < p + cs'.length
  ·have e1:(Df cs p cs')[j]?=cs'[j - p]?:=by
    unfold Df
    rw [aB3,List.getElem?_append_right (by simp; omega),List.getElem?_append_left (by simp; omega)]
    congr 1
    simp; omega
   have e2:(Df us p us')[j]?=us'[j - p]?:=by
    unfold Df
    rw [aB3,List.getElem?_append_right (by simp; omega),List.getElem?_append_left (by simp; omega)]
    congr 1
    simp; omega
   rw [e1] at hj
   rw [e2] at hu
   exact Dw.keep_ (fun b hb=>(hI b hb).2) (fun b hb=>(hI b hb).1) _ _ (hr.2 _ c u hj hu)
  ·rw [aAt hi (by omega)] at hj
   rw [aAt (by omega) (by omega)] at hu
   exact Dw.keep_ (fun b hb=>(hI b hb).2) (fun b hb=>(hI b hb).1) _ _ (q.flat j c u hj hu hjo)
 ·obtain⟨q0,n2,us2,c2,q1,q2,q3,q4⟩:=q.nest i u a b
  have hmod:(i * sz + o) % sz=o:=by rw [aC6,Nat.mul_add_mod]; exact aBv q.ho
  have hout:i * sz + o < p\/p + cs'.length<=i * sz + o:=by
   rcases aCf (i * sz + o) p with h | h
   ·exact .inl h
   ·rcases aCf (i * sz + o) (p + cs'.length) with h2 | h2
    ·exact absurd hmod (hf _ h h2)
    ·exact .inr h2
  refine⟨by rw [aAt (by omega) (by omega)]; exact q0,n2,us2,c2,by rw [aAt hi hout]; exact q1,Gs q2 fun b hb=>Gc w g b X fun e=>(q4 b hb).2 (by rw [e]; exact D),q3.keep_ (fun b hb=>(hI b hb).2) fun b hb=>(hI b hb).1,q4⟩
theorem S5.nestW {I:Nat->Prop} {v:Value} {e sz o e2 sz2 s cs n us vs} (q:S5 cx ρ I w v e sz o e2 sz2 s none cs n us vs) {g i n2:Nat} {u:Value} {us2:List Value} {c2:List C} (hu:vs[i]?=some u) (D:Cf u=some g) {X:Array Value} (ho:(w.setRow g X).rowOk e2 sz2 u n2 us2)
  {I':Nat->Prop} (hI:∀ b,I b->I' b/\(w.setRow g X).heap[b]?=w.heap[b]?) (hr:Ev (w.setRow g X) I' c2 us2):S5 cx ρ I' (w.setRow g X) v e sz o e2 sz2 s none (cs.set (i * sz + o) (.sl sz2 c2)) n us vs:=by
 have hmod:∀ i,(i * sz + o) % sz=o:=fun i=>by rw [aC6,Nat.mul_add_mod]; exact aBv q.ho
 obtain⟨p0,_,_,c0,p1,p2,p3,p4⟩:=q.nest i u hu (by simp)
 refine⟨q.ho,q.hs,Gs q.row fun b hb=>Gc w g b X fun e=>(p4 g D).2 (by rw [<- e]; exact hb),q.hn,by rw [List.length_set]; exact q.hl,q.hM,fun j c u' hj hu' hjo=>?_,fun j u' a b=>?_,q.dist⟩
 ·rw [aCz (fun e=>hjo (by rw [<- e]; exact hmod i))] at hj
  exact Dw.keep_ (fun b hb=>(hI b hb).2) (fun b hb=>(hI b hb).1) _ _ (q.flat j c u' hj hu' hjo)
 ·by_cases hij:j=i
  ·subst hij
   rw [hu] at a
   injection a with a
   subst a
   exact⟨p0,n2,us2,c2,aC3 (List.getElem?_eq_some_iff.1 p1).1,ho,hr,p4⟩
  ·obtain⟨q0,n3,us3,c3,q1,q2,q3,q4⟩:=q.nest j u' a b
   have hsz:0 < sz:=aCj (aBt _) q.ho
   refine⟨q0,n3,us3,c3,by rw [aCz (fun e=>hij (Nat.eq_of_mul_eq_mul_right hsz (aDw e)).symm)]; exact q1,Gs q2 fun b hb=>Gc w g b X fun e=>?_,q3.keep_ (fun b hb=>(hI b hb).2) fun b hb=>(hI b hb).1,q4⟩
   exact hij (q.dist j i u' u g a hu (by simp) (by simp) (by rw [<- e]; exact hb) D)
theorem pE {I:Nat->Prop} {x y:Value} (hx:Ff x=true) (hy:Ff y=true):B5 ρ I w (.tup [.val x,.val y]) (.tuple #[x,y]):=by
 unfold B5
 refine⟨[x,y],rfl,?_⟩
 unfold Bj
 refine⟨x,[y],rfl,Lg hx,?_⟩
 unfold Bj
 refine⟨y,[],rfl,Lg hy,?_⟩
 unfold Bj
 rfl
theorem lM {I:Nat->Prop} {x y z:Value} (hx:Ff x=true) (hy:Ff y=true) (hz:Ff z=true):B5 ρ I w (.tup [.val x,.val y,.val z]) (.tuple #[x,y,z]):=by
 unfold B5
 refine⟨[x,y,z],rfl,?_⟩
 unfold Bj
 refine⟨x,[y,z],rfl,Lg hx,?_⟩
 unfold Bj
 refine⟨y,[z],rfl,Lg hy,?_⟩
 unfold Bj
 refine⟨z,[],rfl,Lg hz,?_⟩
 unfold Bj
 rfl
theorem nP {I:Nat->Prop} {x:Value} (hx:Ff x=true):B5 ρ I w (.tup [.val x]) (.tuple #[x]):=by
 unfold B5
 refine⟨[x],rfl,?_⟩
 unfold Bj
 refine⟨x,[],rfl,Lg hx,?_⟩
 unfold Bj
 rfl
theorem V5:∀ (l:List Value) (k:Nat),men (.tup (l.map DV.val)) k->False:=fun l k h=>Lk l k (by unfold men at h; exact h)
theorem Fb {el:List (Nat×Option LB)} {k:Nat} (h:(k∈el.map (·.1))):E7 el k≠none:=by
 induction el with
 | nil=>simp at h
 | cons q l ih=>
  obtain⟨k',x⟩:=q
  unfold E7
  cases hb:Nat.beq k k' with
  | true=>simp
  | false=>
   simp only [cond_false]
   rw [aB2,List.mem_cons] at h
   rcases h with h | h
   ·have h:k=k':=h
    rw [h,aC7] at hb
    cases hb
   ·exact ih h
theorem jU {v:Value} {e sz o e2 sz2 s:Nat} {h:Option Nat} {cs cs':List C} {h':Option Nat} (hh:∀ i,h≠some i->h'≠some i) {b:Nat} (hb:own ρ v (.tree e sz o e2 sz2 s h cs) b):own ρ v (.tree e sz o e2 sz2 s h' cs') b:=by
 rcases hb with hb | ⟨vs,i,u,h1,h2,h3,h4⟩
 ·exact .inl hb
 ·exact .inr ⟨vs,i,u,h1,h2,hh i h3,h4⟩
theorem kW {x y:Operand} {t e e2:TypeId} {k s i sz o' sz2 bytes tk:Nat} {cs c0 c2 cs':List C} {d0:DV} {d':DV×Option LB} (hS:Iw P t e2 sz2 bytes) (hc:cs[i * sz + o']?=some (.sl sz2 c0)) (hs:Us d' sz2 cs') (hl:(c2.length + cs'.length) * bytes<=140737488355328) (hnp:cx.np<=k) (hL:σ.L k=some (.tree e sz o' e2 sz2 s none cs))
  (hpart:∃ vs u,ρ s=.tuple vs/\vs[i]?=some u/\(∀ n us,w.rowOk e2 sz2 u n us->Ev w (Jo cx σ ρ w) c0 us->∃ n2 us2,w.rowOk e2 sz2 (a.eval x) n2 us2/\Ev w (Jo cx σ ρ w) c2 us2)/\∀ b,Cf (a.eval x)=some b->Cf u=some b)
  (ha:Dn cx ρ σ a w) (hds:Ei σ true [x,y]=some [(d0,some (.tree e sz o' e2 sz2 s none cs)),d']) (ho:o.op=.call ⟨.builtin .append,#[x,y],#[t,t]⟩) (hf:σ.U tk=false) (hdst:∀ t,o.dst=some t->t < cx.N)
  (hK:∀ a' w',Iq cx (σ.app o.dst (Pp [(tk,some (.row e2 sz2 (c2 ++ cs'))),(k,some (.tree e sz o' e2 sz2 s (some i) cs))] (some (.row tk)))) a' w'->K a' w'):o.wp P a w K Q:=by
 obtain⟨e1,e2'⟩:=Lu hds
 obtain⟨vs',u0,r1,r2,hpt,hpu⟩:=hpart
 obtain⟨n,us,vs,q⟩:=ha.lo _ _ hL
 have e0:=q.hs.symm.trans r1
 injection e0 with e0
 subst e0
 obtain⟨p0,n0,us0,c1,p1,p2',p3',p4⟩:=q.nest i _ r2 (by simp)
 rw [hc] at p1
 injection p1 with p1
 injection p1 with _ p1
 subst p1
 obtain⟨n2,us2,p2,p3⟩:=hpt _ _ p2' p3'
 obtain⟨A,m,c,us',hv',hl',hr',hA⟩:=hs.vals ha e2'
 obtain⟨v',w',hrun,g2,g3,g4,hsl⟩:=Td (P:=P) (ty:=o.type) hS p2 (A:=A) (m:=m) (c:=c) hl' (oQ hr') hA (by rw [<- p3.1,<- hr'.1]; exact hl)
 have hkU:σ.U k=true:=(ha.usedL _ _ hL).1
 have hsU:σ.U s=true:=(ha.usedL _ _ hL).2 s rfl
 have hne:k≠tk:=fun h=>by rw [h,hf] at hkU; cases hkU
 have hrtk:G8 ρ tk v' tk=v':=by simp [G8]
 have hro:∀ j,σ.U j=true->G8 ρ tk v' j=ρ j:=fun j hj=>by
  unfold G8
  split
  ·rename_i h; subst h; rw [hf] at hj; cases hj
  ·rfl
 have hold:∀ b,Cf (a.eval x)=some b->own ρ (ρ k) (.tree e sz o' e2 sz2 s none cs) b:=fun b hb=>.inr ⟨vs,i,_,q.hs,r2,by simp,hpu b hb⟩
 have hoc:∀ b,own (G8 ρ tk v') (G8 ρ tk v' k) (.tree e sz o' e2 sz2 s (some i) cs) b->own ρ (ρ k) (.tree e sz o' e2 sz2 s (some i) cs) b:=fun b hb=>by
  rw [hro k hkU] at hb
  exact Pr (fun j hj=>(hro j ((ha.usedL _ _ hL).2 j hj)).symm) hb
 have hoc':∀ b,own ρ (ρ k) (.tree e sz o' e2 sz2 s (some i) cs) b->own ρ (ρ k) (.tree e sz o' e2 sz2 s none cs) b:=fun b=>jU (fun _ _=>by simp)
 have hlk:∀ k' x,E7 [(tk,some (LB.row e2 sz2 (c2 ++ cs'))),(k,some (LB.tree e sz o' e2 sz2 s (some i) cs))] k'=some x->(k'=tk/\x=some (.row e2 sz2 (c2 ++ cs')))\/(k'=k/\x=some (.tree e sz o' e2 sz2 s (some i) cs)):=fun k' x h=>by
  have:=Fk h
  simpa using this
 have hno:∀ b,Cf v'=some b->own ρ (ρ k) (.tree e sz o' e2 sz2 s (some i) cs) b->False:=fun b hb hb2=>by
  rcases g4 b hb with h | h
  ·rcases hb2 with h5 | ⟨vs2,j,u2,a1,a2,a3,a4⟩
   ·exact (p4 b (hpu b h)).2 h5
   ·have e0:=q.hs.symm.trans a1
    injection e0 with e0
    subst e0
    exact a3 (by rw [q.dist i j _ u2 b r2 a2 (by simp) (by simp) (hpu b h) a4])
  ·have:=((ha.lo _ _ hL).blk (hoc' b hb2)).1
   omega
 have hbase:∀ g,Cf (a.eval x)=some g->cx.w0.heap.size<=g\/cx.M g:=fun g D=>(p4 g (hpu g D)).1
 unfold Oper.wp
 rw [show (execOp a.eval o).run P w=.ok (.value v') w' by simp [execOp,ho,resolve,invoke,builtin,hv',hrun]]
 refine hK _ _ ⟨G8 ρ tk v',ha.app (v:=v') (ha.kept.grown g3 hbase) g3.size hdst hro (fun b hb h=>g3.block b hb fun e=>h k _ (Fb (by simp)) hL (hold b e.symm)) (fun k' lb b h1 h2=>?_) (fun k1 k2 lb lb' b h1 h2 h3 h4=>?_) (fun hI hI2=>⟨fun k' lb h=>?_,fun d hd=>?_⟩) ⟨fun k' lb k2 h1 h2=>?_,fun d k' h1 h2=>?_⟩ (fun k' lb b h1 h2 h3=>?_)⟩
 ·rcases hlk k' _ h1 with ⟨rfl,h5⟩ | ⟨rfl,h5⟩
  ·injection h5 with h5
   subst h5
   rw [hrtk] at h2
   rcases g4 b h2 with h | h
   ·exact .inr ⟨k,_,Fb (by simp),hL,hold b h⟩
   ·exact .inl h
  ·injection h5 with h5
   subst h5
   exact .inr ⟨k',_,Fb (by simp),hL,hoc' b (hoc b h2)⟩
 ·rcases hlk k1 _ h1 with ⟨rfl,h5⟩ | ⟨rfl,h5⟩ <;> rcases hlk k2 _ h2 with ⟨rfl,h6⟩ | ⟨rfl,h6⟩
  ·rfl
  ·injection h5 with h5
   injection h6 with h6
   subst h5 h6
   rw [hrtk] at h3
   exact (hno b h3 (hoc b h4)).elim
  ·injection h5 with h5
   injection h6 with h6
   subst h5 h6
   rw [hrtk] at h4
   exact (hno b h4 (hoc b h3)).elim
  ·rfl
 ·rcases hlk k' _ h with ⟨rfl,h5⟩ | ⟨rfl,h5⟩
  ·injection h5 with h5
   subst h5
   rw [hrtk]
   refine⟨n2 + m,us2 ++ us',g2,fun b hb=>?_,(p3.append hr').keep_ (fun b hb=>(hI b hb).2) fun b hb=>(hI b hb).1⟩
   rcases g4 b hb with h4 | h4
   ·exact hbase b h4
   ·exact .inl (aBo ha.kept.2.2.2.1 h4)
  ·injection h5 with h5
   subst h5
   rw [hro k' hkU]
   refine⟨n,us,vs,q.ho,(hro s hsU).trans q.hs,Gs q.row fun b hb=>g3.block b (If q.row hb) fun e=>(p4 b (hpu b e.symm)).2 hb,q.hn,q.hl,q.hM,fun j c u b1 b2 b3=>Dw.keep_ (fun b hb=>(hI b hb).2) (fun b hb=>(hI b hb).1) _ _ (q.flat j c u b1 b2 b3),fun j u2 b1 b2=>?_,fun j1 j2 u1 u2 b b1 b2 _ _ b3 b4=>q.dist j1 j2 u1 u2 b b1 b2 (by simp) (by simp) b3 b4⟩
   obtain⟨q0,n3,us3,c3,q1,q2,q3,q4⟩:=q.nest j u2 b1 (by simp)
   exact⟨q0,n3,us3,c3,q1,Gs q2 fun b hb=>g3.block b (If q2 hb) fun e=>b2 (by rw [q.dist i j _ u2 b r2 b1 (by simp) (by simp) (hpu b e.symm) hb]),q3.keep_ (fun b hb=>(hI b hb).2) fun b hb=>(hI b hb).1,q4⟩
 ·injection hd with hd
  subst hd
  unfold B5
  obtain⟨A2,n2',c2',rfl⟩:=hsl
  simp [G8,Value.oneCell']
 ·rcases hlk k' _ h1 with ⟨rfl,h5⟩ | ⟨rfl,h5⟩
  ·injection h5 with h5
   subst h5
   exact h2.elim
  ·injection h5 with h5
   subst h5
   exact .inl ((ha.usedL _ _ hL).2 k2 h2)
 ·injection h1 with h1
  subst h1
  unfold men at h2
  subst h2
  exact .inr (Fb (by simp))
 ·rcases hlk k' _ h1 with ⟨rfl,h5⟩ | ⟨rfl,h5⟩
  ·injection h5 with h5
   subst h5
   rw [hrtk] at h3
   rcases g4 b h3 with h4 | h4
   ·exact ha.fresh k _ b hL hnp (hold b h4)
   ·exact .inl (aBo ha.kept.2.2.2.1 h4)
  ·injection h5 with h5
   subst h5
   exact ha.fresh k' _ b hL hnp (hoc' b (hoc b h3))
theorem vO {x y:Operand} {t e e2:TypeId} {k s i sz o' sz2 bytes tk:Nat} {cs c2 cs':List C} {d':DV×Option LB} (hS:Iw P t e2 sz2 bytes) (hc:cs[i * sz + o']?=some (.sl sz2 c2)) (hs:Us d' sz2 cs') (hl:(c2.length + cs'.length) * bytes<=140737488355328) (hnp:cx.np<=k)
  (ha:Dn cx ρ σ a w) (hds:Ei σ true [x,y]=some [(.nst k s i,some (.tree e sz o' e2 sz2 s none cs)),d']) (ho:o.op=.call ⟨.builtin .append,#[x,y],#[t,t]⟩) (hf:σ.U tk=false) (hdst:∀ t,o.dst=some t->t < cx.N)
  (hK:∀ a' w',Iq cx (σ.app o.dst (Pp [(tk,some (.row e2 sz2 (c2 ++ cs'))),(k,some (.tree e sz o' e2 sz2 s (some i) cs))] (some (.row tk)))) a' w'->K a' w'):o.wp P a w K Q:=by
 obtain⟨h1,-,h3⟩:=Ce ha (Lu hds).1
 unfold B5 at h1
 obtain⟨vs',r1,r2⟩:=h1
 exact kW hS hc hs hl hnp (h3 _ _ rfl rfl) ⟨vs',_,r1,r2,fun n us h1 h2=>⟨n,us,h1,h2⟩,fun b hb=>hb⟩ ha hds ho hf hdst hK
theorem rE {x y:Operand} {t e e2:TypeId} {k s i m sz o' sz2 bytes tk:Nat} {cs c2 cs':List C} {d':DV×Option LB} (hS:Iw P t e2 sz2 bytes) (hc:cs[i * sz + o']?=some (.sl sz2 c2)) (hm:m * sz2<=c2.length) (hs:Us d' sz2 cs') (hl:((c2.take (m * sz2)).length + cs'.length) * bytes<=140737488355328) (hnp:cx.np<=k)
  (ha:Dn cx ρ σ a w) (hds:Ei σ true [x,y]=some [(.npr k s i 0 m,some (.tree e sz o' e2 sz2 s none cs)),d']) (ho:o.op=.call ⟨.builtin .append,#[x,y],#[t,t]⟩) (hf:σ.U tk=false) (hdst:∀ t,o.dst=some t->t < cx.N)
  (hK:∀ a' w',Iq cx (σ.app o.dst (Pp [(tk,some (.row e2 sz2 (c2.take (m * sz2) ++ cs'))),(k,some (.tree e sz o' e2 sz2 s (some i) cs))] (some (.row tk)))) a' w'->K a' w'):o.wp P a w K Q:=by
 obtain⟨h1,-,h3⟩:=Ce ha (Lu hds).1
 unfold B5 at h1
 obtain⟨vs',u,A,c,r1,r2,hv,hmc,hcm,hA,hB⟩:=h1
 refine kW hS hc hs hl hnp (h3 _ _ rfl rfl) ⟨vs',u,r1,r2,fun N us q1 q2=>?_,fun b hb=>?_⟩ ha hds ho hf hdst hK
 ·have hlen:m * sz2<=us.length:=by rw [<- q2.1]; exact hm
  refine⟨m,us.take (m * sz2),⟨by rw [List.length_take]; omega,?_⟩,⟨by rw [List.length_take,List.length_take,q2.1],fun j c u a b=>?_⟩⟩
  ·rcases q1.2 with ⟨A',e,q3⟩ | ⟨g,cap,cur,e,r1,r2,r3,r4,r5,r6⟩
   ·obtain⟨t1,t2⟩:=hB rfl _ _ _ e
    exact .inl ⟨A',by rw [hv,t1,t2]; congr 1; omega,by omega⟩
   ·obtain⟨t1,t2⟩:=hB rfl _ _ _ e
    refine .inr ⟨g,cap,cur,by rw [hv,t1,t2],r1,r2,by omega,r4,r5,?_⟩
    have hle:m * sz2<=N * sz2:=by rw [<- q1.1]; exact hlen
    rw [<- r6,aDo,aC4 hle]
  ·rw [List.getElem?_take] at a b
   split at a
   ·rename_i hj
    rw [if_pos hj] at b
    exact q2.2 j c u a b
   ·cases a
 ·obtain⟨n2,us2,q1,-⟩:=U9 ha (h3 _ _ rfl rfl) r1 r2 hc (by simp)
  rcases q1.2 with ⟨A',e,q3⟩ | ⟨g',cap,cur,e,r1,-⟩
  ·obtain⟨t1,t2⟩:=hB rfl _ _ _ e
   rw [hv,t2] at hb
   cases A <;> cases hb
  ·obtain⟨t1,t2⟩:=hB rfl _ _ _ e
   rw [hv,t1] at hb
   rw [e,Gi r1]
   rw [(Fi hb).1]
theorem wJ {x y:Operand} {t e e2:TypeId} {k p s i sz o' sz2 j tk:Nat} {cs c2:List C} (ht:Ty P t false 1) (hp:p=i * sz + o') (hl:p < cs.length) (hnp:cx.np<=k) (hnj:cx.np<=j)
  (ha:Dn cx ρ σ a w) (hds:Ei σ true [x,y]=some [(.ptr k p,some (.tree e sz o' e2 sz2 s (some i) cs)),(.row j,some (.row e2 sz2 c2))]) (ho:o.op=.store t x y) (hf:σ.U tk=false) (hdst:∀ t,o.dst=some t->t < cx.N)
  (hK:∀ a' w',Iq cx (σ.app o.dst (Pp [(k,some (.tree e sz o' e2 sz2 tk none (cs.set p (.sl sz2 c2)))),(tk,some .gho),(j,none)] none)) a' w'->K a' w'):o.wp P a w K Q:=by
 subst hp
 obtain⟨e1,e2'⟩:=Lu hds
 obtain⟨h1,h2,h3⟩:=Ce ha e1
 have hL:=h3 _ _ rfl rfl
 obtain⟨k1,-,k3⟩:=Ce ha e2'
 have hLj:=k3 _ _ rfl rfl
 unfold B5 at h1 k1
 obtain⟨g,D,hv⟩:=h1
 obtain⟨n,us,vs,q⟩:=ha.lo _ _ hL
 obtain⟨n2,us2,p2,pM,p3⟩:=ha.lo _ _ hLj
 have hkj:k≠j:=fun h=>by subst h; rw [hL] at hLj; cases hLj
 have hkU:σ.U k=true:=(ha.usedL _ _ hL).1
 have hjU:σ.U j=true:=(ha.usedL _ _ hLj).1
 have hne:k≠tk:=fun h=>by rw [h,hf] at hkU; cases hkU
 have hnej:j≠tk:=fun h=>by rw [h,hf] at hjU; cases hjU
 have hsz:0 < sz:=aCj (aBt _) q.ho
 have hi:i < vs.size:=by
  have h1:i * sz < n * sz:=by rw [<- q.row.1,<- q.hl]; omega
  rw [q.hn]
  exact Nat.lt_of_mul_lt_mul_right h1
 have hcell:∀ u∈[ρ j],u.oneCell'=true:=fun u hu=>by simp at hu; rw [hu]; exact k1.2
 have hcells:(ρ j).cells.toList=[ρ j]:=by
  have:=k1.2
  cases hρ:ρ j <;> rw [hρ] at this <;> first | rfl | cases this
 obtain⟨X,hrun,hrow⟩:=X9 (P:=P) (p:=i * sz + o') ht q.row D hcells rfl (by rw [<- q.hl]; omega) hcell
 have hsp:Df us (i * sz + o') [ρ j]=us.set (i * sz + o') (ρ j):=by
  unfold Df
  rw [aCt,if_pos (by rw [<- q.hl]; exact hl)]
  simp
 rw [hsp] at hrow
 have hro:∀ m,σ.U m=true->G8 ρ tk (.tuple (vs.setIfInBounds i (ρ j))) m=ρ m:=fun m hm=>by
  unfold G8
  split
  ·rename_i h; subst h; rw [hf] at hm; cases hm
  ·rfl
 have hrtk:G8 ρ tk (.tuple (vs.setIfInBounds i (ρ j))) tk=.tuple (vs.setIfInBounds i (ρ j)):=by simp [G8]
 have hvs:∀ m u,(vs.setIfInBounds i (ρ j))[m]?=some u->(m=i/\u=ρ j)\/(m≠i/\vs[m]?=some u):=fun m u h=>by
  rw [aB8] at h
  split at h
  ·rename_i hmi
   subst hmi
   injection h with h
   exact .inl ⟨rfl,h.symm⟩
  ·rename_i hmi
   exact .inr ⟨fun e=>hmi e.symm,h⟩
 have hlk:∀ k' x,E7 [(k,some (LB.tree e sz o' e2 sz2 tk none (cs.set (i * sz + o') (.sl sz2 c2)))),(tk,some LB.gho),(j,none)] k'=some (some x)->(k'=k/\x=.tree e sz o' e2 sz2 tk none (cs.set (i * sz + o') (.sl sz2 c2)))\/(k'=tk/\x=.gho):=fun k' x h=>by
  have:=Fk h
  simpa using this
 have hnew:∀ b,own (G8 ρ tk (.tuple (vs.setIfInBounds i (ρ j)))) (G8 ρ tk (.tuple (vs.setIfInBounds i (ρ j))) k) (.tree e sz o' e2 sz2 tk none (cs.set (i * sz + o') (.sl sz2 c2))) b->own ρ (ρ k) (.tree e sz o' e2 sz2 s (some i) cs) b\/own ρ (ρ j) (.row e2 sz2 c2) b:=fun b hb=>by
  rw [hro k hkU] at hb
  rcases hb with hb | ⟨vs2,m,u,a1,a2,a3,a4⟩
  ·exact .inl (.inl hb)
  ·rw [hrtk] at a1
   injection a1 with a1
   subst a1
   rcases hvs m u a2 with ⟨rfl,rfl⟩ | ⟨hm,a5⟩
   ·exact .inr a4
   ·exact .inl (.inr ⟨vs,m,u,q.hs,a5,fun h=>hm (by injection h with h; exact h.symm),a4⟩)
 have hgj:∀ b,Cf (ρ j)=some b->¬ own ρ (ρ k) (.tree e sz o' e2 sz2 s (some i) cs) b:=fun b hb hb2=>hkj (ha.sep k j _ _ b hL hLj hb2 hb)
 unfold Oper.wp
 rw [show (execOp a.eval o).run P w=.ok .skip (w.setRow g X) by simp [execOp,ho,hv,k1.1,hrun]]
 obtain⟨c1,c2',c3,c4,c5⟩:=ha.kept
 refine hK _ _ ⟨G8 ρ tk (.tuple (vs.setIfInBounds i (ρ j))),ha.app (v:=undef) ⟨c1,c2',c3,by rw [Kr]; exact c4,fun b hb hM=>(Gc w g b X fun e=>?_).trans (c5 b hb hM)⟩ (by rw [Kr]; exact aBk _) hdst hro (fun b hb h=>Gc w g b X fun e=>h k _ (Fb (by simp)) hL (.inl (by rw [e]; exact D))) (fun k' lb b h1 h2=>?_) (fun m1 m2 lb lb' b h1 h2 h3 h4=>?_) (fun hI hI2=>⟨fun k' lb h=>?_,fun d hd=>by cases hd⟩) ⟨fun k' lb m2 h1 h2=>?_,fun d k' h1 h2=>by cases h1⟩ (fun k' lb b h1 h2 h3=>?_)⟩
 ·subst e
  rcases q.hM _ D with h | h
  ·omega
  ·exact hM h
 ·rcases hlk k' _ h1 with ⟨rfl,rfl⟩ | ⟨rfl,rfl⟩
  ·rcases hnew b h2 with h | h
   ·exact .inr ⟨k',_,Fb (by simp),hL,h⟩
   ·exact .inr ⟨j,_,Fb (by simp),hLj,h⟩
  ·exact h2.elim
 ·rcases hlk m1 _ h1 with ⟨rfl,rfl⟩ | ⟨rfl,rfl⟩
  ·rcases hlk m2 _ h2 with ⟨rfl,rfl⟩ | ⟨rfl,rfl⟩
   ·rfl
   ·exact h4.elim
  ·exact h3.elim
 ·rcases hlk k' _ h with ⟨rfl,rfl⟩ | ⟨rfl,rfl⟩
  ·rw [hro k' hkU]
   have hmod:∀ i,(i * sz + o') % sz=o':=fun i=>by rw [aC6,Nat.mul_add_mod]; exact aBv q.ho
   refine⟨n,_,_,q.ho,hrtk,hrow,by rw [Array.size_setIfInBounds]; exact q.hn,by rw [List.length_set,List.length_set]; exact q.hl,q.hM,fun m c u b1 b2 b3=>?_,fun m u b1 b2=>?_,fun m1 m2 u1 u2 b b1 b2 _ _ b3 b4=>?_⟩
   ·rw [aCz (fun e=>b3 (by rw [<- e]; exact hmod i))] at b1 b2
    exact Dw.keep_ (fun b hb=>(hI b hb).2) (fun b hb=>(hI b hb).1) _ _ (q.flat m c u b1 b2 b3)
   ·rcases hvs m u b1 with ⟨rfl,rfl⟩ | ⟨hm,b3⟩
    ·refine⟨aC3 (by rw [<- q.hl]; exact hl),n2,us2,c2,aC3 hl,Gs p2 fun b hb=>Gc w g b X fun e=>hgj b hb (.inl (by rw [e]; exact D)),p3.keep_ (fun b hb=>(hI b hb).2) fun b hb=>(hI b hb).1,fun b hb=>⟨pM b hb,fun h=>hgj b hb (.inl h)⟩⟩
    ·obtain⟨q0,n3,us3,c3',q1,q2,q3,q4⟩:=q.nest m u b3 fun h=>hm (by injection h with h; exact h.symm)
     have hd:i * sz + o'≠m * sz + o':=fun e=>hm (Nat.eq_of_mul_eq_mul_right hsz (aDw e)).symm
     exact⟨by rw [aCz hd]; exact q0,n3,us3,c3',by rw [aCz hd]; exact q1,Gs q2 fun b hb=>Gc w g b X fun e=>(q4 b hb).2 (by rw [e]; exact D),q3.keep_ (fun b hb=>(hI b hb).2) fun b hb=>(hI b hb).1,q4⟩
   ·rcases hvs m1 u1 b1 with ⟨rfl,rfl⟩ | ⟨hm1,b5⟩
    ·rcases hvs m2 u2 b2 with ⟨rfl,rfl⟩ | ⟨hm2,b6⟩
     ·rfl
     ·exact (hgj b b3 (.inr ⟨vs,m2,u2,q.hs,b6,fun h=>hm2 (by injection h with h; exact h.symm),b4⟩)).elim
    ·rcases hvs m2 u2 b2 with ⟨rfl,rfl⟩ | ⟨hm2,b6⟩
     ·exact (hgj b b4 (.inr ⟨vs,m1,u1,q.hs,b5,fun h=>hm1 (by injection h with h; exact h.symm),b3⟩)).elim
     ·exact q.dist m1 m2 u1 u2 b b5 b6 (fun h=>hm1 (by injection h with h; exact h.symm)) (fun h=>hm2 (by injection h with h; exact h.symm)) b3 b4
  ·trivial
 ·rcases hlk k' _ h1 with ⟨rfl,rfl⟩ | ⟨rfl,rfl⟩
  ·have h2:m2=tk:=h2
   subst h2
   exact .inr (Fb (by simp))
  ·exact h2.elim
 ·rcases hlk k' _ h1 with ⟨rfl,rfl⟩ | ⟨rfl,rfl⟩
  ·rcases hnew b h3 with h | h
   ·exact ha.fresh k' _ b hL hnp h
   ·exact ha.fresh j _ b hLj hnj h
  ·exact h3.elim
theorem T3 {place:Nat->Option (Nat×Nat)}:∀ {l:List (Nat×DV)} {cells r:List DV},Hi place cells l=some r->r.length=cells.length
 | [],cells,r,h=>by unfold Hi at h; injection h with h; rw [h]
 | (i,d) :: l,cells,r,h=>by
  unfold Hi at h
  cases hp:place i with
  | none=>rw [hp] at h; cases h
  | some q=>
   obtain⟨off,size⟩:=q
   rw [hp] at h
   simp only [] at h
   cases hb:(Nat.beq (Cb d).length size && Nat.ble (off + size) cells.length) with
   | false=>rw [hb] at h; cases h
   | true=>
    rw [hb] at h
    simp only [Bool.and_eq_true] at hb
    have b1:=Nat.eq_of_beq_eq_true hb.1
    have b2:=Nat.le_of_ble_eq_true hb.2
    rw [T3 h,Qu _ _ _ (by omega)]
theorem Bj.split_ {I:Nat->Prop}:∀ {a b:List DV} {us:List Value},Bj ρ I w (a ++ b) us->∃ us1 us2,us=us1 ++ us2/\Bj ρ I w a us1/\Bj ρ I w b us2
 | [],b,us,h=>⟨[],us,rfl,by unfold Bj; rfl,h⟩
 | d :: a,b,us,h=>by
  rw [aB1] at h
  unfold Bj at h
  obtain⟨u,us',rfl,h1,h2⟩:=h
  obtain⟨us1,us2,rfl,h3,h4⟩:=Bj.split_ h2
  exact⟨u :: us1,us2,rfl,by unfold Bj; exact⟨u,us1,rfl,h1,h3⟩,h4⟩
theorem tW {t e:TypeId} {sz bytes:Nat} {x:Operand} {d:DV} {b:Option LB} {z:List Value} {r:List DV} {tc:Bool} (hS:Iw P t e sz bytes) (hz:Zt P e z) (hlen:1 * sz<=16777216)
  (hd:Hi (fun i=>some (i * sz,sz)) ((List.replicate 1 (z.map DV.val)).flatten) [(0,d)]=some r) (hoc:(Cb d).all Te=true) (ha:Dn cx ρ σ a w) (hx:ev σ tc x=some (d,b)) :
  ∃ rs:List Value,(Instr.buildSlice t 1 #[(0,a.eval x)]).run P w=.ok (.slice (some ⟨w.heap.size,0,none⟩) 1 1) (w.alloc (.cells rs.toArray e))/\Bj ρ (Jo cx σ ρ w) w r rs/\(∀ u∈rs,u.oneCell'=true)/\rs.length=1 * sz/\∀ k,Ey r k->σ.U k=true:=by
 obtain⟨hr,hm,-⟩:=Ce ha hx
 obtain⟨it,zv,z1,z2,z3,z4⟩:=hz.get
 obtain⟨it',zv',y1,y2,y3,y4,y5⟩:=hS.hi
 rw [z1] at y1
 injection y1 with y1
 subst y1
 rw [z2] at y2
 injection y2 with y2
 subst y2
 have hsz:=hS.hsz
 have hd0:=hd
 rw [Yg] at hd
 have hone:∀ u∈(List.replicate 1 z).flatten,u.oneCell'=true:=fun u hu=>by
  obtain⟨l,h1,h2⟩:=aDu.1 hu
  rw [(aDh.1 h1).2] at h2
  exact (z4 u h2).1
 have hok0:∀ u∈(List.replicate 1 z).flatten,Ff u=true:=fun u hu=>by
  obtain⟨l,h1,h2⟩:=aDu.1 hu
  rw [(aDh.1 h1).2] at h2
  exact (z4 u h2).2
 obtain⟨rs,r1,r2,r3⟩:=Pn (place:=fun i=>some (i * sz,sz)) [0] [d] [a.eval x] _ ((List.replicate 1 z).flatten) r (by unfold Bj; exact⟨_,[],rfl,hr,by unfold Bj; rfl⟩) (fun d hd'=>by rw [List.mem_singleton.1 hd']; exact hoc) (Bj.ofVals _ hok0) hone hd
 have hrun:(Instr.buildSlice t 1 #[(0,a.eval x)]).run P w=.ok (.slice (some ⟨w.heap.size,0,none⟩) 1 1) (w.alloc (.cells rs.toArray e)):=by
  have e3:((Array.range (1 * sz)).map (zv.cells[· % zv.cells.size]!))=((List.replicate 1 z).flatten).toArray:=by
   rw [<- z3,<- Y3 zv.cells 1 sz y5 hsz]
  refine run_buildSlice w t e 1 _ rs.toArray it zv hS.ht z1 z2 (by rw [y3]; omega) (by rw [y3]; omega) ?_
  rw [y3,e3]
  exact r1
 refine⟨rs,hrun,r2,r3,?_,fun k hk=>?_⟩
 ·rw [<- r2.length,T3 hd,aDi]
  have hzl:z.length=sz:=by rw [<- z3]; simpa using y5
  simp [hzl]
 ·rcases Py hd0 hk with h | ⟨q,h1,h2⟩
  ·simp at h
   exact (Lk _ k (by simpa using h)).elim
  ·rw [List.mem_singleton.1 h1] at h2
   exact hm k h2
theorem lF {t e e2:TypeId} {sz o' sz2 bytes j tk:Nat} {x:Operand} {d:DV} {b:Option LB} {z:List Value} {r pre post:List DV} {ck1 ck2:List (Option Nat)} {c1 c2 c3:List C} (hS:Iw P t e sz bytes) (hz:Zt P e z) (hlen:1 * sz<=16777216)
  (hd:Hi (fun i=>some (i * sz,sz)) ((List.replicate 1 (z.map DV.val)).flatten) [(0,d)]=some r) (hoc:(Cb d).all Te=true) (hr:r=pre ++ .row j :: post) (hpo:pre.length=o') (h1:I9 ck1 pre c1) (h3:I9 ck2 post c3) (hLj:σ.L j=some (.row e2 sz2 c2)) (hnp:cx.np<=j)
  (ha:Dn cx ρ σ a w) {tc:Bool} (hds:Ei σ tc [x]=some [(d,b)]) (ho:o.op=.buildSlice t 1 #[(0,x)]) (hf:∀ j,j < 8->σ.U (tk + j)=false) (hdst:∀ t,o.dst=some t->t < cx.N)
  (hK:∀ a' w',Iq cx (σ.app o.dst (Pp [(tk,some (.tree e sz o' e2 sz2 (tk + 1) none (c1 ++ .sl sz2 c2 :: c3))),(tk + 1,some .gho),(j,none)] (some (.row tk)))) a' w'->K a' w'):o.wp P a w K Q:=by
 obtain⟨rs,hrun,r2,r3,r4,r5⟩:=tW hS hz hlen hd hoc ha (Ij hds)
 subst hr
 have hf0:=hf 0 (by omega)
 have hf1:=hf 1 (by omega)
 rw [Nat.add_zero] at hf0
 obtain⟨n2,us2,p2,pM,p3⟩:=ha.lo _ _ hLj
 have hjU:σ.U j=true:=(ha.usedL _ _ hLj).1
 obtain⟨us1,us3,rfl,s1,s3⟩:∃ us1 us3,rs=us1 ++ ρ j :: us3/\Bj ρ (Jo cx σ ρ w) w pre us1/\Bj ρ (Jo cx σ ρ w) w post us3:=by
  obtain⟨us1,rest,e1,s1,s2⟩:=Bj.split_ r2
  unfold Bj at s2
  obtain⟨u,us3,e2,s2,s3⟩:=s2
  unfold B5 at s2
  exact⟨us1,us3,by rw [e1,e2,s2.1],s1,s3⟩
 have d1:=I9.rd h1 s1
 have d3:=I9.rd h3 s3
 have hl1:us1.length=o':=by rw [<- s1.length]; exact hpo
 rw [aCv] at r4
 have hl3:us1.length + (us3.length + 1)=sz:=by simpa using r4
 let v':Value:=.slice (some ⟨w.heap.size,0,none⟩) 1 1
 let ρ':Nat->Value:=fun m=>if m=tk then v' else if m=tk + 1 then .tuple #[ρ j] else ρ m
 have hrtk:ρ' tk=v':=if_pos rfl
 have hrt1:ρ' (tk + 1)=.tuple #[ρ j]:=by
  show (if tk + 1=tk then _ else _)=_
  rw [if_neg (by omega),if_pos rfl]
 have hro:∀ m,σ.U m=true->ρ' m=ρ m:=fun m hm=>by
  show (if m=tk then _ else if m=tk + 1 then _ else _)=_
  rw [if_neg (fun h=>by subst h; rw [hf0] at hm; cases hm),if_neg (fun h=>by subst h; rw [hf1] at hm; cases hm)]
 have hlk:∀ k' x,E7 [(tk,some (LB.tree e sz o' e2 sz2 (tk + 1) none (c1 ++ .sl sz2 c2 :: c3))),(tk + 1,some LB.gho),(j,none)] k'=some (some x)->(k'=tk/\x=.tree e sz o' e2 sz2 (tk + 1) none (c1 ++ .sl sz2 c2 :: c3))\/(k'=tk + 1/\x=.gho):=fun k' x h=>by
  have:=Fk h
  simpa using this
 have hown:∀ b,own ρ' (ρ' tk) (.tree e sz o' e2 sz2 (tk + 1) none (c1 ++ .sl sz2 c2 :: c3)) b->b=w.heap.size\/Cf (ρ j)=some b:=fun b hb=>by
  rcases hb with hb | ⟨vs,m,u,a1,a2,-,a4⟩
  ·rw [hrtk] at hb
   injection hb with hb
   exact .inl hb.symm
  ·rw [hrt1] at a1
   injection a1 with a1
   subst a1
   have:u=ρ j:=by
    rcases m with _ | m
    ·simpa using a2.symm
    ·simp at a2
   subst this
   exact .inr a4
 have hjlt:∀ b,Cf (ρ j)=some b->b < w.heap.size:=fun b hb=>If p2 hb
 unfold Oper.wp
 rw [show (execOp a.eval o).run P w=.ok (.value v') (w.alloc (.cells (us1 ++ ρ j :: us3).toArray e)) by simp only [execOp,ho]; simp [hrun,v']]
 refine hK _ _ ⟨ρ',ha.app (v:=v') (ha.kept.alloc _) (by simp) hdst hro (fun b hb _=>Below.heap_alloc w _ b hb) (fun k' lb b h1 h2=>?_) (fun m1 m2 lb lb' b h1 h2 h3 h4=>?_) (fun hI hI2=>⟨fun k' lb h=>?_,fun d hd=>?_⟩) ⟨fun k' lb m2 h1 h2=>?_,fun d k' h1 h2=>?_⟩ (fun k' lb b h1 h2 h3=>?_)⟩
 ·rcases hlk k' _ h1 with ⟨rfl,rfl⟩ | ⟨rfl,rfl⟩
  ·rcases hown b h2 with rfl | h
   ·exact .inl (aBk _)
   ·exact .inr ⟨j,_,Fb (by simp),hLj,h⟩
  ·exact h2.elim
 ·rcases hlk m1 _ h1 with ⟨rfl,rfl⟩ | ⟨rfl,rfl⟩
  ·rcases hlk m2 _ h2 with ⟨rfl,rfl⟩ | ⟨rfl,rfl⟩
   ·rfl
   ·exact h4.elim
  ·exact h3.elim
 ·rcases hlk k' _ h with ⟨rfl,rfl⟩ | ⟨rfl,rfl⟩
  ·rw [hrtk]
   have hm:(us1 ++ ρ j :: us3).length=1 * sz:=by rw [aCv]; simp; omega
   refine⟨1,us1 ++ ρ j :: us3,#[ρ j],by omega,hrt1,⟨hm,.inr ⟨w.heap.size,1,_,rfl,by omega,heap_alloc_new w _,aBk _,by unfold maxLen; omega,by simpa using hm,?_⟩⟩,rfl,by simp [d1.1,d3.1],fun b hb=>?_,fun m c u b1 b2 b3=>?_,fun m u b1 b2=>?_,fun m1 m2 u1 u2 b b1 b2 _ _ _ _=>?_⟩
   ·rw [aBl (by rw [<- hm]; simp)]
   ·injection hb with hb
    rw [<- hb]
    exact .inl ha.kept.2.2.2.1
   ·have hc1:c1.length=o':=by rw [d1.1,hl1]
    have key:∀ {I:Nat->Prop},Dw w I c u->(∀ b,I b->I b)->True:=fun _ _=>trivial
    rcases Nat.lt_trichotomy m o' with hlt | heq | hgt
    ·rw [List.getElem?_append_left (by omega)] at b1 b2
     exact Dw.keep_ (fun b hb=>(hI b hb).2) (fun b hb=>(hI b hb).1) _ _ (d1.2 m c u b1 b2)
    ·subst heq
     exact absurd (aBv (by omega)) b3
    ·rw [List.getElem?_append_right (by omega)] at b1 b2
     rw [hc1] at b1
     rw [hl1] at b2
     obtain⟨q,hq⟩:∃ q,m - o'=q + 1:=⟨m - o' - 1,by omega⟩
     rw [hq,List.getElem?_cons_succ] at b1 b2
     exact Dw.keep_ (fun b hb=>(hI b hb).2) (fun b hb=>(hI b hb).1) _ _ (d3.2 q c u b1 b2)
   ·have:m=0/\u=ρ j:=by
     rcases m with _ | m
     ·exact⟨rfl,by simpa using b1.symm⟩
     ·simp at b1
    obtain⟨rfl,rfl⟩:=this
    have hc1:c1.length=o':=by rw [d1.1,hl1]
    refine⟨?_,n2,us2,c2,?_,Gs p2 fun b hb=>Below.heap_alloc w _ b (hjlt b hb),p3.keep_ (fun b hb=>(hI b hb).2) fun b hb=>(hI b hb).1,fun b hb=>⟨pM b hb,fun h=>?_⟩⟩
    ·rw [aCs,aBj,List.getElem?_append_right (by omega),hl1]
     simp
    ·rw [aCs,aBj,List.getElem?_append_right (by omega),hc1]
     simp
    ·have h:some w.heap.size=some b:=h
     injection h with h
     have:=hjlt b hb
     omega
   ·rcases m1 with _ | m1
    ·rcases m2 with _ | m2
     ·rfl
     ·simp at b2
    ·simp at b1
  ·trivial
 ·injection hd with hd
  subst hd
  unfold B5
  exact⟨hrtk.symm,by rw [hrtk]; rfl⟩
 ·rcases hlk k' _ h1 with ⟨rfl,rfl⟩ | ⟨rfl,rfl⟩
  ·have h2:m2=k' + 1:=h2
   subst h2
   exact .inr (Fb (by simp))
  ·exact h2.elim
 ·injection h1 with h1
  subst h1
  unfold men at h2
  subst h2
  exact .inr (Fb (by simp))
 ·rcases hlk k' _ h1 with ⟨rfl,rfl⟩ | ⟨rfl,rfl⟩
  ·rcases hown b h3 with rfl | h
   ·exact .inl ha.kept.2.2.2.1
   ·exact ha.fresh j _ b hLj hnp h
  ·exact h3.elim
theorem Ev.str {w:World} {I:Nat->Prop} (s:ByteArray):Ev w I (G3 s.data.toList) (Go.Lib.strCells s):=by
 refine⟨by rw [Jc,Go.Lib.strCells_length]; exact aD0,fun j c u h1 h2=>?_⟩
 unfold G3 at h1
 unfold Go.Lib.strCells at h2
 rw [aDk] at h1 h2
 cases hx:s.data.toList[j]? with
 | none=>rw [hx] at h1; cases h1
 | some x=>
  rw [hx] at h1 h2
  injection h1 with h1
  injection h2 with h2
  subst h1 h2
  unfold Dw
  have:x.toNat < 256:=x.toNat_lt
  have e1:IntKind.u8.min=0:=by decide
  have e2:IntKind.u8.max=255:=by decide
  exact⟨rfl,by omega,by omega⟩
theorem vB {x y:Operand} {t e e2:TypeId} {k s k' s' sz o' sz2 bytes tk:Nat} {cs cs':List C} (hS:Iw P t e sz bytes) (hne:Nat.beq k k'=false) (hl:(cs.length + cs'.length) * bytes<=140737488355328) (hnp:cx.np<=k) (hnp':cx.np<=k')
  (ha:Dn cx ρ σ a w) (hds:Ei σ true [x,y]=some [(.row k,some (.tree e sz o' e2 sz2 s none cs)),(.row k',some (.tree e sz o' e2 sz2 s' none cs'))]) (ho:o.op=.call ⟨.builtin .append,#[x,y],#[t,t]⟩) (hf:∀ j,j < 8->σ.U (tk + j)=false) (hdst:∀ t,o.dst=some t->t < cx.N)
  (hK:∀ a' w',Iq cx (σ.app o.dst (Pp [(tk,some (.tree e sz o' e2 sz2 (tk + 1) none (cs ++ cs'))),(tk + 1,some .gho),(k,none),(k',none)] (some (.row tk)))) a' w'->K a' w'):o.wp P a w K Q:=by
 have hf0:=hf 0 (by omega)
 have hf1:=hf 1 (by omega)
 rw [Nat.add_zero] at hf0
 have hkk:k≠k':=fun h=>by subst h; rw [aC7] at hne; cases hne
 obtain⟨e1,e2'⟩:=Lu hds
 obtain⟨h1,-,h3⟩:=Ce ha e1
 obtain⟨k1,-,k3⟩:=Ce ha e2'
 have hL:=h3 _ _ rfl rfl
 have hL':=k3 _ _ rfl rfl
 unfold B5 at h1 k1
 obtain⟨n,us,vs,q⟩:=ha.lo _ _ hL
 obtain⟨n',us',vs',q'⟩:=ha.lo _ _ hL'
 have hsz:0 < sz:=hS.hsz
 have hone:∀ u∈us',u.oneCell'=true:=fun u hu=>by
  obtain⟨m,hm,rfl⟩:=aB6 hu
  have hum:us'[m]?=some us'[m]:=List.getElem?_eq_getElem hm
  have hcm:cs'[m]?=some (cs'[m]'(by rw [q'.hl]; exact hm)):=List.getElem?_eq_getElem _
  by_cases hmo:m % sz=o'
  ·have hmd:m / sz * sz + o'=m:=by rw [<- hmo,aC6]; exact Nat.div_add_mod m sz
   have hi:m / sz < vs'.size:=by
    rw [q'.hn]
    exact (aDq hsz).2 (by rw [<- q'.row.1]; exact hm)
   obtain⟨p0,n2,us2,c2,p1,p2,-⟩:=q'.nest (m / sz) _ (aBs hi) (by simp)
   rw [hmd,hum] at p0
   injection p0 with p0
   rw [p0]
   rcases p2.2 with ⟨A,h,-⟩ | ⟨g,cap,cur,h,-⟩ <;> rw [h] <;> rfl
  ·exact Dw.one (q'.flat m _ _ hcm hum hmo)
 obtain⟨A,m,c,hv',hl',hA⟩:∃ A m c,ρ k'=.slice A m c/\us'.length=m * sz/\(0 < m->∃ ad,A=some ad/\∀ j u,us'[j]?=some u->w.cell? (ad.add j)=some u):=by
  rcases Nat.eq_zero_or_pos n' with hn | hn
  ·rcases q'.row.2 with ⟨A,q1,q2⟩ | ⟨g,cap,cur,q1,-⟩
   ·exact⟨A,0,0,q1,by rw [q'.row.1,hn],fun h=>absurd h (by omega)⟩
   ·exact⟨_,n',cap,q1,q'.row.1,fun h=>absurd h (by omega)⟩
  ·obtain⟨g,cap,q1,-,-,q2⟩:=Km q'.row hn
   exact⟨_,n',cap,q1,q'.row.1,fun _=>⟨_,rfl,fun j u hj=>by rw [Jt,aBj]; exact q2 j u hj⟩⟩
 have hmn:m=n':=Nat.eq_of_mul_eq_mul_right hsz (hl'.symm.trans q'.row.1)
 subst hmn
 obtain⟨v',w',hrun,g2,g3,g4,hsl⟩:=Td (P:=P) (ty:=o.type) hS q.row (A:=A) (m:=m) (c:=c) hl' hone hA (by rw [<- q.hl,<- q'.hl]; exact hl)
 have hkU:σ.U k=true:=(ha.usedL _ _ hL).1
 have hkU':σ.U k'=true:=(ha.usedL _ _ hL').1
 let ρ':Nat->Value:=fun m=>if m=tk then v' else if m=tk + 1 then .tuple (vs ++ vs') else ρ m
 have hrtk:ρ' tk=v':=if_pos rfl
 have hrt1:ρ' (tk + 1)=.tuple (vs ++ vs'):=by
  show (if tk + 1=tk then _ else _)=_
  rw [if_neg (by omega),if_pos rfl]
 have hro:∀ m,σ.U m=true->ρ' m=ρ m:=fun m hm=>by
  show (if m=tk then _ else if m=tk + 1 then _ else _)=_
  rw [if_neg (fun h=>by subst h; rw [hf0] at hm; cases hm),if_neg (fun h=>by subst h; rw [hf1] at hm; cases hm)]
 have hlk:∀ m x,E7 [(tk,some (LB.tree e sz o' e2 sz2 (tk + 1) none (cs ++ cs'))),(tk + 1,some LB.gho),(k,none),(k',none)] m=some (some x)->(m=tk/\x=.tree e sz o' e2 sz2 (tk + 1) none (cs ++ cs'))\/(m=tk + 1/\x=.gho):=fun m x h=>by
  have:=Fk h
  simpa using this
 have hvv:∀ i u,(vs ++ vs')[i]?=some u->(i < vs.size/\vs[i]?=some u)\/(vs.size<=i/\vs'[i - vs.size]?=some u):=fun i u h=>by
  rw [aDr] at h
  split at h
  ·rename_i hi; exact .inl ⟨hi,h⟩
  ·rename_i hi; exact .inr ⟨Nat.le_of_not_lt hi,h⟩
 have hown:∀ b,own ρ' (ρ' tk) (.tree e sz o' e2 sz2 (tk + 1) none (cs ++ cs')) b->w.heap.size<=b\/own ρ (ρ k) (.tree e sz o' e2 sz2 s none cs) b\/own ρ (ρ k') (.tree e sz o' e2 sz2 s' none cs') b:=fun b hb=>by
  rcases hb with hb | ⟨vs2,i,u,a1,a2,-,a4⟩
  ·rw [hrtk] at hb
   rcases g4 b hb with h | h
   ·exact .inr (.inl (.inl h))
   ·exact .inl h
  ·rw [hrt1] at a1
   injection a1 with a1
   subst a1
   rcases hvv i u a2 with ⟨-,h⟩ | ⟨-,h⟩
   ·exact .inr (.inl (.inr ⟨vs,i,u,q.hs,h,by simp,a4⟩))
   ·exact .inr (.inr (.inr ⟨vs',_,u,q'.hs,h,by simp,a4⟩))
 have hbase:∀ g,Cf (ρ k)=some g->cx.w0.heap.size<=g\/cx.M g:=q.hM
 have hcl:cs.length=n * sz:=by rw [q.hl,q.row.1]
 unfold Oper.wp
 rw [show (execOp a.eval o).run P w=.ok (.value v') w' by simp [execOp,ho,resolve,invoke,builtin,h1.1,k1.1,hv',hrun]]
 refine hK _ _ ⟨ρ',ha.app (v:=v') (ha.kept.grown g3 hbase) g3.size hdst hro (fun b hb h=>g3.block b hb fun e=>h k _ (Fb (by simp)) hL (.inl e.symm)) (fun m1 lb b h1 h2=>?_) (fun m1 m2 lb lb' b h1 h2 h3 h4=>?_) (fun hI hI2=>⟨fun m1 lb h=>?_,fun d hd=>?_⟩) ⟨fun m1 lb m2 h1 h2=>?_,fun d m1 h1 h2=>?_⟩ (fun m1 lb b h1 h2 h3=>?_)⟩
 ·rcases hlk m1 _ h1 with ⟨rfl,rfl⟩ | ⟨rfl,rfl⟩
  ·rcases hown b h2 with h | h | h
   ·exact .inl h
   ·exact .inr ⟨k,_,Fb (by simp),hL,h⟩
   ·exact .inr ⟨k',_,Fb (by simp),hL',h⟩
  ·exact h2.elim
 ·rcases hlk m1 _ h1 with ⟨rfl,rfl⟩ | ⟨rfl,rfl⟩
  ·rcases hlk m2 _ h2 with ⟨rfl,rfl⟩ | ⟨rfl,rfl⟩
   ·rfl
   ·exact h4.elim
  ·exact h3.elim
 ·rcases hlk m1 _ h with ⟨rfl,rfl⟩ | ⟨rfl,rfl⟩
  ·rw [hrtk]
   have nst1:∀ i u,vs[i]?=some u->∀ b,Cf u=some b->own ρ (ρ k) (.tree e sz o' e2 sz2 s none cs) b:=fun i u h b hb=>.inr ⟨vs,i,u,q.hs,h,by simp,hb⟩
   have nst2:∀ i u,vs'[i]?=some u->∀ b,Cf u=some b->own ρ (ρ k') (.tree e sz o' e2 sz2 s' none cs') b:=fun i u h b hb=>.inr ⟨vs',i,u,q'.hs,h,by simp,hb⟩
   have xx:∀ b,own ρ (ρ k) (.tree e sz o' e2 sz2 s none cs) b->own ρ (ρ k') (.tree e sz o' e2 sz2 s' none cs') b->False:=fun b a1 a2=>hkk (ha.sep k k' _ _ b hL hL' a1 a2)
   refine⟨n + m,us ++ us',vs ++ vs',q.ho,hrt1,g2,by rw [Array.size_append,q.hn,q'.hn],by rw [List.length_append,List.length_append,q.hl,q'.hl],fun b hb=>?_,fun j c u b1 b2 b3=>?_,fun i u b1 _=>?_,fun i1 i2 u1 u2 b b1 b2 _ _ b3 b4=>?_⟩
   ·rcases g4 b hb with h4 | h4
    ·exact hbase b h4
    ·exact .inl (aBo ha.kept.2.2.2.1 h4)
   ·rcases aCf j cs.length with hj | hj
    ·rw [List.getElem?_append_left hj] at b1
     rw [List.getElem?_append_left (by rw [<- q.hl]; exact hj)] at b2
     exact Dw.keep_ (fun b hb=>(hI b hb).2) (fun b hb=>(hI b hb).1) _ _ (q.flat j c u b1 b2 b3)
    ·rw [List.getElem?_append_right hj] at b1
     rw [List.getElem?_append_right (by rw [<- q.hl]; exact hj),<- q.hl] at b2
     refine Dw.keep_ (fun b hb=>(hI b hb).2) (fun b hb=>(hI b hb).1) _ _ (q'.flat (j - cs.length) c u b1 b2 fun h=>b3 ?_)
     have:j=(j - cs.length) + n * sz:=by omega
     rw [this,Nat.add_mul_mod_self_right]
     exact h
   ·rcases hvv i u b1 with ⟨hi,h⟩ | ⟨hi,h⟩
    ·obtain⟨q0,n3,us3,c3,q1,q2,q3,q4⟩:=q.nest i u h (by simp)
     refine⟨by rw [List.getElem?_append_left (List.getElem?_eq_some_iff.1 q0).1]; exact q0,n3,us3,c3,by rw [List.getElem?_append_left (List.getElem?_eq_some_iff.1 q1).1]; exact q1,Gs q2 fun b hb=>g3.block b (If q2 hb) fun e=>(q4 b hb).2 e.symm,q3.keep_ (fun b hb=>(hI b hb).2) fun b hb=>(hI b hb).1,fun b hb=>⟨(q4 b hb).1,fun h5=>?_⟩⟩
     rcases g4 b h5 with h6 | h6
     ·exact (q4 b hb).2 h6
     ·have:=If q2 hb
      omega
    ·obtain⟨q0,n3,us3,c3,q1,q2,q3,q4⟩:=q'.nest _ u h (by simp)
     have e5:i * sz + o'=n * sz + ((i - vs.size) * sz + o'):=by
      rw [q.hn] at hi ⊢
      have:i * sz=n * sz + (i - n) * sz:=by rw [<- aBz]; congr 1; omega
      omega
     refine⟨by rw [e5,List.getElem?_append_right (by rw [q.row.1]; omega),q.row.1,aCm]; exact q0,n3,us3,c3,by rw [e5,List.getElem?_append_right (by rw [hcl]; omega),hcl,aCm]; exact q1,Gs q2 fun b hb=>g3.block b (If q2 hb) fun e=>xx b (.inl e.symm) (nst2 _ u h b hb),q3.keep_ (fun b hb=>(hI b hb).2) fun b hb=>(hI b hb).1,fun b hb=>⟨(q4 b hb).1,fun h5=>?_⟩⟩
     rcases g4 b h5 with h6 | h6
     ·exact xx b (.inl h6) (nst2 _ u h b hb)
     ·have:=If q2 hb
      omega
   ·rcases hvv i1 u1 b1 with ⟨hi1,h1⟩ | ⟨hi1,h1⟩ <;> rcases hvv i2 u2 b2 with ⟨hi2,h2⟩ | ⟨hi2,h2⟩
    ·exact q.dist i1 i2 u1 u2 b h1 h2 (by simp) (by simp) b3 b4
    ·exact (xx b (nst1 _ _ h1 b b3) (nst2 _ _ h2 b b4)).elim
    ·exact (xx b (nst1 _ _ h2 b b4) (nst2 _ _ h1 b b3)).elim
    ·have:=q'.dist _ _ u1 u2 b h1 h2 (by simp) (by simp) b3 b4
     omega
  ·trivial
 ·injection hd with hd
  subst hd
  unfold B5
  rw [hrtk]
  obtain⟨A2,n2',c2',rfl⟩:=hsl
  exact⟨rfl,rfl⟩
 ·rcases hlk m1 _ h1 with ⟨rfl,rfl⟩ | ⟨rfl,rfl⟩
  ·have h2:m2=m1 + 1:=h2
   subst h2
   exact .inr (Fb (by simp))
  ·exact h2.elim
 ·injection h1 with h1
  subst h1
  unfold men at h2
  subst h2
  exact .inr (Fb (by simp))
 ·rcases hlk m1 _ h1 with ⟨rfl,rfl⟩ | ⟨rfl,rfl⟩
  ·rcases hown b h3 with h | h | h
   ·exact .inl (aBo ha.kept.2.2.2.1 h)
   ·exact ha.fresh k _ b hL hnp h
   ·exact ha.fresh k' _ b hL' hnp' h
  ·exact h3.elim
theorem ExtR.sound {tk:Nat} {op:Op} {ty:TypeId} {ds:List (DV×Option LB)} {env:X8} {wr:List Nat} {E:Ke->Prop} (h:ExtR P cx.np tk op ty ds env wr E) (ha:Dn cx ρ σ a w) (hds:Ei σ (H6 op) op.operands.toList=some ds) {l0:List Nat} (henv:env=K3 σ l0) (hf:∀ j,j < 8->σ.U (tk + j)=false) (ho:o.op=op) (hdst:∀ t,o.dst=some t->t < cx.N)
  (hK:∀ e a' w',E e->Iq cx (σ.app o.dst e) a' w'->K a' w'):o.wp P a w K Q:=by
 subst henv
 have hf0:σ.U tk=false:=hf 0 (by omega)
 cases h with
 | sem hs _ _ _=>exact hs rfl ha ⟨_,We.refl _ _,hds⟩ rfl hf ho hdst hK
 | @next x _ _ j k b n seen l hj hm hn=>
  have hLj:=Ku hj
  have hLk:=Ku hm
  have e1:=Ij (show Ei σ false [x]=_ from hds)
  obtain⟨h1,h2,-⟩:=Ce ha e1
  unfold B5 at h1
  obtain⟨g,D,hv⟩:=h1
  obtain⟨b',m,r1,r2,r3,r4⟩:=ha.lo _ _ hLj
  have hgb:b'=g:=by rw [r1] at D; injection D
  subst hgb
  obtain⟨m',q1,⟨es,q2,q3,q4,q5⟩,-⟩:=ha.lo _ _ hLk
  have hmm:m=m':=by rw [r2] at q1; injection q1 with q1; injection q1
  subst hmm
  have hes:es.size=n:=by rw [hn,<- q3]; simp
  have hku:σ.U k=true:=(ha.usedL _ _ hLk).1
  have hlt:∀ x∈es.toList,x.born < n:=fun x hx=>by
   obtain⟨i,hi,rfl⟩:=aB6 hx
   have hi':i < es.size:=by simpa using hi
   have:=q4 i es[i] (by simp [hi'])
   simp only [Array.getElem_toList]
   rw [this]; omega
  have left:∀ e,e∈(leftOf es seen.toArray).toList↔e∈es.toList/\e.born∉seen:=fun e=>by
   unfold leftOf
   simp
  rcases run_next_at (P:=P) w o.type b' m n n seen.toArray es es.size r3 q2 hlt (aBk _) with ⟨s1,s2⟩ | ⟨e,s1,w1,s2,s3⟩
  ·refine wB (d:=some (.tup [.val (.bool false)])) (lb':=.mit k n seen) (v:=.tuple #[.bool false]) (w':=w) ha hdst hLj (.inr ?_) ⟨rfl,rfl,rfl,rfl⟩ (fun b hb=>rfl) (fun I' hI=>⟨⟨b',m,r1,r2,r3,r4⟩,fun x hx=>by injection hx with hx; subst hx; exact nP rfl⟩) ⟨fun k' hk'=>by have hk':k'=k:=hk'; rw [hk']; exact hku,fun x k' hx hm=>by injection hx with hx; subst hx; exact (V5 [_] k' hm).elim⟩ (fun a' w' h=>hK _ a' w' (.inl ⟨fun i hi=>?_,rfl⟩) h)
   ·simp only [execOp,ho,hv,Sem.run_bind,s2,Result.andThen_ok,Sem.run_pure]
   ·refine Decidable.byContradiction fun hns=>?_
    have hi':i < es.size:=by omega
    have:es[i]∈(leftOf es seen.toArray).toList:=(left _).2 ⟨by simp,by rw [q4 i es[i] (by simp [hi'])]; exact hns⟩
    have h0:(leftOf es seen.toArray)=#[]:=Array.eq_empty_of_size_eq_zero s1
    rw [h0] at this
    simp at this
  ·obtain⟨t1,t2⟩:=(left e).1 s1
   obtain⟨i,hi,hie⟩:=aB6 t1
   have hi':i < es.size:=by simpa using hi
   have hei:es[i]?=some e:=by
    rw [<- aDs,List.getElem?_eq_getElem hi,hie]
   have hb:=q4 i e hei
   have hl:l[i]?=some (e.key,e.val):=by
    rw [<- q3,aDk,aDs,hei]
    rfl
   have hok:=q5 _ (List.mem_of_getElem? hl)
   have hw1:w1.os=w.os/\w1.tape=w.tape/\w1.output=w.output/\w1.heap=w.heap:=by
    rcases s2 with rfl | rfl <;> exact⟨rfl,rfl,rfl,rfl⟩
   obtain⟨v1,v2,v3,v4⟩:=hw1
   refine wB (d:=some (.tup [.val (.bool true),.val e.key,.val e.val])) (lb':=.mit k n (seen ++ [i])) (v:=.tuple #[.bool true,e.key,e.val]) (w':=setBlock w1 b' (.mapIter (some m) n (seen.toArray.push e.born) es.size)) ha hdst hLj (.inr ?_) ⟨v1,v2,v3,by rw [Wi,v4]⟩ (fun b hb=>(Uf _ fun e=>hb (by rw [r1,e]; rfl)).trans (by rw [v4])) (fun I' hI=>⟨⟨b',m,r1,r2,?_,r4⟩,fun x hx=>by injection hx with hx; subst hx; exact lM rfl hok.1 hok.2⟩) ⟨fun k' hk'=>by have hk':k'=k:=hk'; rw [hk']; exact hku,fun x k' hx hm=>by injection hx with hx; subst hx; exact (V5 [_,_,_] k' hm).elim⟩ (fun a' w' h=>hK _ a' w' (.inr ⟨i,_,hl,by rw [<- hb]; exact t2,rfl⟩) h)
   ·simp only [execOp,ho,hv,Sem.run_bind,s3,Result.andThen_ok,Sem.run_pure]
   ·rw [Vf (w:=w1) (by rw [v4]; exact r3),hb,hes]
    simp
 | @entry x _ _ j k b n seen i l p hj hm hn hp=>
  have hLj:=Ku hj
  have hLk:=Ku hm
  have e1:=Ij (show Ei σ false [x]=_ from hds)
  obtain⟨h1,h2,-⟩:=Ce ha e1
  unfold B5 at h1
  obtain⟨g,D,hv⟩:=h1
  obtain⟨b',m,r1,r2,r3,r4⟩:=ha.lo _ _ hLj
  have hgb:b'=g:=by rw [r1] at D; injection D
  subst hgb
  obtain⟨m',q1,⟨es,q2,q3,q4,q5⟩,-⟩:=ha.lo _ _ hLk
  have hmm:m=m':=by rw [r2] at q1; injection q1 with q1; injection q1
  subst hmm
  have hes:es.size=n:=by rw [hn,<- q3]; simp
  have hok:=q5 _ (List.mem_of_getElem? hp)
  have hpe:=hp
  rw [<- q3,aDk,aDs] at hpe
  obtain⟨e,hei,rfl⟩:=aBi.1 hpe
  have hb:=q4 i e hei
  obtain⟨hi,hie⟩:=Array.getElem?_eq_some_iff.1 hei
  have hfind:es.find? (fun x=>x.born == i)=some e:=by
   rw [Array.find?_eq_some_iff_getElem]
   refine⟨by rw [hb]; simp,i,hi,hie,fun q hq=>?_⟩
   have:=q4 q es[q] (by simp)
   rw [this]
   have:q≠i:=by omega
   simp [this]
  have hrun:(Instr.entry (.pointer (some ⟨b',0,none⟩))).run P w=.ok (.tuple #[e.key,e.val]) w:=by
   have hback:(seen ++ [i]).toArray.back?=some i:=by simp
   simp only [Instr.entry,getObj,Sem.run_bind,Sem.run,r3,q2,Result.andThen,hback,hes,hfind,bne_self_eq_false,aDg,if_false]
   rfl
  refine Ji ha hdst (d:=.tup [.val e.key,.val e.val]) (v:=.tuple #[e.key,e.val]) ?_ (pE hok.1 hok.2) (fun k' hk'=>(V5 [_,_] k' hk').elim) (fun a' w' h=>hK _ a' w' rfl h)
  simp only [execOp,ho,hv,Sem.run_bind,hrun,Result.andThen_ok,Sem.run_pure]
 | appN hS hc hs hl _ hnp=>exact vO hS hc hs hl (Nat.le_of_ble_eq_true hnp) ha hds ho hf0 hdst (fun a' w' h=>hK _ a' w' rfl h)
 | appNP hS hc hm hs hl _ hnp=>exact rE hS hc hm hs hl (Nat.le_of_ble_eq_true hnp) ha hds ho hf0 hdst (fun a' w' h=>hK _ a' w' rfl h)
 | stoH ht hp hl _ _ hnp hnj=>exact wJ ht hp hl (Nat.le_of_ble_eq_true hnp) (Nat.le_of_ble_eq_true hnj) ha hds ho hf0 hdst (fun a' w' h=>hK _ a' w' rfl h)
 | buildT hS hz hlen hd hoc hr hpo h1 h3 hj hnp=>exact lF hS hz hlen hd hoc hr hpo h1 h3 (Ku hj) (Nat.le_of_ble_eq_true hnp) ha (show Ei σ false [_]=_ from hds) ho hf hdst (fun a' w' h=>hK _ a' w' rfl h)
 | appT hS _ _ hne hl hnp hnp'=>exact vB hS hne hl (Nat.le_of_ble_eq_true hnp) (Nat.le_of_ble_eq_true hnp') ha hds ho hf hdst (fun a' w' h=>hK _ a' w' rfl h)
 | @storeT t x y _ _ k p e sz o' e2 sz2 s hh cs z ag d b cs' ht hs hi hf ck hd _=>
  obtain⟨e1,e2'⟩:=Lu (show Ei σ true [x,y]=_ from hds)
  obtain⟨h1,h2,h3⟩:=Ce ha e1
  obtain⟨h4,-,-⟩:=Ce ha e2'
  have hL:=h3 _ _ rfl rfl
  unfold B5 at h1
  obtain⟨g,D,hv⟩:=h1
  obtain⟨n,us,vs,q⟩:=ha.lo _ _ hL
  obtain⟨us',u1,u2,u3⟩:=Mb h4 hd.ok
  have hr':=I9.rd hd u2
  have hl:=q.hl
  have hus':us'.length=z:=by rw [<- u2.length]; exact hs
  obtain⟨X,hrun,hrow⟩:=X9 (P:=P) (p:=p) ht q.row D u1 hus' (by omega) u3
  have hcs':cs'.length=z:=by rw [hr'.1,hus']
  refine wB (lb':=.tree e sz o' e2 sz2 s hh (Df cs p cs')) (d:=none) (v:=undef) (w':=w.setRow g X) ha hdst hL (.inl ⟨?_,rfl⟩) ⟨rfl,rfl,rfl,Kr w g X⟩ (fun b hb=>Gc w g b X fun e=>hb (by rw [e]; exact .inl D)) (fun I' hI=>⟨⟨n,_,vs,q.flatW D hrow hr' (by omega) (by rw [hcs']; exact hf) hI⟩,fun x hx=>by cases hx⟩) ⟨fun k' hk'=>(ha.usedL _ _ hL).2 k' hk',fun x k' hx=>by cases hx⟩ (fun a' w' h=>hK _ a' w' rfl h)
  simp [execOp,ho,hv,hrun]
 | @storeN t x y _ _ k s i p e sz o' e2 sz2 cs z ag d b cs' c2 ht hc hs hi ck hd _=>
  obtain⟨e1,e2'⟩:=Lu (show Ei σ true [x,y]=_ from hds)
  obtain⟨h1,h2,h3⟩:=Ce ha e1
  obtain⟨h4,-,-⟩:=Ce ha e2'
  have hL:=h3 _ _ rfl rfl
  unfold B5 at h1
  obtain⟨vs',u,g,r1,r2,D,hv⟩:=h1
  obtain⟨n,us,vs,q⟩:=ha.lo _ _ hL
  have e0:=q.hs.symm.trans r1
  injection e0 with e0
  subst e0
  obtain⟨us',u1,u2,u3⟩:=Mb h4 hd.ok
  have hr':=I9.rd hd u2
  obtain⟨p0,n2,us2,c0,p1,p2,p3,p4⟩:=q.nest i u r2 (by simp)
  rw [hc] at p1
  injection p1 with p1
  injection p1 with _ p1
  subst p1
  have hl:=p3.1
  have hus':us'.length=z:=by rw [<- u2.length]; exact hs
  obtain⟨X,hrun,hrow⟩:=X9 (P:=P) (p:=p) ht p2 D u1 hus' (by omega) u3
  refine wB (lb':=.tree e sz o' e2 sz2 s none (cs.set (i * sz + o') (.sl sz2 (Df c2 p cs')))) (d:=none) (v:=undef) (w':=w.setRow g X) ha hdst hL (.inl ⟨?_,rfl⟩) ⟨rfl,rfl,rfl,Kr w g X⟩ (fun b hb=>Gc w g b X fun e=>hb (by rw [e]; exact .inr ⟨vs,i,u,q.hs,r2,by simp,D⟩)) (fun I' hI=>⟨⟨n,us,vs,q.nestW r2 D hrow hI ((p3.splice hr' p).keep_ (fun b hb=>(hI b hb).2) fun b hb=>(hI b hb).1)⟩,fun x hx=>by cases hx⟩) ⟨fun k' hk'=>(ha.usedL _ _ hL).2 k' hk',fun x k' hx=>by cases hx⟩ (fun a' w' h=>hK _ a' w' rfl h)
  simp [execOp,ho,hv,hrun]
 | @lenV t x _ _ k ds e bytes hS=>
  have e1:=Ij (show Ei σ true [x]=_ from hds)
  obtain⟨h1,-,h3⟩:=Ce ha e1
  unfold B5 at h1
  obtain⟨b,vs,q1,q2,q3,q4,q5,q6⟩:=ha.lo _ _ (h3 _ _ rfl rfl)
  have hlen:=q6.length
  refine Ji ha hdst (v:=.int .i64 (ds.length:Int)) ?_ (Lg (Ic.2 ?_)) (fun k' hk'=>fT k' hk') (fun a' w' h=>hK _ a' w' rfl h)
  ·have:(Builtin.len_ #[t] o.type #[.slice (some ⟨b,0,none⟩) vs.length vs.length]).run P w=.ok (.int .i64 (ds.length:Int)) w:=by
    simp [Builtin.len_,run_underlying hS.ht,goInt,hlen]
   simp [execOp,ho,resolve,invoke,builtin,h1.1,q1,this]
  ·have e3:IntKind.i64.min=-9223372036854775808:=by decide
   have e4:IntKind.i64.max=9223372036854775807:=by decide
   unfold maxLen at q2
   omega
 | @idxA t x i _ _ cs kk b1 b2 n m e j ht he hj hm=>
  subst hj
  obtain⟨e1,e2⟩:=Lu (show Ei σ true [x,i]=_ from hds)
  obtain⟨h1,-,-⟩:=Ce ha e1
  have hi:=F1 ha e2
  unfold B5 at h1
  obtain⟨ad,hv,hI,hr⟩:=h1
  refine Ji ha hdst (v:=.pointer (some (ad.add j))) ?_ (by
   unfold B5
   refine⟨_,rfl,by rw [Li]; exact hI,Ii.of_at _ 0 fun j' c hj'=>?_⟩
   rw [List.getElem?_drop] at hj'
   have:=hr.at_ hj'
   rw [aBj] at this
   rw [aBj,Pk]
   exact this) (fun k hk=>by unfold men at hk; exact hk.elim) (fun a' w' h=>hK _ a' w' rfl h)
  have hlen:P.arrayLen t=m:=by unfold Program.arrayLen; rw [ht]
  have hel:P.elem t=e:=by unfold Program.elem; rw [ht]
  have hrun:(Instr.indexAt t (.pointer (some ad)) (.int kk (j:Int))).run P w=.ok (.pointer (some (ad.add j))) w:=by
   rw [run_indexAt_array w t ad kk _ (by rw [hlen,hel]; exact ht),hlen,if_pos ⟨by omega,by omega⟩,hel,he.size]
   simp
  simp [execOp,ho,hv,hi,hrun]
 | @lenQ t x _ _ k e e' sz bytes cs n hS hn=>
  obtain⟨h1,-,h3⟩:=Ce ha (Ij (show Ei σ true [x]=_ from hds))
  unfold B5 at h1
  obtain⟨m,us,ho',-,hr⟩:=ha.lo _ _ (h3 _ _ rfl rfl)
  have hm:m=n:=Nat.eq_of_mul_eq_mul_right hS.hsz (ho'.1.symm.trans (hr.1.symm.trans hn))
  subst hm
  obtain⟨A,c,hv,hle⟩:∃ A c,ρ k=.slice A m c/\m<=maxLen:=by
   rcases ho'.2 with ⟨A,q1,q2⟩ | ⟨g,base,cap,cur,fr,q1,q2,q3,q4,q5,-⟩
   ·exact⟨A,0,by rw [q1,q2],by rw [q2]; exact aBt _⟩
   ·exact⟨_,cap,q1,aBo q4 q5⟩
  refine Ji ha hdst (v:=.int .i64 (m:Int)) ?_ (Lg (Ic.2 ?_)) (fun k' hk'=>fT k' hk') (fun a' w' h=>hK _ a' w' rfl h)
  ·have:(Builtin.len_ #[t] o.type #[.slice A m c]).run P w=.ok (.int .i64 (m:Int)) w:=by
    simp [Builtin.len_,run_underlying hS.ht,goInt]
   simp [execOp,ho,resolve,invoke,builtin,h1.1,hv,this]
  ·have e3:IntKind.i64.min=-9223372036854775808:=by decide
   have e4:IntKind.i64.max=9223372036854775807:=by decide
   unfold maxLen at hle
   omega
theorem Vg {k0 k:Nat} {lb:LB} {d:Option DV} (h:(Xt k0 lb d).l k≠none):k=k0:=by
 have h':(bif Nat.beq k k0 then some (some lb) else none)≠none:=h
 cases hb:Nat.beq k k0 with
 | true=>exact Nat.eq_of_beq_eq_true hb
 | false=>rw [hb] at h'; exact absurd rfl h'
theorem O8 {el:List (Nat×Option LB)} {d:Option DV} {k:Nat} (h:(Pp el d).l k≠none):k∈el.map (·.1):=by
 have h:E7 el k≠none:=h
 cases hl:E7 el k with
 | none=>exact absurd hl h
 | some x=>exact aBy.2 ⟨_,Fk hl,rfl⟩
theorem ExtR.sim {tk:Nat} {op:Op} {ty:TypeId} {ds ds':List (DV×Option LB)} {env:X8} {wr:List Nat} {E:Ke->Prop} {np:Nat} (h:ExtR P np tk op ty ds env wr E) (hs:We (Jv op) ds ds'):ExtR P np tk op ty ds' env wr E:=by
 have two:∀ {x y:DV×Option LB} {ds':List (DV×Option LB)},We true [x,y] ds'->Ti x.1=false->∃ b,ds'=[x,(y.1,b)]:=fun {x y ds'} h hp=>by
  match ds',h with
  | [x',(d2,b2)],⟨h1,h2,h3,h4,_⟩=>
   have h3:y.1=d2:=h3
   rcases h2 with h2 | ⟨-,h2⟩
   ·exact⟨b2,by rw [h3,<- Prod.ext h1 h2]⟩
   ·rw [hp] at h2; cases h2
 cases hb:Jv op with
 | false=>rw [hb] at hs; rw [<- hs.eq]; exact h
 | true=>
  cases h with
  | sem h1 h2 h3 h4=>exact .sem (fun {cx ρ σ a w o K Q l0} a1 a2 a3=>by
    obtain⟨ds2,a4,a5⟩:=a3
    exact h1 a1 a2 ⟨ds2,hs.trans a4,a5⟩) h2 h3 fun ds2 wr' e a=>h4 ds2 wr' e (hs.trans a)
  | storeT a1 a2 a3 a4 a5 a6=>
   obtain⟨b,rfl⟩:=two hs rfl
   exact .storeT a1 a2 a3 a4 a5 a6
  | storeN a1 a2 a3 a4 a5 a6=>
   obtain⟨b,rfl⟩:=two hs rfl
   exact .storeN a1 a2 a3 a4 a5 a6
  | stoH a1 a2 a3 a4 a5 a6 a7=>
   rw [<- hs.np rfl]
   exact .stoH a1 a2 a3 a4 a5 a6 a7
  | lenV a1=>
   rw [<- hs.np rfl]
   exact .lenV a1
  | lenQ a1 a2=>
   rw [<- hs.np rfl]
   exact .lenQ a1 a2
  | _=>cases hb
theorem ExtR.key {tk:Nat} {op:Op} {ty:TypeId} {ds:List (DV×Option LB)} {env:X8} {wr:List Nat} {E:Ke->Prop} {np:Nat} (h:ExtR P np tk op ty ds env wr E):∀ e,E e->∀ k,e.l k≠none->k∈wr\/(tk<=k/\k < tk + 8):=by
 cases h with
 | sem _ hkey _ _=>exact hkey
 | next=>
  rintro e (⟨-,rfl⟩ | ⟨i,p,-,-,rfl⟩) k hk
  ·exact .inl (List.mem_singleton.2 (Vg hk))
  ·exact .inl (List.mem_singleton.2 (Vg hk))
 | entry=>rintro e rfl k hk; exact absurd rfl hk
 | storeT=>rintro e rfl k hk; exact .inl (List.mem_singleton.2 (Vg hk))
 | appN=>rintro e rfl k hk; have:=O8 hk; simp at this; rcases this with rfl | rfl <;> first | (exact .inr (by omega)) | (exact .inl (List.mem_singleton.2 rfl))
 | appNP=>rintro e rfl k hk; have:=O8 hk; simp at this; rcases this with rfl | rfl <;> first | (exact .inr (by omega)) | (exact .inl (List.mem_singleton.2 rfl))
 | stoH=>rintro e rfl k hk; have:=O8 hk; simp at this; rcases this with rfl | rfl | rfl <;> first | (exact .inr (by omega)) | (exact .inl (by simp))
 | buildT=>rintro e rfl k hk; have:=O8 hk; simp at this; rcases this with rfl | rfl | rfl <;> first | (exact .inr (by omega)) | (exact .inl (by simp))
 | appT=>rintro e rfl k hk; have:=O8 hk; simp at this; rcases this with rfl | rfl | rfl | rfl <;> first | (exact .inr (by omega)) | (exact .inl (by simp))
 | storeN=>rintro e rfl k hk; exact .inl (List.mem_singleton.2 (Vg hk))
 | lenV=>rintro e rfl k hk; exact absurd rfl hk
 | idxA=>rintro e rfl k hk; exact absurd rfl hk
 | lenQ=>rintro e rfl k hk; exact absurd rfl hk
theorem ExtR.sub {tk:Nat} {op:Op} {ty:TypeId} {ds:List (DV×Option LB)} {env:X8} {wr:List Nat} {E:Ke->Prop} {np:Nat} (h:ExtR P np tk op ty ds env wr E):∀ k,k∈wr->k∈env.map (·.1):=by
 cases h with
 | sem _ _ hsub _=>exact hsub
 | next hj=>intro k hk; rw [List.mem_singleton.1 hk]; exact aBy.2 ⟨_,hj,rfl⟩
 | storeT _ _ _ _ _ hm=>intro k hk; rw [List.mem_singleton.1 hk]; exact hm
 | appN _ _ _ _ hm=>intro k hk; rw [List.mem_singleton.1 hk]; exact hm
 | appNP _ _ _ _ _ hm=>intro k hk; rw [List.mem_singleton.1 hk]; exact hm
 | stoH _ _ _ hm hj=>
  intro k hk
  simp at hk
  rcases hk with rfl | rfl
  ·exact hm
  ·exact hj
 | buildT _ _ _ _ _ _ _ _ _ hj=>intro k hk; rw [List.mem_singleton.1 hk]; exact aBy.2 ⟨_,hj,rfl⟩
 | appT _ hL hL'=>
  intro k hk
  simp at hk
  rcases hk with rfl | rfl
  ·exact hL
  ·exact hL'
 | storeN _ _ _ _ _ hm=>intro k hk; rw [List.mem_singleton.1 hk]; exact hm
 | _=>intro k hk; cases hk
theorem I9.no_row:∀ {ks:List (Option Nat)} {ds:List DV} {cs:List C},I9 ks ds cs->∀ d∈ds,∀ j,d≠.row j
 | _,_,_,.nil,d,hd,_=>by cases hd
 | _,_,_,.cons h hs,d,hd,j=>by
  rcases List.mem_cons.1 hd with rfl | hd
  ·rintro rfl; cases h
  ·exact hs.no_row d hd j
theorem ExtR.excl {tk:Nat} {op:Op} {ty:TypeId} {ds:List (DV×Option LB)} {env:X8} {wr wr':List Nat} {e:Ke} {E:Ke->Prop} {np:Nat} (h':E6 P tk op ty ds wr e) (h:ExtR P np tk op ty ds env wr' E):False:=by
 cases h with
 | sem _ _ _ hex=>exact hex _ _ _ (We.refl _ _) h'
 | next=>cases h'
 | entry=>cases h'
 | storeT=>cases h'
 | storeN=>cases h'
 | appN=>cases h' with | append _ ht _ _=>cases ht
 | appNP=>cases h' with | append _ ht _ _=>cases ht
 | stoH=>cases h'
 | @buildT t _ _ x d b e sz o e2 sz2 bytes z r pre post ck1 ck2 c1 c2 c3 j hS hz hlen hd hoc hr hpo h1 h3 hj _=>
  cases h' with
  | buildSl hS' hz' hlen' hd' hk hc ho'=>
   obtain⟨rfl,rfl⟩:=hS.uniq hS'
   obtain rfl:=hz.uniq hz'
   have h4:some r=some _:=hd.symm.trans hd'
   injection h4 with h4
   subst h4
   exact hc.no_row (.row j) (by rw [hr]; simp) j rfl
 | appT hS=>
  cases h' with
  | append _ ht _ _=>cases ht
 | lenV=>
  cases h' with
  | len _ h=>cases h
 | idxA=>cases h'
 | lenQ=>
  cases h' with
  | len _ h=>cases h
end
end Go.Proofs.YtlfeokjhphpjeaaGreat
