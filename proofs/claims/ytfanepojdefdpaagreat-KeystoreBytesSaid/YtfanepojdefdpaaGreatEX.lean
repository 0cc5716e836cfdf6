import Derived.Test.YtfanepojdefdpaaGreatEC
import Derived.Maps.RangeWalk
import Derived.Laws.Externs
import Derived.Lib.Bytealg
import Derived.Lib.AppendZeros
import Derived.Lib.AppendStr
import Derived.Test.YtfanepojdefdpaaGreatPU
set_option linter.unusedVariables false
set_option linter.unusedSimpArgs false
namespace Go.Proofs.YtfanepojdefdpaaGreat
open Go.RowKit
open Go.ChangeMaps (setBlock)
abbrev Sn:=List (Nat×Option LB)
theorem I0 {σ:St} {l:List Nat} {j:Nat} {lb:LB} (h:(j,some lb)∈Ls σ l):σ.L j=some lb:=by
 obtain⟨k,-,hk⟩:=aFr.1 h
 injection hk with h1 h2
 subst h1
 exact h2
section
variable {κ ν:Type} [DecidableEq κ]
omit [DecidableEq κ] in
omit [DecidableEq κ] in
end
section
variable {P:Program} {w:World}
theorem Y1 (r:Nat) (o:Obj):(setBlock w r o).heap.size=w.heap.size:=by simp [setBlock]
theorem V1 {r b:Nat} (o:Obj) (h:b≠r):(setBlock w r o).heap[b]?=w.heap[b]?:=by
 simp [setBlock,aF3,Ne.symm h]
theorem W1 {r:Nat} {o o':Obj} (h:w.heap[r]?=some o'):(setBlock w r o).heap[r]?=some o:=by
 have:=(aEx.1 h).1
 simp [setBlock,aF3,this]
end
def U1 (k0:Nat) (lb:LB) (d:Option DV):K4:=⟨d,fun k=>bif Nat.beq k k0 then some (some lb) else none⟩
section
variable {P:Program} {cx:Cx} {ρ:Nat->Value} {σ:St} {a:Act} {w w':World} {o:Oper} {K:Act->World->Prop} {Q:Exit->Act->World->Prop}
theorem iX (ha:Dr cx ρ σ a w) (hdst:∀ t,o.dst=some t->t < cx.N) {k0:Nat} {lb lb':LB} {d:Option DV} {v:Value} (hL:σ.L k0=some lb) (hrun:(execOp a.eval o).run P w=.ok .skip w'/\v=undef\/(execOp a.eval o).run P w=.ok (.value v) w')
  (hw:w'.os=w.os/\w'.tape=w.tape/\w'.output=w.output/\w'.heap.size=w.heap.size) (hb:∀ b,¬ own ρ (ρ k0) lb b->w'.heap[b]?=w.heap[b]?)
  (hnew:∀ I':Nat->Prop,(∀ b,I4 cx σ ρ w b->I' b/\w'.heap[b]?=w.heap[b]?)->N3 cx ρ I' w' (ρ k0) lb'/\∀ x,d=some x->B7 ρ I' w' x v) (hu:(∀ k',Nq lb' k'->σ.U k'=true)/\∀ x k',d=some x->men x k'->σ.U k'=true)
  (hK:∀ a' w',Jf cx (σ.app o.dst (U1 k0 lb' d)) a' w'->K a' w') (hlb:∀ b,own ρ (ρ k0) lb' b->own ρ (ρ k0) lb b:=by exact fun _ h=>h):o.wp P a w K Q:=by
 have hl:∀ k lb1,(U1 k0 lb' d).l k=some (some lb1)->k=k0/\lb1=lb':=fun k lb1 h=>by
  have h':(bif Nat.beq k k0 then some (some lb') else none)=some (some lb1):=h
  cases hb:Nat.beq k k0 with
  | true=>
   rw [hb] at h'
   injection h' with h'
   injection h' with h'
   exact⟨aDr hb,h'.symm⟩
  | false=>rw [hb] at h'; cases h'
 have hl0:(U1 k0 lb' d).l k0≠none:=by
  have:(U1 k0 lb' d).l k0=bif Nat.beq k0 k0 then some (some lb') else none:=rfl
  rw [this]; simp
 obtain⟨c1,c2,c3,c4,c5⟩:=ha.kept
 obtain⟨w1,w2,w3,w4⟩:=hw
 have key:Jf cx (σ.app o.dst (U1 k0 lb' d)) (a.put o.dst v) w':=by
  refine⟨ρ,ha.app (v:=v) ⟨w1.trans c1,w2.trans c2,w3.trans c3,by rw [w4]; exact c4,fun b hb' hM=>?_⟩ (by rw [w4]; exact aFf _) hdst (fun _ _=>rfl) (fun b _ h=>hb b fun e=>h k0 lb hl0 hL e) (fun k lb1 b h1 h2=>?_) (fun k k' lb1 lb2 b h1 h2 _ _=>by rw [(hl k lb1 h1).1,(hl k' lb2 h2).1]) (fun hI _=>?_) ⟨fun k lb1 k' h1 h2=>?_,fun d' k' h1 h2=>?_⟩ (fun k lb1 b h1 h2 h3=>by obtain⟨rfl,rfl⟩:=hl k lb1 h1; exact ha.fresh k lb b hL h2 (hlb b h3))⟩
  ·refine (hb b fun e=>?_).trans (c5 b hb' hM)
   rcases ((ha.lo k0 lb hL).blk e).2 with h | h
   ·omega
   ·exact hM h
  ·obtain⟨rfl,rfl⟩:=hl k lb1 h1
   exact .inr ⟨k,lb,hl0,hL,hlb b h2⟩
  ·obtain⟨n1,n2⟩:=hnew _ hI
   refine⟨fun k lb1 h=>?_,fun d' hd'=>n2 d' hd'⟩
   obtain⟨rfl,rfl⟩:=hl k lb1 h
   exact n1
  ·obtain⟨rfl,rfl⟩:=hl k lb1 h1
   exact .inl (hu.1 k' h2)
  ·exact .inl (hu.2 d' k' h1 h2)
 unfold Oper.wp
 rcases hrun with ⟨hrun,rfl⟩ | hrun
 ·rw [hrun]
  exact hK _ _ key
 ·rw [hrun]
  exact hK _ _ key
end
def vT (P:Program) (e:TypeId) (zc:List C):Prop:=∃ z ck,Zt P e z/\Ib ck (z.map DV.val) zc
def Jh (el:List (Nat×Option LB)) (d:Option DV):K4:=⟨d,D5 el⟩
def sK (sz o p m:Nat):Prop:=∀ q,p<=q->q < p + m->q % sz≠o
inductive ExtR (P:Program) (np:Nat):Nat->Op->TypeId->List (DV×Option LB)->Sn->List Nat->(K4->Prop)->Prop
 | next {tk x ty env j k b n seen l} (hj:(j,some (.mit k n seen))∈env) (hm:(k,some (.map l))∈env) (hn:n=l.length) :
  ExtR P np tk (.next x false) ty [(.ptr j 0,b)] env [j] (fun e=>((∀ i,i < n->i∈seen)/\e=U1 j (.mit k n seen) (some (.tup [.val (.bool false)])))\/∃ i p,l[i]?=some p/\i∉seen/\e=U1 j (.mit k n (seen ++ [i])) (some (.tup [.val (.bool true),.val p.1,.val p.2])))
 | entry {tk x ty env j k b n seen i l p} (hj:(j,some (.mit k n (seen ++ [i])))∈env) (hm:(k,some (.map l))∈env) (hn:n=l.length) (hp:l[i]?=some p) :
  ExtR P np tk (.entry x) ty [(.ptr j 0,b)] env [] (fun e=>e=v0 (.tup [.val p.1,.val p.2]))
 | copyR {tk t t' x y ty env k b d' e sz bytes cs cs' n} (hS:Ij P t e sz bytes) (hS':Ij P t' e sz bytes) (hL:(k,some (.row e sz cs))∈env) (hs:∃ b',d'=(DV.sl sz cs',b')) (hn:cs.length=n * sz) (hn':cs'.length=n * sz) :
  ExtR P np tk (.call ⟨.builtin .copy,#[x,y],#[t,t']⟩) ty [(.row k,b),d'] env [k] (fun e'=>e'=U1 k (.row e sz cs') (some (.val (.int .i64 (n:Int)))))
 | makeC {tk t x y ty env e sz bytes k k' n c b b' zc} {m:Nat} (hS:Ij P t e sz bytes) (hz:vT P e zc) (hn:n=(m:Int)) {cap:Nat} (hc:c=(cap:Int)) (hlt:m<=cap) (hxy:x≠y) (hm:cap * bytes<=140737488355328/\cap<=1000000) :
  ExtR P np tk (.makeSlice t x y) ty [(.val (.int k n),b),(.val (.int k' c),b')] env [] (fun e'=>e'=S8 tk (.row e sz (List.replicate m zc).flatten) (.row tk))
 | lenV {tk t x ty env k ds e bytes} (hS:Ij P t e 1 bytes):ExtR P np tk (.call ⟨.builtin .len,#[x],#[t]⟩) ty [(.row k,some (.vec ds e))] env [] (fun e'=>e'=v0 (.val (.int .i64 (ds.length:Int))))
 | storeT {tk t x y ty env k p e sz o e2 sz2 s hh cs z ag d b cs'} (ht:Ty P t ag z) (hs:(Cn d).length=z) (hi:p + z<=cs.length) (hf:sK sz o p z) {ck:List (Option Nat)} (hd:Ib ck (Cn d) cs') (hk:k∈env.map (·.1)):ExtR P np tk (.store t x y) ty [(.ptr k p,some (.tree e sz o e2 sz2 s hh cs)),(d,b)] env [k] (fun e'=>e'=U1 k (.tree e sz o e2 sz2 s hh (Co cs p cs')) none)
 | storeN {tk t x y ty env k s i p e sz o e2 sz2 cs z ag d b cs' c2} (ht:Ty P t ag z) (hc:cs[i * sz + o]?=some (.sl sz2 c2)) (hs:(Cn d).length=z) (hi:p + z<=c2.length) {ck:List (Option Nat)} (hd:Ib ck (Cn d) cs') (hk:k∈env.map (·.1)):ExtR P np tk (.store t x y) ty [(.npt k s i p,some (.tree e sz o e2 sz2 s none cs)),(d,b)] env [k] (fun e'=>e'=U1 k (.tree e sz o e2 sz2 s none (cs.set (i * sz + o) (.sl sz2 (Co c2 p cs')))) none)
 | appN {tk x y t ty env k s i e sz o e2 sz2 cs c2 bytes d' cs'} (hS:Ij P t e2 sz2 bytes) (hc:cs[i * sz + o]?=some (.sl sz2 c2)) (hs:X3 d' sz2 cs') (hl:(c2.length + cs'.length) * bytes<=140737488355328) (hk:k∈env.map (·.1)) (hnp:Nat.ble np k=true) :
  ExtR P np tk (.call ⟨.builtin .append,#[x,y],#[t,t]⟩) ty [(.nst k s i,some (.tree e sz o e2 sz2 s none cs)),d'] env [k] (fun e'=>e'=Jh [(tk,some (.row e2 sz2 (c2 ++ cs'))),(k,some (.tree e sz o e2 sz2 s (some i) cs))] (some (.row tk)))
 | stoH {tk t x y ty env k p s i e sz o e2 sz2 cs c2 j} (ht:Ty P t false 1) (hp:p=i * sz + o) (hl:p < cs.length) (hk:k∈env.map (·.1)) (hj:j∈env.map (·.1)) (hnp:Nat.ble np k=true) (hnj:Nat.ble np j=true) :
  ExtR P np tk (.store t x y) ty [(.ptr k p,some (.tree e sz o e2 sz2 s (some i) cs)),(.row j,some (.row e2 sz2 c2))] env [k,j] (fun e'=>e'=Jh [(k,some (.tree e sz o e2 sz2 tk none (cs.set p (.sl sz2 c2)))),(tk,some .gho),(j,none)] none)
 | buildT {tk t ty env x d b e sz o e2 sz2 bytes z r pre post ck1 ck2 c1 c2 c3 j} (hS:Ij P t e sz bytes) (hz:Zt P e z) (hlen:1 * sz<=16777216) (hd:Ia (fun i=>some (i * sz,sz)) ((List.replicate 1 (z.map DV.val)).flatten) [(0,d)]=some r) (hoc:(Cn d).all T8=true)
  (hr:r=pre ++ .row j :: post) (ho:pre.length=o) (h1:Ib ck1 pre c1) (h3:Ib ck2 post c3) (hj:(j,some (.row e2 sz2 c2))∈env) (hnp:Nat.ble np j=true) :
  ExtR P np tk (.buildSlice t 1 #[(0,x)]) ty [(d,b)] env [j] (fun e'=>e'=Jh [(tk,some (.tree e sz o e2 sz2 (tk + 1) none (c1 ++ .sl sz2 c2 :: c3))),(tk + 1,some .gho),(j,none)] (some (.row tk)))
 | appT {tk x y t ty env k s k' s' e sz o e2 sz2 cs cs' bytes} (hS:Ij P t e sz bytes) (hk:k∈env.map (·.1)) (hk':k'∈env.map (·.1)) (hne:Nat.beq k k'=false) (hl:(cs.length + cs'.length) * bytes<=140737488355328) (hnp:Nat.ble np k=true) (hnp':Nat.ble np k'=true) :
  ExtR P np tk (.call ⟨.builtin .append,#[x,y],#[t,t]⟩) ty [(.row k,some (.tree e sz o e2 sz2 s none cs)),(.row k',some (.tree e sz o e2 sz2 s' none cs'))] env [k,k'] (fun e'=>e'=Jh [(tk,some (.tree e sz o e2 sz2 (tk + 1) none (cs ++ cs'))),(tk + 1,some .gho),(k,none),(k',none)] (some (.row tk)))
 | idxA {tk t x i ty env cs kk b1 b2 n m e} {j:Nat} (ht:P.underlying t=some (.array m e)) (he:Ty P e false 1) (hj:n=(j:Int)) (hm:j < m):ExtR P np tk (.indexAddr t x i) ty [(.elt cs,b1),(.val (.int kk n),b2)] env [] (fun e'=>e'=v0 (.elt (cs.drop j)))
 | lenQ {tk t x ty env k e e' sz bytes cs n} (hS:Ij P t e sz bytes) (hn:cs.length=n * sz):ExtR P np tk (.call ⟨.builtin .len,#[x],#[t]⟩) ty [(.row k,some (.que e' sz cs))] env [] (fun e'=>e'=v0 (.val (.int .i64 (n:Int))))
 
 | sem {tk op ty ds env wr E} (hs:∀ {cx:Cx} {ρ:Nat->Value} {σ:St} {a:Act} {w:World} {o:Oper} {K:Act->World->Prop} {Q:Exit->Act->World->Prop} {l0:List Nat},np=cx.np->Dr cx ρ σ a w->(∃ ds',Hj (Ie op) ds ds'/\Ey σ (I3 op) op.operands.toList=some ds')->env=Ls σ l0->(∀ j,j < 8->σ.U (tk + j)=false)->o.op=op->(∀ t,o.dst=some t->t < cx.N)->(∀ e a' w',E e->Jf cx (σ.app o.dst e) a' w'->K a' w')->o.wp P a w K Q)
  (hkey:∀ e,E e->∀ k,e.l k≠none->k∈wr\/(tk<=k/\k < tk + 8)) (hsub:∀ k,k∈wr->k∈env.map (·.1)) (hex:∀ ds' wr' e,Hj (Ie op) ds ds'->¬ Fv P tk op ty ds' wr' e):ExtR P np tk op ty ds env wr E
section
variable {P:Program} {cx:Cx} {ρ:Nat->Value} {σ:St} {a:Act} {w w':World} {o:Oper} {K:Act->World->Prop} {Q:Exit->Act->World->Prop}
theorem K8 {α:Type} (l xs:List α) (i:Nat) (h:i + xs.length<=l.length):(Co l i xs).length=l.length:=by
 unfold Co
 simp only [aDw,aDy,aD1]
 omega
theorem eY {I:Nat->Prop} {v:Value} {e s i g:Nat} {cs cs':List C} {us':List Value} (hw:N3 cx ρ I w v (.row e s cs)) (D:Br v=some g) (hr':Fb w I cs' us') (h1:∀ u∈us',u.oneCell'=true) (hi:i + cs'.length<=cs.length) :
  ∃ X:Array Value,(storeCells ⟨g,i,none⟩ us').run P w=.ok () (w.setRow g X)/\∀ I':Nat->Prop,(∀ b,I b->I' b/\(w.setRow g X).heap[b]?=w.heap[b]?)->N3 cx ρ I' (w.setRow g X) v (.row e s (Co cs i cs')):=by
 obtain⟨n,us,hw,hM,hr⟩:=hw
 rcases hw.2 with ⟨A0,q1,-⟩ | ⟨g',cap,cur,q1,q2,q3,q4,q5,q6,q7⟩
 ·rw [q1] at D; cases A0 <;> cases D
 ·have hgg:g'=g:=by rw [q1] at D; exact (Ft D).1
  subst hgg
  have hul:us.length=n * s:=hw.1
  have hcl:cs.length=us.length:=hr.1
  have hcl':cs'.length=us'.length:=hr'.1
  have hn:n * s<=cap * s:=aFu _ q4
  have hrun:=run_storeCells_at P g' i e us' 0 cur w q3 (by omega) h1
  simp only [aGz] at hrun
  refine⟨_,hrun,fun I' hI=>?_⟩
  have hlen:∀ {α:Type} (l xs:List α),i + xs.length<=l.length->(Co l i xs).length=l.length:=fun l xs h=>K8 l xs i h
  have hcur:cur.toList.length=cap * s:=by simpa using q6
  refine⟨n,Co us i us',⟨by rw [hlen us us' (by omega)]; exact hul,.inr ⟨g',cap,(Co cur.toList i us').toArray,q1,q2,setRow_heap w g' _ _ e (0,0) q3,q4,q5,?_,?_⟩⟩,hM,?_⟩
  ·simp only [aHk]
   rw [hlen cur.toList us' (by omega)]
   simpa using q6
  ·unfold Co
   have e3:us.take i=cur.toList.take i:=by rw [<- q7,aH7]; congr 1; omega
   have e4:us.drop (i + us'.length)=(cur.toList.drop (i + us'.length)).take (n * s - (i + us'.length)):=by rw [<- q7,List.drop_take]
   rw [e3,e4]
   rw [aIe,aFd (by simp only [aDw,aDy]; omega)]
   congr 1
   congr 1
   simp only [aDw,aDy]
   omega
  ·exact (hr.splice hr' i).keep_ (fun b hb=>(hI b hb).2) fun b hb=>(hI b hb).1
theorem Ra {t:TypeId} {ag:Bool} {z:Nat} (ht:Ty P t ag z) {e sz n g p:Nat} {v v':Value} {us us':List Value} (ho:w.rowOk e sz v n us) (D:Br v=some g) (hv:v'.cells.toList=us') (hl:us'.length=z) (hi:p + z<=us.length) (h1:∀ u∈us',u.oneCell'=true) :
  ∃ X,(Instr.storeAt t (.pointer (some ⟨g,p,none⟩)) v').run P w=.ok () (w.setRow g X)/\(w.setRow g X).rowOk e sz v n (Co us p us'):=by
 rcases ho.2 with ⟨A0,q1,-⟩ | ⟨g',cap,cur,q1,q2,q3,q4,q5,q6,q7⟩
 ·rw [q1] at D; cases A0 <;> cases D
 ·have hgg:g'=g:=by rw [q1] at D; exact (Ft D).1
  subst hgg
  have hul:us.length=n * sz:=ho.1
  have hn:n * sz<=cap * sz:=aFu _ q4
  have hrun:=Un (P:=P) (w:=w) ht (i:=p) q3 hv hl (by omega) h1
  refine⟨_,hrun,by rw [K8 us us' p (by omega)]; exact hul,.inr ⟨g',cap,(Co cur.toList p us').toArray,q1,q2,setRow_heap w g' _ _ e (0,0) q3,q4,q5,?_,?_⟩⟩
  ·simp only [aHk]
   rw [K8 cur.toList us' p (by simp; omega)]
   simpa using q6
  ·have hcur:cur.toList.length=cap * sz:=by simpa using q6
   unfold Co
   have e3:us.take p=cur.toList.take p:=by rw [<- q7,aH7]; congr 1; omega
   have e4:us.drop (p + us'.length)=(cur.toList.drop (p + us'.length)).take (n * sz - (p + us'.length)):=by rw [<- q7,List.drop_take]
   rw [e3,e4]
   rw [aIe,aFd (by simp only [aDw,aDy]; omega)]
   congr 1
   congr 1
   simp only [aDw,aDy]
   omega
theorem O2 {α:Type} {l xs:List α} {i j:Nat} (h:i + xs.length<=l.length) (hj:j < i\/i + xs.length<=j):(Co l i xs)[j]?=l[j]?:=by
 unfold Co
 rcases hj with hj | hj
 ·rw [aFv,aE3 (by simp; omega),aE9,if_pos hj]
 ·rw [aE0 (by simp; omega),aE8]
  congr 1
  simp
  omega
theorem Oz.flatW {I:Nat->Prop} {v:Value} {e sz o e2 sz2 s hh cs n us vs} (q:Oz cx ρ I w v e sz o e2 sz2 s hh cs n us vs) {g p:Nat} {cs':List C} {us':List Value} (D:Br v=some g) {X:Array Value} (ho:(w.setRow g X).rowOk e sz v n (Co us p us')) (hr:Fb w I cs' us') (hi:p + cs'.length<=cs.length) (hf:sK sz o p cs'.length)
  {I':Nat->Prop} (hI:∀ b,I b->I' b/\(w.setRow g X).heap[b]?=w.heap[b]?):Oz cx ρ I' (w.setRow g X) v e sz o e2 sz2 s hh (Co cs p cs') n (Co us p us') vs:=by
 have hl:=hr.1
 have hl2:=q.hl
 refine⟨q.ho,q.hs,ho,q.hn,by rw [K8 _ _ _ hi,K8 _ _ _ (by omega)]; exact q.hl,q.hM,fun j c u hj hu hjo=>?_,fun i u a b=>?_,q.dist⟩
 ·by_cases hin:p<=j/\j < p + cs'.length
  ·have e1:(Co cs p cs')[j]?=cs'[j - p]?:=by
    unfold Co
    rw [aFv,aE0 (by simp; omega),aE3 (by simp; omega)]
    congr 1
    simp; omega
   have e2:(Co us p us')[j]?=us'[j - p]?:=by
    unfold Co
    rw [aFv,aE0 (by simp; omega),aE3 (by simp; omega)]
    congr 1
    simp; omega
   rw [e1] at hj
   rw [e2] at hu
   exact D3.keep_ (fun b hb=>(hI b hb).2) (fun b hb=>(hI b hb).1) _ _ (hr.2 _ c u hj hu)
  ·rw [O2 hi (by omega)] at hj
   rw [O2 (by omega) (by omega)] at hu
   exact D3.keep_ (fun b hb=>(hI b hb).2) (fun b hb=>(hI b hb).1) _ _ (q.flat j c u hj hu hjo)
 ·obtain⟨q0,n2,us2,c2,q1,q2,q3,q4⟩:=q.nest i u a b
  have hmod:(i * sz + o) % sz=o:=by rw [aGj,aG8]; exact aFc q.ho
  have hout:i * sz + o < p\/p + cs'.length<=i * sz + o:=by
   rcases aF4 (i * sz + o) p with h | h
   ·exact .inl h
   ·rcases aF4 (i * sz + o) (p + cs'.length) with h2 | h2
    ·exact absurd hmod (hf _ h h2)
    ·exact .inr h2
  refine⟨by rw [O2 (by omega) (by omega)]; exact q0,n2,us2,c2,by rw [O2 hi hout]; exact q1,E9 q2 fun b hb=>E6 w g b X fun e=>(q4 b hb).2 (by rw [e]; exact D),q3.keep_ (fun b hb=>(hI b hb).2) fun b hb=>(hI b hb).1,q4⟩
theorem Oz.nestW {I:Nat->Prop} {v:Value} {e sz o e2 sz2 s cs n us vs} (q:Oz cx ρ I w v e sz o e2 sz2 s none cs n us vs) {g i n2:Nat} {u:Value} {us2:List Value} {c2:List C} (hu:vs[i]?=some u) (D:Br u=some g) {X:Array Value} (ho:(w.setRow g X).rowOk e2 sz2 u n2 us2)
  {I':Nat->Prop} (hI:∀ b,I b->I' b/\(w.setRow g X).heap[b]?=w.heap[b]?) (hr:Fb (w.setRow g X) I' c2 us2):Oz cx ρ I' (w.setRow g X) v e sz o e2 sz2 s none (cs.set (i * sz + o) (.sl sz2 c2)) n us vs:=by
 have hmod:∀ i,(i * sz + o) % sz=o:=fun i=>by rw [aGj,aG8]; exact aFc q.ho
 obtain⟨p0,_,_,c0,p1,p2,p3,p4⟩:=q.nest i u hu (by simp)
 refine⟨q.ho,q.hs,E9 q.row fun b hb=>E6 w g b X fun e=>(p4 g D).2 (by rw [<- e]; exact hb),q.hn,by rw [aHg]; exact q.hl,q.hM,fun j c u' hj hu' hjo=>?_,fun j u' a b=>?_,q.dist⟩
 ·rw [aF1 (fun e=>hjo (by rw [<- e]; exact hmod i))] at hj
  exact D3.keep_ (fun b hb=>(hI b hb).2) (fun b hb=>(hI b hb).1) _ _ (q.flat j c u' hj hu' hjo)
 ·by_cases hij:j=i
  ·subst hij
   rw [hu] at a
   injection a with a
   subst a
   exact⟨p0,n2,us2,c2,aGk (aBw.1 p1).1,ho,hr,p4⟩
  ·obtain⟨q0,n3,us3,c3,q1,q2,q3,q4⟩:=q.nest j u' a b
   have hsz:0 < sz:=aGr (aFb _) q.ho
   refine⟨q0,n3,us3,c3,by rw [aF1 (fun e=>hij (aD6 hsz (aG7 e)).symm)]; exact q1,E9 q2 fun b hb=>E6 w g b X fun e=>?_,q3.keep_ (fun b hb=>(hI b hb).2) fun b hb=>(hI b hb).1,q4⟩
   exact hij (q.dist j i u' u g a hu (by simp) (by simp) (by rw [<- e]; exact hb) D)
theorem uE {I:Nat->Prop} {x y:Value} (hx:Fr x=true) (hy:Fr y=true):B7 ρ I w (.tup [.val x,.val y]) (.tuple #[x,y]):=by
 unfold B7
 refine⟨[x,y],rfl,?_⟩
 unfold Bk
 refine⟨x,[y],rfl,Jg hx,?_⟩
 unfold Bk
 refine⟨y,[],rfl,Jg hy,?_⟩
 unfold Bk
 rfl
theorem oU {I:Nat->Prop} {x y z:Value} (hx:Fr x=true) (hy:Fr y=true) (hz:Fr z=true):B7 ρ I w (.tup [.val x,.val y,.val z]) (.tuple #[x,y,z]):=by
 unfold B7
 refine⟨[x,y,z],rfl,?_⟩
 unfold Bk
 refine⟨x,[y,z],rfl,Jg hx,?_⟩
 unfold Bk
 refine⟨y,[z],rfl,Jg hy,?_⟩
 unfold Bk
 refine⟨z,[],rfl,Jg hz,?_⟩
 unfold Bk
 rfl
theorem pL {I:Nat->Prop} {x:Value} (hx:Fr x=true):B7 ρ I w (.tup [.val x]) (.tuple #[x]):=by
 unfold B7
 refine⟨[x],rfl,?_⟩
 unfold Bk
 refine⟨x,[],rfl,Jg hx,?_⟩
 unfold Bk
 rfl
theorem Ya:∀ (l:List Value) (k:Nat),men (.tup (l.map DV.val)) k->False:=fun l k h=>Mn l k (by unfold men at h; exact h)
theorem aCi {e sz:Nat} {zc:List C} (h:vT P e zc) {t bytes:Nat} (hS:Ij P t e sz bytes) (w:World) (I:Nat->Prop) (m:Nat):∃ z:Value,(zeroValue e).run P w=.ok z w/\z.cells.size=sz/\zc.length=sz/\Fb w I (List.replicate m zc).flatten (List.replicate m z.cells.toList).flatten/\(∀ u∈z.cells.toList,u.oneCell'=true)/\(∃ it,P.info? e=some it/\it.zero=some z/\it.size=sz/\it.bytes=bytes):=by
 obtain⟨z,ck,hz,hd⟩:=h
 obtain⟨it,zv,z1,z2,z3,z4⟩:=hz.get
 obtain⟨it',zv',y1,y2,y3,y4,y5⟩:=hS.hi
 rw [z1] at y1
 injection y1 with y1
 subst y1
 rw [z2] at y2
 injection y2 with y2
 subst y2
 have hr:Fb w I zc z:=Ib.rd (ρ:=fun _=>.nilFunc) hd (Bk.ofVals _ fun u hu=>(z4 u hu).2)
 have hl:zc.length=sz:=by rw [hr.1,<- z3]; simpa using y5
 refine⟨zv,by simp [zeroValue,typeInfo,z1,z2],y5,hl,?_,fun u hu=>(z4 u (by rw [<- z3]; exact hu)).1,it,z1,z2,y3,y4⟩
 rw [z3]
 induction m with
 | zero=>exact⟨rfl,fun j c u h _=>by simp at h⟩
 | succ m ih=>
  rw [aGw,aGw,aHl,aHl]
  exact hr.append ih
theorem C3 {el:List (Nat×Option LB)} {k:Nat} (h:(k∈el.map (·.1))):D5 el k≠none:=by
 induction el with
 | nil=>simp at h
 | cons q l ih=>
  obtain⟨k',x⟩:=q
  unfold D5
  cases hb:Nat.beq k k' with
  | true=>simp
  | false=>
   simp only [aCc]
   rw [aFl,aE1] at h
   rcases h with h | h
   ·have h:k=k':=h
    rw [h,aGp] at hb
    cases hb
   ·exact ih h
theorem mW {v:Value} {e sz o e2 sz2 s:Nat} {h:Option Nat} {cs cs':List C} {h':Option Nat} (hh:∀ i,h≠some i->h'≠some i) {b:Nat} (hb:own ρ v (.tree e sz o e2 sz2 s h cs) b):own ρ v (.tree e sz o e2 sz2 s h' cs') b:=by
 rcases hb with hb | ⟨vs,i,u,h1,h2,h3,h4⟩
 ·exact .inl hb
 ·exact .inr ⟨vs,i,u,h1,h2,hh i h3,h4⟩
theorem xM {x y:Operand} {t e e2:TypeId} {k s i sz o' sz2 bytes tk:Nat} {cs c0 c2 cs':List C} {d0:DV} {d':DV×Option LB} (hS:Ij P t e2 sz2 bytes) (hc:cs[i * sz + o']?=some (.sl sz2 c0)) (hs:X3 d' sz2 cs') (hl:(c2.length + cs'.length) * bytes<=140737488355328) (hnp:cx.np<=k) (hL:σ.L k=some (.tree e sz o' e2 sz2 s none cs))
  (hpart:∃ vs u,ρ s=.tuple vs/\vs[i]?=some u/\(∀ n us,w.rowOk e2 sz2 u n us->Fb w (I4 cx σ ρ w) c0 us->∃ n2 us2,w.rowOk e2 sz2 (a.eval x) n2 us2/\Fb w (I4 cx σ ρ w) c2 us2)/\∀ b,Br (a.eval x)=some b->Br u=some b)
  (ha:Dr cx ρ σ a w) (hds:Ey σ true [x,y]=some [(d0,some (.tree e sz o' e2 sz2 s none cs)),d']) (ho:o.op=.call ⟨.builtin .append,#[x,y],#[t,t]⟩) (hf:σ.U tk=false) (hdst:∀ t,o.dst=some t->t < cx.N)
  (hK:∀ a' w',Jf cx (σ.app o.dst (Jh [(tk,some (.row e2 sz2 (c2 ++ cs'))),(k,some (.tree e sz o' e2 sz2 s (some i) cs))] (some (.row tk)))) a' w'->K a' w'):o.wp P a w K Q:=by
 obtain⟨e1,e2'⟩:=K6 hds
 obtain⟨vs',u0,r1,r2,hpt,hpu⟩:=hpart
 obtain⟨n,us,vs,q⟩:=ha.lo _ _ hL
 have e0:=q.hs.symm.trans r1
 injection e0 with e0
 subst e0
 obtain⟨p0,n0,us0,c1,p1,p2',p3',p4⟩:=q.nest i _ r2 (by simp)
 rw [hc] at p1
 injection p1 with p1
 injection p1 with _ p1
 subst p1
 obtain⟨n2,us2,p2,p3⟩:=hpt _ _ p2' p3'
 obtain⟨A,m,c,us',hv',hl',hr',hA⟩:=hs.vals ha e2'
 obtain⟨v',w',hrun,g2,g3,g4,hsl⟩:=Q6 (P:=P) (ty:=o.type) hS p2 (A:=A) (m:=m) (c:=c) hl' (hD hr') hA (by rw [<- p3.1,<- hr'.1]; exact hl)
 have hkU:σ.U k=true:=(ha.usedL _ _ hL).1
 have hsU:σ.U s=true:=(ha.usedL _ _ hL).2 s rfl
 have hne:k≠tk:=fun h=>by rw [h,hf] at hkU; cases hkU
 have hrtk:H3 ρ tk v' tk=v':=by simp [H3]
 have hro:∀ j,σ.U j=true->H3 ρ tk v' j=ρ j:=fun j hj=>by
  unfold H3
  split
  ·rename_i h; subst h; rw [hf] at hj; cases hj
  ·rfl
 have hold:∀ b,Br (a.eval x)=some b->own ρ (ρ k) (.tree e sz o' e2 sz2 s none cs) b:=fun b hb=>.inr ⟨vs,i,_,q.hs,r2,by simp,hpu b hb⟩
 have hoc:∀ b,own (H3 ρ tk v') (H3 ρ tk v' k) (.tree e sz o' e2 sz2 s (some i) cs) b->own ρ (ρ k) (.tree e sz o' e2 sz2 s (some i) cs) b:=fun b hb=>by
  rw [hro k hkU] at hb
  exact N5 (fun j hj=>(hro j ((ha.usedL _ _ hL).2 j hj)).symm) hb
 have hoc':∀ b,own ρ (ρ k) (.tree e sz o' e2 sz2 s (some i) cs) b->own ρ (ρ k) (.tree e sz o' e2 sz2 s none cs) b:=fun b=>mW (fun _ _=>by simp)
 have hlk:∀ k' x,D5 [(tk,some (LB.row e2 sz2 (c2 ++ cs'))),(k,some (LB.tree e sz o' e2 sz2 s (some i) cs))] k'=some x->(k'=tk/\x=some (.row e2 sz2 (c2 ++ cs')))\/(k'=k/\x=some (.tree e sz o' e2 sz2 s (some i) cs)):=fun k' x h=>by
  have:=E4 h
  simpa using this
 have hno:∀ b,Br v'=some b->own ρ (ρ k) (.tree e sz o' e2 sz2 s (some i) cs) b->False:=fun b hb hb2=>by
  rcases g4 b hb with h | h
  ·rcases hb2 with h5 | ⟨vs2,j,u2,a1,a2,a3,a4⟩
   ·exact (p4 b (hpu b h)).2 h5
   ·have e0:=q.hs.symm.trans a1
    injection e0 with e0
    subst e0
    exact a3 (by rw [q.dist i j _ u2 b r2 a2 (by simp) (by simp) (hpu b h) a4])
  ·have:=((ha.lo _ _ hL).blk (hoc' b hb2)).1
   omega
 have hbase:∀ g,Br (a.eval x)=some g->cx.w0.heap.size<=g\/cx.M g:=fun g D=>(p4 g (hpu g D)).1
 unfold Oper.wp
 rw [show (execOp a.eval o).run P w=.ok (.value v') w' by simp [execOp,ho,resolve,invoke,builtin,hv',hrun]]
 refine hK _ _ ⟨H3 ρ tk v',ha.app (v:=v') (ha.kept.grown g3 hbase) g3.size hdst hro (fun b hb h=>g3.block b hb fun e=>h k _ (C3 (by simp)) hL (hold b e.symm)) (fun k' lb b h1 h2=>?_) (fun k1 k2 lb lb' b h1 h2 h3 h4=>?_) (fun hI hI2=>⟨fun k' lb h=>?_,fun d hd=>?_⟩) ⟨fun k' lb k2 h1 h2=>?_,fun d k' h1 h2=>?_⟩ (fun k' lb b h1 h2 h3=>?_)⟩
 ·rcases hlk k' _ h1 with ⟨rfl,h5⟩ | ⟨rfl,h5⟩
  ·injection h5 with h5
   subst h5
   rw [hrtk] at h2
   rcases g4 b h2 with h | h
   ·exact .inr ⟨k,_,C3 (by simp),hL,hold b h⟩
   ·exact .inl h
  ·injection h5 with h5
   subst h5
   exact .inr ⟨k',_,C3 (by simp),hL,hoc' b (hoc b h2)⟩
 ·rcases hlk k1 _ h1 with ⟨rfl,h5⟩ | ⟨rfl,h5⟩ <;> rcases hlk k2 _ h2 with ⟨rfl,h6⟩ | ⟨rfl,h6⟩
  ·rfl
  ·injection h5 with h5
   injection h6 with h6
   subst h5 h6
   rw [hrtk] at h3
   exact (hno b h3 (hoc b h4)).elim
  ·injection h5 with h5
   injection h6 with h6
   subst h5 h6
   rw [hrtk] at h4
   exact (hno b h4 (hoc b h3)).elim
  ·rfl
 ·rcases hlk k' _ h with ⟨rfl,h5⟩ | ⟨rfl,h5⟩
  ·injection h5 with h5
   subst h5
   rw [hrtk]
   refine⟨n2 + m,us2 ++ us',g2,fun b hb=>?_,(p3.append hr').keep_ (fun b hb=>(hI b hb).2) fun b hb=>(hI b hb).1⟩
   rcases g4 b hb with h4 | h4
   ·exact hbase b h4
   ·exact .inl (aFj ha.kept.2.2.2.1 h4)
  ·injection h5 with h5
   subst h5
   rw [hro k' hkU]
   refine⟨n,us,vs,q.ho,(hro s hsU).trans q.hs,E9 q.row fun b hb=>g3.block b (Ho q.row hb) fun e=>(p4 b (hpu b e.symm)).2 hb,q.hn,q.hl,q.hM,fun j c u b1 b2 b3=>D3.keep_ (fun b hb=>(hI b hb).2) (fun b hb=>(hI b hb).1) _ _ (q.flat j c u b1 b2 b3),fun j u2 b1 b2=>?_,fun j1 j2 u1 u2 b b1 b2 _ _ b3 b4=>q.dist j1 j2 u1 u2 b b1 b2 (by simp) (by simp) b3 b4⟩
   obtain⟨q0,n3,us3,c3,q1,q2,q3,q4⟩:=q.nest j u2 b1 (by simp)
   exact⟨q0,n3,us3,c3,q1,E9 q2 fun b hb=>g3.block b (Ho q2 hb) fun e=>b2 (by rw [q.dist i j _ u2 b r2 b1 (by simp) (by simp) (hpu b e.symm) hb]),q3.keep_ (fun b hb=>(hI b hb).2) fun b hb=>(hI b hb).1,q4⟩
 ·injection hd with hd
  subst hd
  unfold B7
  obtain⟨A2,n2',c2',rfl⟩:=hsl
  simp [H3,Value.oneCell']
 ·rcases hlk k' _ h1 with ⟨rfl,h5⟩ | ⟨rfl,h5⟩
  ·injection h5 with h5
   subst h5
   exact h2.elim
  ·injection h5 with h5
   subst h5
   exact .inl ((ha.usedL _ _ hL).2 k2 h2)
 ·injection h1 with h1
  subst h1
  unfold men at h2
  subst h2
  exact .inr (C3 (by simp))
 ·rcases hlk k' _ h1 with ⟨rfl,h5⟩ | ⟨rfl,h5⟩
  ·injection h5 with h5
   subst h5
   rw [hrtk] at h3
   rcases g4 b h3 with h4 | h4
   ·exact ha.fresh k _ b hL hnp (hold b h4)
   ·exact .inl (aFj ha.kept.2.2.2.1 h4)
  ·injection h5 with h5
   subst h5
   exact ha.fresh k' _ b hL hnp (hoc' b (hoc b h3))
theorem aA8 {x y:Operand} {t e e2:TypeId} {k s i sz o' sz2 bytes tk:Nat} {cs c2 cs':List C} {d':DV×Option LB} (hS:Ij P t e2 sz2 bytes) (hc:cs[i * sz + o']?=some (.sl sz2 c2)) (hs:X3 d' sz2 cs') (hl:(c2.length + cs'.length) * bytes<=140737488355328) (hnp:cx.np<=k)
  (ha:Dr cx ρ σ a w) (hds:Ey σ true [x,y]=some [(.nst k s i,some (.tree e sz o' e2 sz2 s none cs)),d']) (ho:o.op=.call ⟨.builtin .append,#[x,y],#[t,t]⟩) (hf:σ.U tk=false) (hdst:∀ t,o.dst=some t->t < cx.N)
  (hK:∀ a' w',Jf cx (σ.app o.dst (Jh [(tk,some (.row e2 sz2 (c2 ++ cs'))),(k,some (.tree e sz o' e2 sz2 s (some i) cs))] (some (.row tk)))) a' w'->K a' w'):o.wp P a w K Q:=by
 obtain⟨h1,-,h3⟩:=B9 ha (K6 hds).1
 unfold B7 at h1
 obtain⟨vs',r1,r2⟩:=h1
 exact xM hS hc hs hl hnp (h3 _ _ rfl rfl) ⟨vs',_,r1,r2,fun n us h1 h2=>⟨n,us,h1,h2⟩,fun b hb=>hb⟩ ha hds ho hf hdst hK
theorem aA9 {x y:Operand} {t e e2:TypeId} {k p s i sz o' sz2 j tk:Nat} {cs c2:List C} (ht:Ty P t false 1) (hp:p=i * sz + o') (hl:p < cs.length) (hnp:cx.np<=k) (hnj:cx.np<=j)
  (ha:Dr cx ρ σ a w) (hds:Ey σ true [x,y]=some [(.ptr k p,some (.tree e sz o' e2 sz2 s (some i) cs)),(.row j,some (.row e2 sz2 c2))]) (ho:o.op=.store t x y) (hf:σ.U tk=false) (hdst:∀ t,o.dst=some t->t < cx.N)
  (hK:∀ a' w',Jf cx (σ.app o.dst (Jh [(k,some (.tree e sz o' e2 sz2 tk none (cs.set p (.sl sz2 c2)))),(tk,some .gho),(j,none)] none)) a' w'->K a' w'):o.wp P a w K Q:=by
 subst hp
 obtain⟨e1,e2'⟩:=K6 hds
 obtain⟨h1,h2,h3⟩:=B9 ha e1
 have hL:=h3 _ _ rfl rfl
 obtain⟨k1,-,k3⟩:=B9 ha e2'
 have hLj:=k3 _ _ rfl rfl
 unfold B7 at h1 k1
 obtain⟨g,D,hv⟩:=h1
 obtain⟨n,us,vs,q⟩:=ha.lo _ _ hL
 obtain⟨n2,us2,p2,pM,p3⟩:=ha.lo _ _ hLj
 have hkj:k≠j:=fun h=>by subst h; rw [hL] at hLj; cases hLj
 have hkU:σ.U k=true:=(ha.usedL _ _ hL).1
 have hjU:σ.U j=true:=(ha.usedL _ _ hLj).1
 have hne:k≠tk:=fun h=>by rw [h,hf] at hkU; cases hkU
 have hnej:j≠tk:=fun h=>by rw [h,hf] at hjU; cases hjU
 have hsz:0 < sz:=aGr (aFb _) q.ho
 have hi:i < vs.size:=by
  have h1:i * sz < n * sz:=by rw [<- q.row.1,<- q.hl]; omega
  rw [q.hn]
  exact aHp h1
 have hcell:∀ u∈[ρ j],u.oneCell'=true:=fun u hu=>by simp at hu; rw [hu]; exact k1.2
 have hcells:(ρ j).cells.toList=[ρ j]:=by
  have:=k1.2
  cases hρ:ρ j <;> rw [hρ] at this <;> first | rfl | cases this
 obtain⟨X,hrun,hrow⟩:=Ra (P:=P) (p:=i * sz + o') ht q.row D hcells rfl (by rw [<- q.hl]; omega) hcell
 have hsp:Co us (i * sz + o') [ρ j]=us.set (i * sz + o') (ρ j):=by
  unfold Co
  rw [aGg,if_pos (by rw [<- q.hl]; exact hl)]
  simp
 rw [hsp] at hrow
 have hro:∀ m,σ.U m=true->H3 ρ tk (.tuple (vs.setIfInBounds i (ρ j))) m=ρ m:=fun m hm=>by
  unfold H3
  split
  ·rename_i h; subst h; rw [hf] at hm; cases hm
  ·rfl
 have hrtk:H3 ρ tk (.tuple (vs.setIfInBounds i (ρ j))) tk=.tuple (vs.setIfInBounds i (ρ j)):=by simp [H3]
 have hvs:∀ m u,(vs.setIfInBounds i (ρ j))[m]?=some u->(m=i/\u=ρ j)\/(m≠i/\vs[m]?=some u):=fun m u h=>by
  rw [aF3] at h
  split at h
  ·rename_i hmi
   subst hmi
   injection h with h
   exact .inl ⟨rfl,h.symm⟩
  ·rename_i hmi
   exact .inr ⟨fun e=>hmi e.symm,h⟩
 have hlk:∀ k' x,D5 [(k,some (LB.tree e sz o' e2 sz2 tk none (cs.set (i * sz + o') (.sl sz2 c2)))),(tk,some LB.gho),(j,none)] k'=some (some x)->(k'=k/\x=.tree e sz o' e2 sz2 tk none (cs.set (i * sz + o') (.sl sz2 c2)))\/(k'=tk/\x=.gho):=fun k' x h=>by
  have:=E4 h
  simpa using this
 have hnew:∀ b,own (H3 ρ tk (.tuple (vs.setIfInBounds i (ρ j)))) (H3 ρ tk (.tuple (vs.setIfInBounds i (ρ j))) k) (.tree e sz o' e2 sz2 tk none (cs.set (i * sz + o') (.sl sz2 c2))) b->own ρ (ρ k) (.tree e sz o' e2 sz2 s (some i) cs) b\/own ρ (ρ j) (.row e2 sz2 c2) b:=fun b hb=>by
  rw [hro k hkU] at hb
  rcases hb with hb | ⟨vs2,m,u,a1,a2,a3,a4⟩
  ·exact .inl (.inl hb)
  ·rw [hrtk] at a1
   injection a1 with a1
   subst a1
   rcases hvs m u a2 with ⟨rfl,rfl⟩ | ⟨hm,a5⟩
   ·exact .inr a4
   ·exact .inl (.inr ⟨vs,m,u,q.hs,a5,fun h=>hm (by injection h with h; exact h.symm),a4⟩)
 have hgj:∀ b,Br (ρ j)=some b->¬ own ρ (ρ k) (.tree e sz o' e2 sz2 s (some i) cs) b:=fun b hb hb2=>hkj (ha.sep k j _ _ b hL hLj hb2 hb)
 unfold Oper.wp
 rw [show (execOp a.eval o).run P w=.ok .skip (w.setRow g X) by simp [execOp,ho,hv,k1.1,hrun]]
 obtain⟨c1,c2',c3,c4,c5⟩:=ha.kept
 refine hK _ _ ⟨H3 ρ tk (.tuple (vs.setIfInBounds i (ρ j))),ha.app (v:=undef) ⟨c1,c2',c3,by rw [Ip]; exact c4,fun b hb hM=>(E6 w g b X fun e=>?_).trans (c5 b hb hM)⟩ (by rw [Ip]; exact aFf _) hdst hro (fun b hb h=>E6 w g b X fun e=>h k _ (C3 (by simp)) hL (.inl (by rw [e]; exact D))) (fun k' lb b h1 h2=>?_) (fun m1 m2 lb lb' b h1 h2 h3 h4=>?_) (fun hI hI2=>⟨fun k' lb h=>?_,fun d hd=>by cases hd⟩) ⟨fun k' lb m2 h1 h2=>?_,fun d k' h1 h2=>by cases h1⟩ (fun k' lb b h1 h2 h3=>?_)⟩
 ·subst e
  rcases q.hM _ D with h | h
  ·omega
  ·exact hM h
 ·rcases hlk k' _ h1 with ⟨rfl,rfl⟩ | ⟨rfl,rfl⟩
  ·rcases hnew b h2 with h | h
   ·exact .inr ⟨k',_,C3 (by simp),hL,h⟩
   ·exact .inr ⟨j,_,C3 (by simp),hLj,h⟩
  ·exact h2.elim
 ·rcases hlk m1 _ h1 with ⟨rfl,rfl⟩ | ⟨rfl,rfl⟩
  ·rcases hlk m2 _ h2 with ⟨rfl,rfl⟩ | ⟨rfl,rfl⟩
   ·rfl
   ·exact h4.elim
  ·exact h3.elim
 ·rcases hlk k' _ h with ⟨rfl,rfl⟩ | ⟨rfl,rfl⟩
  ·rw [hro k' hkU]
   have hmod:∀ i,(i * sz + o') % sz=o':=fun i=>by rw [aGj,aG8]; exact aFc q.ho
   refine⟨n,_,_,q.ho,hrtk,hrow,by rw [Array.size_setIfInBounds]; exact q.hn,by rw [aHg,aHg]; exact q.hl,q.hM,fun m c u b1 b2 b3=>?_,fun m u b1 b2=>?_,fun m1 m2 u1 u2 b b1 b2 _ _ b3 b4=>?_⟩
   ·rw [aF1 (fun e=>b3 (by rw [<- e]; exact hmod i))] at b1 b2
    exact D3.keep_ (fun b hb=>(hI b hb).2) (fun b hb=>(hI b hb).1) _ _ (q.flat m c u b1 b2 b3)
   ·rcases hvs m u b1 with ⟨rfl,rfl⟩ | ⟨hm,b3⟩
    ·refine⟨aGk (by rw [<- q.hl]; exact hl),n2,us2,c2,aGk hl,E9 p2 fun b hb=>E6 w g b X fun e=>hgj b hb (.inl (by rw [e]; exact D)),p3.keep_ (fun b hb=>(hI b hb).2) fun b hb=>(hI b hb).1,fun b hb=>⟨pM b hb,fun h=>hgj b hb (.inl h)⟩⟩
    ·obtain⟨q0,n3,us3,c3',q1,q2,q3,q4⟩:=q.nest m u b3 fun h=>hm (by injection h with h; exact h.symm)
     have hd:i * sz + o'≠m * sz + o':=fun e=>hm (aD6 hsz (aG7 e)).symm
     exact⟨by rw [aF1 hd]; exact q0,n3,us3,c3',by rw [aF1 hd]; exact q1,E9 q2 fun b hb=>E6 w g b X fun e=>(q4 b hb).2 (by rw [e]; exact D),q3.keep_ (fun b hb=>(hI b hb).2) fun b hb=>(hI b hb).1,q4⟩
   ·rcases hvs m1 u1 b1 with ⟨rfl,rfl⟩ | ⟨hm1,b5⟩
    ·rcases hvs m2 u2 b2 with ⟨rfl,rfl⟩ | ⟨hm2,b6⟩
     ·rfl
     ·exact (hgj b b3 (.inr ⟨vs,m2,u2,q.hs,b6,fun h=>hm2 (by injection h with h; exact h.symm),b4⟩)).elim
    ·rcases hvs m2 u2 b2 with ⟨rfl,rfl⟩ | ⟨hm2,b6⟩
     ·exact (hgj b b4 (.inr ⟨vs,m1,u1,q.hs,b5,fun h=>hm1 (by injection h with h; exact h.symm),b3⟩)).elim
     ·exact q.dist m1 m2 u1 u2 b b5 b6 (fun h=>hm1 (by injection h with h; exact h.symm)) (fun h=>hm2 (by injection h with h; exact h.symm)) b3 b4
  ·trivial
 ·rcases hlk k' _ h1 with ⟨rfl,rfl⟩ | ⟨rfl,rfl⟩
  ·have h2:m2=tk:=h2
   subst h2
   exact .inr (C3 (by simp))
  ·exact h2.elim
 ·rcases hlk k' _ h1 with ⟨rfl,rfl⟩ | ⟨rfl,rfl⟩
  ·rcases hnew b h3 with h | h
   ·exact ha.fresh k' _ b hL hnp h
   ·exact ha.fresh j _ b hLj hnj h
  ·exact h3.elim
theorem Vj {place:Nat->Option (Nat×Nat)}:∀ {l:List (Nat×DV)} {cells r:List DV},Ia place cells l=some r->r.length=cells.length
 | [],cells,r,h=>by unfold Ia at h; injection h with h; rw [h]
 | (i,d) :: l,cells,r,h=>by
  unfold Ia at h
  cases hp:place i with
  | none=>rw [hp] at h; cases h
  | some q=>
   obtain⟨off,size⟩:=q
   rw [hp] at h
   simp only [] at h
   cases hb:(Nat.beq (Cn d).length size && Nat.ble (off + size) cells.length) with
   | false=>rw [hb] at h; cases h
   | true=>
    rw [hb] at h
    simp only [aCe] at hb
    have b1:=aDr hb.1
    have b2:=aC3 hb.2
    rw [Vj h,K8 _ _ _ (by omega)]
theorem Bk.split_ {I:Nat->Prop}:∀ {a b:List DV} {us:List Value},Bk ρ I w (a ++ b) us->∃ us1 us2,us=us1 ++ us2/\Bk ρ I w a us1/\Bk ρ I w b us2
 | [],b,us,h=>⟨[],us,rfl,by unfold Bk; rfl,h⟩
 | d :: a,b,us,h=>by
  rw [aGb] at h
  unfold Bk at h
  obtain⟨u,us',rfl,h1,h2⟩:=h
  obtain⟨us1,us2,rfl,h3,h4⟩:=Bk.split_ h2
  exact⟨u :: us1,us2,rfl,by unfold Bk; exact⟨u,us1,rfl,h1,h3⟩,h4⟩
theorem oT {t e:TypeId} {sz bytes:Nat} {x:Operand} {d:DV} {b:Option LB} {z:List Value} {r:List DV} {tc:Bool} (hS:Ij P t e sz bytes) (hz:Zt P e z) (hlen:1 * sz<=16777216)
  (hd:Ia (fun i=>some (i * sz,sz)) ((List.replicate 1 (z.map DV.val)).flatten) [(0,d)]=some r) (hoc:(Cn d).all T8=true) (ha:Dr cx ρ σ a w) (hx:ev σ tc x=some (d,b)) :
  ∃ rs:List Value,(Instr.buildSlice t 1 #[(0,a.eval x)]).run P w=.ok (.slice (some ⟨w.heap.size,0,none⟩) 1 1) (w.alloc (.cells rs.toArray e))/\Bk ρ (I4 cx σ ρ w) w r rs/\(∀ u∈rs,u.oneCell'=true)/\rs.length=1 * sz/\∀ k,E3 r k->σ.U k=true:=by
 obtain⟨hr,hm,-⟩:=B9 ha hx
 obtain⟨it,zv,z1,z2,z3,z4⟩:=hz.get
 obtain⟨it',zv',y1,y2,y3,y4,y5⟩:=hS.hi
 rw [z1] at y1
 injection y1 with y1
 subst y1
 rw [z2] at y2
 injection y2 with y2
 subst y2
 have hsz:=hS.hsz
 have hd0:=hd
 rw [Zo] at hd
 have hone:∀ u∈(List.replicate 1 z).flatten,u.oneCell'=true:=fun u hu=>by
  obtain⟨l,h1,h2⟩:=aIf.1 hu
  rw [(aHz.1 h1).2] at h2
  exact (z4 u h2).1
 have hok0:∀ u∈(List.replicate 1 z).flatten,Fr u=true:=fun u hu=>by
  obtain⟨l,h1,h2⟩:=aIf.1 hu
  rw [(aHz.1 h1).2] at h2
  exact (z4 u h2).2
 obtain⟨rs,r1,r2,r3⟩:=Qi (place:=fun i=>some (i * sz,sz)) [0] [d] [a.eval x] _ ((List.replicate 1 z).flatten) r (by unfold Bk; exact⟨_,[],rfl,hr,by unfold Bk; rfl⟩) (fun d hd'=>by rw [aDv.1 hd']; exact hoc) (Bk.ofVals _ hok0) hone hd
 have hrun:(Instr.buildSlice t 1 #[(0,a.eval x)]).run P w=.ok (.slice (some ⟨w.heap.size,0,none⟩) 1 1) (w.alloc (.cells rs.toArray e)):=by
  have e3:((Array.range (1 * sz)).map (zv.cells[· % zv.cells.size]!))=((List.replicate 1 z).flatten).toArray:=by
   rw [<- z3,<- Ub zv.cells 1 sz y5 hsz]
  refine run_buildSlice w t e 1 _ rs.toArray it zv hS.ht z1 z2 (by rw [y3]; omega) (by rw [y3]; omega) ?_
  rw [y3,e3]
  exact r1
 refine⟨rs,hrun,r2,r3,?_,fun k hk=>?_⟩
 ·rw [<- r2.length,Vj hd,aGf]
  have hzl:z.length=sz:=by rw [<- z3]; simpa using y5
  simp [hzl]
 ·rcases Qx hd0 hk with h | ⟨q,h1,h2⟩
  ·simp at h
   exact (Mn _ k (by simpa using h)).elim
  ·rw [aDv.1 h1] at h2
   exact hm k h2
theorem oP {t e e2:TypeId} {sz o' sz2 bytes j tk:Nat} {x:Operand} {d:DV} {b:Option LB} {z:List Value} {r pre post:List DV} {ck1 ck2:List (Option Nat)} {c1 c2 c3:List C} (hS:Ij P t e sz bytes) (hz:Zt P e z) (hlen:1 * sz<=16777216)
  (hd:Ia (fun i=>some (i * sz,sz)) ((List.replicate 1 (z.map DV.val)).flatten) [(0,d)]=some r) (hoc:(Cn d).all T8=true) (hr:r=pre ++ .row j :: post) (hpo:pre.length=o') (h1:Ib ck1 pre c1) (h3:Ib ck2 post c3) (hLj:σ.L j=some (.row e2 sz2 c2)) (hnp:cx.np<=j)
  (ha:Dr cx ρ σ a w) {tc:Bool} (hds:Ey σ tc [x]=some [(d,b)]) (ho:o.op=.buildSlice t 1 #[(0,x)]) (hf:∀ j,j < 8->σ.U (tk + j)=false) (hdst:∀ t,o.dst=some t->t < cx.N)
  (hK:∀ a' w',Jf cx (σ.app o.dst (Jh [(tk,some (.tree e sz o' e2 sz2 (tk + 1) none (c1 ++ .sl sz2 c2 :: c3))),(tk + 1,some .gho),(j,none)] (some (.row tk)))) a' w'->K a' w'):o.wp P a w K Q:=by
 obtain⟨rs,hrun,r2,r3,r4,r5⟩:=oT hS hz hlen hd hoc ha (Ih hds)
 subst hr
 have hf0:=hf 0 (by omega)
 have hf1:=hf 1 (by omega)
 rw [aGz] at hf0
 obtain⟨n2,us2,p2,pM,p3⟩:=ha.lo _ _ hLj
 have hjU:σ.U j=true:=(ha.usedL _ _ hLj).1
 obtain⟨us1,us3,rfl,s1,s3⟩:∃ us1 us3,rs=us1 ++ ρ j :: us3/\Bk ρ (I4 cx σ ρ w) w pre us1/\Bk ρ (I4 cx σ ρ w) w post us3:=by
  obtain⟨us1,rest,e1,s1,s2⟩:=Bk.split_ r2
  unfold Bk at s2
  obtain⟨u,us3,e2,s2,s3⟩:=s2
  unfold B7 at s2
  exact⟨us1,us3,by rw [e1,e2,s2.1],s1,s3⟩
 have d1:=Ib.rd h1 s1
 have d3:=Ib.rd h3 s3
 have hl1:us1.length=o':=by rw [<- s1.length]; exact hpo
 rw [aGm] at r4
 have hl3:us1.length + (us3.length + 1)=sz:=by simpa using r4
 let v':Value:=.slice (some ⟨w.heap.size,0,none⟩) 1 1
 let ρ':Nat->Value:=fun m=>if m=tk then v' else if m=tk + 1 then .tuple #[ρ j] else ρ m
 have hrtk:ρ' tk=v':=if_pos rfl
 have hrt1:ρ' (tk + 1)=.tuple #[ρ j]:=by
  show (if tk + 1=tk then _ else _)=_
  rw [if_neg (by omega),if_pos rfl]
 have hro:∀ m,σ.U m=true->ρ' m=ρ m:=fun m hm=>by
  show (if m=tk then _ else if m=tk + 1 then _ else _)=_
  rw [if_neg (fun h=>by subst h; rw [hf0] at hm; cases hm),if_neg (fun h=>by subst h; rw [hf1] at hm; cases hm)]
 have hlk:∀ k' x,D5 [(tk,some (LB.tree e sz o' e2 sz2 (tk + 1) none (c1 ++ .sl sz2 c2 :: c3))),(tk + 1,some LB.gho),(j,none)] k'=some (some x)->(k'=tk/\x=.tree e sz o' e2 sz2 (tk + 1) none (c1 ++ .sl sz2 c2 :: c3))\/(k'=tk + 1/\x=.gho):=fun k' x h=>by
  have:=E4 h
  simpa using this
 have hown:∀ b,own ρ' (ρ' tk) (.tree e sz o' e2 sz2 (tk + 1) none (c1 ++ .sl sz2 c2 :: c3)) b->b=w.heap.size\/Br (ρ j)=some b:=fun b hb=>by
  rcases hb with hb | ⟨vs,m,u,a1,a2,-,a4⟩
  ·rw [hrtk] at hb
   injection hb with hb
   exact .inl hb.symm
  ·rw [hrt1] at a1
   injection a1 with a1
   subst a1
   have:u=ρ j:=by
    rcases m with _ | m
    ·simpa using a2.symm
    ·simp at a2
   subst this
   exact .inr a4
 have hjlt:∀ b,Br (ρ j)=some b->b < w.heap.size:=fun b hb=>Ho p2 hb
 unfold Oper.wp
 rw [show (execOp a.eval o).run P w=.ok (.value v') (w.alloc (.cells (us1 ++ ρ j :: us3).toArray e)) by simp only [execOp,ho]; simp [hrun,v']]
 refine hK _ _ ⟨ρ',ha.app (v:=v') (ha.kept.alloc _) (by simp) hdst hro (fun b hb _=>Below.heap_alloc w _ b hb) (fun k' lb b h1 h2=>?_) (fun m1 m2 lb lb' b h1 h2 h3 h4=>?_) (fun hI hI2=>⟨fun k' lb h=>?_,fun d hd=>?_⟩) ⟨fun k' lb m2 h1 h2=>?_,fun d k' h1 h2=>?_⟩ (fun k' lb b h1 h2 h3=>?_)⟩
 ·rcases hlk k' _ h1 with ⟨rfl,rfl⟩ | ⟨rfl,rfl⟩
  ·rcases hown b h2 with rfl | h
   ·exact .inl (aFf _)
   ·exact .inr ⟨j,_,C3 (by simp),hLj,h⟩
  ·exact h2.elim
 ·rcases hlk m1 _ h1 with ⟨rfl,rfl⟩ | ⟨rfl,rfl⟩
  ·rcases hlk m2 _ h2 with ⟨rfl,rfl⟩ | ⟨rfl,rfl⟩
   ·rfl
   ·exact h4.elim
  ·exact h3.elim
 ·rcases hlk k' _ h with ⟨rfl,rfl⟩ | ⟨rfl,rfl⟩
  ·rw [hrtk]
   have hm:(us1 ++ ρ j :: us3).length=1 * sz:=by rw [aGm]; simp; omega
   refine⟨1,us1 ++ ρ j :: us3,#[ρ j],by omega,hrt1,⟨hm,.inr ⟨w.heap.size,1,_,rfl,by omega,heap_alloc_new w _,aFf _,by unfold maxLen; omega,by simpa using hm,?_⟩⟩,rfl,by simp [d1.1,d3.1],fun b hb=>?_,fun m c u b1 b2 b3=>?_,fun m u b1 b2=>?_,fun m1 m2 u1 u2 b b1 b2 _ _ _ _=>?_⟩
   ·rw [aFd (by rw [<- hm]; simp)]
   ·injection hb with hb
    rw [<- hb]
    exact .inl ha.kept.2.2.2.1
   ·have hc1:c1.length=o':=by rw [d1.1,hl1]
    have key:∀ {I:Nat->Prop},D3 w I c u->(∀ b,I b->I b)->True:=fun _ _=>trivial
    rcases aH5 m o' with hlt | heq | hgt
    ·rw [aE3 (by omega)] at b1 b2
     exact D3.keep_ (fun b hb=>(hI b hb).2) (fun b hb=>(hI b hb).1) _ _ (d1.2 m c u b1 b2)
    ·subst heq
     exact absurd (aFc (by omega)) b3
    ·rw [aE0 (by omega)] at b1 b2
     rw [hc1] at b1
     rw [hl1] at b2
     obtain⟨q,hq⟩:∃ q,m - o'=q + 1:=⟨m - o' - 1,by omega⟩
     rw [hq,aH0] at b1 b2
     exact D3.keep_ (fun b hb=>(hI b hb).2) (fun b hb=>(hI b hb).1) _ _ (d3.2 q c u b1 b2)
   ·have:m=0/\u=ρ j:=by
     rcases m with _ | m
     ·exact⟨rfl,by simpa using b1.symm⟩
     ·simp at b1
    obtain⟨rfl,rfl⟩:=this
    have hc1:c1.length=o':=by rw [d1.1,hl1]
    refine⟨?_,n2,us2,c2,?_,E9 p2 fun b hb=>Below.heap_alloc w _ b (hjlt b hb),p3.keep_ (fun b hb=>(hI b hb).2) fun b hb=>(hI b hb).1,fun b hb=>⟨pM b hb,fun h=>?_⟩⟩
    ·rw [aHa,aE6,aE0 (by omega),hl1]
     simp
    ·rw [aHa,aE6,aE0 (by omega),hc1]
     simp
    ·have h:some w.heap.size=some b:=h
     injection h with h
     have:=hjlt b hb
     omega
   ·rcases m1 with _ | m1
    ·rcases m2 with _ | m2
     ·rfl
     ·simp at b2
    ·simp at b1
  ·trivial
 ·injection hd with hd
  subst hd
  unfold B7
  exact⟨hrtk.symm,by rw [hrtk]; rfl⟩
 ·rcases hlk k' _ h1 with ⟨rfl,rfl⟩ | ⟨rfl,rfl⟩
  ·have h2:m2=k' + 1:=h2
   subst h2
   exact .inr (C3 (by simp))
  ·exact h2.elim
 ·injection h1 with h1
  subst h1
  unfold men at h2
  subst h2
  exact .inr (C3 (by simp))
 ·rcases hlk k' _ h1 with ⟨rfl,rfl⟩ | ⟨rfl,rfl⟩
  ·rcases hown b h3 with rfl | h
   ·exact .inl ha.kept.2.2.2.1
   ·exact ha.fresh j _ b hLj hnp h
  ·exact h3.elim
theorem Fb.str {w:World} {I:Nat->Prop} (s:ByteArray):Fb w I (H6 s.data.toList) (Go.Lib.strCells s):=by
 refine⟨by rw [Kc,Go.Lib.strCells_length]; exact aIm,fun j c u h1 h2=>?_⟩
 unfold H6 at h1
 unfold Go.Lib.strCells at h2
 rw [aHm] at h1 h2
 cases hx:s.data.toList[j]? with
 | none=>rw [hx] at h1; cases h1
 | some x=>
  rw [hx] at h1 h2
  injection h1 with h1
  injection h2 with h2
  subst h1 h2
  unfold D3
  have:x.toNat < 256:=x.toNat_lt
  have e1:IntKind.u8.min=0:=by decide
  have e2:IntKind.u8.max=255:=by decide
  exact⟨rfl,by omega,by omega⟩
theorem zI {x y:Operand} {t e e2:TypeId} {k s k' s' sz o' sz2 bytes tk:Nat} {cs cs':List C} (hS:Ij P t e sz bytes) (hne:Nat.beq k k'=false) (hl:(cs.length + cs'.length) * bytes<=140737488355328) (hnp:cx.np<=k) (hnp':cx.np<=k')
  (ha:Dr cx ρ σ a w) (hds:Ey σ true [x,y]=some [(.row k,some (.tree e sz o' e2 sz2 s none cs)),(.row k',some (.tree e sz o' e2 sz2 s' none cs'))]) (ho:o.op=.call ⟨.builtin .append,#[x,y],#[t,t]⟩) (hf:∀ j,j < 8->σ.U (tk + j)=false) (hdst:∀ t,o.dst=some t->t < cx.N)
  (hK:∀ a' w',Jf cx (σ.app o.dst (Jh [(tk,some (.tree e sz o' e2 sz2 (tk + 1) none (cs ++ cs'))),(tk + 1,some .gho),(k,none),(k',none)] (some (.row tk)))) a' w'->K a' w'):o.wp P a w K Q:=by
 have hf0:=hf 0 (by omega)
 have hf1:=hf 1 (by omega)
 rw [aGz] at hf0
 have hkk:k≠k':=fun h=>by subst h; rw [aGp] at hne; cases hne
 obtain⟨e1,e2'⟩:=K6 hds
 obtain⟨h1,-,h3⟩:=B9 ha e1
 obtain⟨k1,-,k3⟩:=B9 ha e2'
 have hL:=h3 _ _ rfl rfl
 have hL':=k3 _ _ rfl rfl
 unfold B7 at h1 k1
 obtain⟨n,us,vs,q⟩:=ha.lo _ _ hL
 obtain⟨n',us',vs',q'⟩:=ha.lo _ _ hL'
 have hsz:0 < sz:=hS.hsz
 have hone:∀ u∈us',u.oneCell'=true:=fun u hu=>by
  obtain⟨m,hm,rfl⟩:=aF6 hu
  have hum:us'[m]?=some us'[m]:=aA1 hm
  have hcm:cs'[m]?=some (cs'[m]'(by rw [q'.hl]; exact hm)):=aA1 _
  by_cases hmo:m % sz=o'
  ·have hmd:m / sz * sz + o'=m:=by rw [<- hmo,aGj]; exact Nat.div_add_mod m sz
   have hi:m / sz < vs'.size:=by
    rw [q'.hn]
    exact (aH9 hsz).2 (by rw [<- q'.row.1]; exact hm)
   obtain⟨p0,n2,us2,c2,p1,p2,-⟩:=q'.nest (m / sz) _ (aFq hi) (by simp)
   rw [hmd,hum] at p0
   injection p0 with p0
   rw [p0]
   rcases p2.2 with ⟨A,h,-⟩ | ⟨g,cap,cur,h,-⟩ <;> rw [h] <;> rfl
  ·exact D3.one (q'.flat m _ _ hcm hum hmo)
 obtain⟨A,m,c,hv',hl',hA⟩:∃ A m c,ρ k'=.slice A m c/\us'.length=m * sz/\(0 < m->∃ ad,A=some ad/\∀ j u,us'[j]?=some u->w.cell? (ad.add j)=some u):=by
  rcases aFa n' with hn | hn
  ·rcases q'.row.2 with ⟨A,q1,q2⟩ | ⟨g,cap,cur,q1,-⟩
   ·exact⟨A,0,0,q1,by rw [q'.row.1,hn],fun h=>absurd h (by omega)⟩
   ·exact⟨_,n',cap,q1,q'.row.1,fun h=>absurd h (by omega)⟩
  ·obtain⟨g,cap,q1,-,-,q2⟩:=Iv q'.row hn
   exact⟨_,n',cap,q1,q'.row.1,fun _=>⟨_,rfl,fun j u hj=>by rw [I9,aE6]; exact q2 j u hj⟩⟩
 have hmn:m=n':=aD6 hsz (hl'.symm.trans q'.row.1)
 subst hmn
 obtain⟨v',w',hrun,g2,g3,g4,hsl⟩:=Q6 (P:=P) (ty:=o.type) hS q.row (A:=A) (m:=m) (c:=c) hl' hone hA (by rw [<- q.hl,<- q'.hl]; exact hl)
 have hkU:σ.U k=true:=(ha.usedL _ _ hL).1
 have hkU':σ.U k'=true:=(ha.usedL _ _ hL').1
 let ρ':Nat->Value:=fun m=>if m=tk then v' else if m=tk + 1 then .tuple (vs ++ vs') else ρ m
 have hrtk:ρ' tk=v':=if_pos rfl
 have hrt1:ρ' (tk + 1)=.tuple (vs ++ vs'):=by
  show (if tk + 1=tk then _ else _)=_
  rw [if_neg (by omega),if_pos rfl]
 have hro:∀ m,σ.U m=true->ρ' m=ρ m:=fun m hm=>by
  show (if m=tk then _ else if m=tk + 1 then _ else _)=_
  rw [if_neg (fun h=>by subst h; rw [hf0] at hm; cases hm),if_neg (fun h=>by subst h; rw [hf1] at hm; cases hm)]
 have hlk:∀ m x,D5 [(tk,some (LB.tree e sz o' e2 sz2 (tk + 1) none (cs ++ cs'))),(tk + 1,some LB.gho),(k,none),(k',none)] m=some (some x)->(m=tk/\x=.tree e sz o' e2 sz2 (tk + 1) none (cs ++ cs'))\/(m=tk + 1/\x=.gho):=fun m x h=>by
  have:=E4 h
  simpa using this
 have hvv:∀ i u,(vs ++ vs')[i]?=some u->(i < vs.size/\vs[i]?=some u)\/(vs.size<=i/\vs'[i - vs.size]?=some u):=fun i u h=>by
  rw [aIa] at h
  split at h
  ·rename_i hi; exact .inl ⟨hi,h⟩
  ·rename_i hi; exact .inr ⟨Nat.le_of_not_lt hi,h⟩
 have hown:∀ b,own ρ' (ρ' tk) (.tree e sz o' e2 sz2 (tk + 1) none (cs ++ cs')) b->w.heap.size<=b\/own ρ (ρ k) (.tree e sz o' e2 sz2 s none cs) b\/own ρ (ρ k') (.tree e sz o' e2 sz2 s' none cs') b:=fun b hb=>by
  rcases hb with hb | ⟨vs2,i,u,a1,a2,-,a4⟩
  ·rw [hrtk] at hb
   rcases g4 b hb with h | h
   ·exact .inr (.inl (.inl h))
   ·exact .inl h
  ·rw [hrt1] at a1
   injection a1 with a1
   subst a1
   rcases hvv i u a2 with ⟨-,h⟩ | ⟨-,h⟩
   ·exact .inr (.inl (.inr ⟨vs,i,u,q.hs,h,by simp,a4⟩))
   ·exact .inr (.inr (.inr ⟨vs',_,u,q'.hs,h,by simp,a4⟩))
 have hbase:∀ g,Br (ρ k)=some g->cx.w0.heap.size<=g\/cx.M g:=q.hM
 have hcl:cs.length=n * sz:=by rw [q.hl,q.row.1]
 unfold Oper.wp
 rw [show (execOp a.eval o).run P w=.ok (.value v') w' by simp [execOp,ho,resolve,invoke,builtin,h1.1,k1.1,hv',hrun]]
 refine hK _ _ ⟨ρ',ha.app (v:=v') (ha.kept.grown g3 hbase) g3.size hdst hro (fun b hb h=>g3.block b hb fun e=>h k _ (C3 (by simp)) hL (.inl e.symm)) (fun m1 lb b h1 h2=>?_) (fun m1 m2 lb lb' b h1 h2 h3 h4=>?_) (fun hI hI2=>⟨fun m1 lb h=>?_,fun d hd=>?_⟩) ⟨fun m1 lb m2 h1 h2=>?_,fun d m1 h1 h2=>?_⟩ (fun m1 lb b h1 h2 h3=>?_)⟩
 ·rcases hlk m1 _ h1 with ⟨rfl,rfl⟩ | ⟨rfl,rfl⟩
  ·rcases hown b h2 with h | h | h
   ·exact .inl h
   ·exact .inr ⟨k,_,C3 (by simp),hL,h⟩
   ·exact .inr ⟨k',_,C3 (by simp),hL',h⟩
  ·exact h2.elim
 ·rcases hlk m1 _ h1 with ⟨rfl,rfl⟩ | ⟨rfl,rfl⟩
  ·rcases hlk m2 _ h2 with ⟨rfl,rfl⟩ | ⟨rfl,rfl⟩
   ·rfl
   ·exact h4.elim
  ·exact h3.elim
 ·rcases hlk m1 _ h with ⟨rfl,rfl⟩ | ⟨rfl,rfl⟩
  ·rw [hrtk]
   have nst1:∀ i u,vs[i]?=some u->∀ b,Br u=some b->own ρ (ρ k) (.tree e sz o' e2 sz2 s none cs) b:=fun i u h b hb=>.inr ⟨vs,i,u,q.hs,h,by simp,hb⟩
   have nst2:∀ i u,vs'[i]?=some u->∀ b,Br u=some b->own ρ (ρ k') (.tree e sz o' e2 sz2 s' none cs') b:=fun i u h b hb=>.inr ⟨vs',i,u,q'.hs,h,by simp,hb⟩
   have xx:∀ b,own ρ (ρ k) (.tree e sz o' e2 sz2 s none cs) b->own ρ (ρ k') (.tree e sz o' e2 sz2 s' none cs') b->False:=fun b a1 a2=>hkk (ha.sep k k' _ _ b hL hL' a1 a2)
   refine⟨n + m,us ++ us',vs ++ vs',q.ho,hrt1,g2,by rw [Array.size_append,q.hn,q'.hn],by rw [aDw,aDw,q.hl,q'.hl],fun b hb=>?_,fun j c u b1 b2 b3=>?_,fun i u b1 _=>?_,fun i1 i2 u1 u2 b b1 b2 _ _ b3 b4=>?_⟩
   ·rcases g4 b hb with h4 | h4
    ·exact hbase b h4
    ·exact .inl (aFj ha.kept.2.2.2.1 h4)
   ·rcases aF4 j cs.length with hj | hj
    ·rw [aE3 hj] at b1
     rw [aE3 (by rw [<- q.hl]; exact hj)] at b2
     exact D3.keep_ (fun b hb=>(hI b hb).2) (fun b hb=>(hI b hb).1) _ _ (q.flat j c u b1 b2 b3)
    ·rw [aE0 hj] at b1
     rw [aE0 (by rw [<- q.hl]; exact hj),<- q.hl] at b2
     refine D3.keep_ (fun b hb=>(hI b hb).2) (fun b hb=>(hI b hb).1) _ _ (q'.flat (j - cs.length) c u b1 b2 fun h=>b3 ?_)
     have:j=(j - cs.length) + n * sz:=by omega
     rw [this,Nat.add_mul_mod_self_right]
     exact h
   ·rcases hvv i u b1 with ⟨hi,h⟩ | ⟨hi,h⟩
    ·obtain⟨q0,n3,us3,c3,q1,q2,q3,q4⟩:=q.nest i u h (by simp)
     refine⟨by rw [aE3 (aBw.1 q0).1]; exact q0,n3,us3,c3,by rw [aE3 (aBw.1 q1).1]; exact q1,E9 q2 fun b hb=>g3.block b (Ho q2 hb) fun e=>(q4 b hb).2 e.symm,q3.keep_ (fun b hb=>(hI b hb).2) fun b hb=>(hI b hb).1,fun b hb=>⟨(q4 b hb).1,fun h5=>?_⟩⟩
     rcases g4 b h5 with h6 | h6
     ·exact (q4 b hb).2 h6
     ·have:=Ho q2 hb
      omega
    ·obtain⟨q0,n3,us3,c3,q1,q2,q3,q4⟩:=q'.nest _ u h (by simp)
     have e5:i * sz + o'=n * sz + ((i - vs.size) * sz + o'):=by
      rw [q.hn] at hi ⊢
      have:i * sz=n * sz + (i - n) * sz:=by rw [<- aF2]; congr 1; omega
      omega
     refine⟨by rw [e5,aE0 (by rw [q.row.1]; omega),q.row.1,aGu]; exact q0,n3,us3,c3,by rw [e5,aE0 (by rw [hcl]; omega),hcl,aGu]; exact q1,E9 q2 fun b hb=>g3.block b (Ho q2 hb) fun e=>xx b (.inl e.symm) (nst2 _ u h b hb),q3.keep_ (fun b hb=>(hI b hb).2) fun b hb=>(hI b hb).1,fun b hb=>⟨(q4 b hb).1,fun h5=>?_⟩⟩
     rcases g4 b h5 with h6 | h6
     ·exact xx b (.inl h6) (nst2 _ u h b hb)
     ·have:=Ho q2 hb
      omega
   ·rcases hvv i1 u1 b1 with ⟨hi1,h1⟩ | ⟨hi1,h1⟩ <;> rcases hvv i2 u2 b2 with ⟨hi2,h2⟩ | ⟨hi2,h2⟩
    ·exact q.dist i1 i2 u1 u2 b h1 h2 (by simp) (by simp) b3 b4
    ·exact (xx b (nst1 _ _ h1 b b3) (nst2 _ _ h2 b b4)).elim
    ·exact (xx b (nst1 _ _ h2 b b4) (nst2 _ _ h1 b b3)).elim
    ·have:=q'.dist _ _ u1 u2 b h1 h2 (by simp) (by simp) b3 b4
     omega
  ·trivial
 ·injection hd with hd
  subst hd
  unfold B7
  rw [hrtk]
  obtain⟨A2,n2',c2',rfl⟩:=hsl
  exact⟨rfl,rfl⟩
 ·rcases hlk m1 _ h1 with ⟨rfl,rfl⟩ | ⟨rfl,rfl⟩
  ·have h2:m2=m1 + 1:=h2
   subst h2
   exact .inr (C3 (by simp))
  ·exact h2.elim
 ·injection h1 with h1
  subst h1
  unfold men at h2
  subst h2
  exact .inr (C3 (by simp))
 ·rcases hlk m1 _ h1 with ⟨rfl,rfl⟩ | ⟨rfl,rfl⟩
  ·rcases hown b h3 with h | h | h
   ·exact .inl (aFj ha.kept.2.2.2.1 h)
   ·exact ha.fresh k _ b hL hnp h
   ·exact ha.fresh k' _ b hL' hnp' h
  ·exact h3.elim
theorem ExtR.sound {tk:Nat} {op:Op} {ty:TypeId} {ds:List (DV×Option LB)} {env:Sn} {wr:List Nat} {E:K4->Prop} (h:ExtR P cx.np tk op ty ds env wr E) (ha:Dr cx ρ σ a w) (hds:Ey σ (I3 op) op.operands.toList=some ds) {l0:List Nat} (henv:env=Ls σ l0) (hf:∀ j,j < 8->σ.U (tk + j)=false) (ho:o.op=op) (hdst:∀ t,o.dst=some t->t < cx.N)
  (hK:∀ e a' w',E e->Jf cx (σ.app o.dst e) a' w'->K a' w'):o.wp P a w K Q:=by
 subst henv
 have hf0:σ.U tk=false:=hf 0 (by omega)
 cases h with
 | sem hs _ _ _=>exact hs rfl ha ⟨_,Hj.refl _ _,hds⟩ rfl hf ho hdst hK
 | @next x _ _ j k b n seen l hj hm hn=>
  have hLj:=I0 hj
  have hLk:=I0 hm
  have e1:=Ih (show Ey σ false [x]=_ from hds)
  obtain⟨h1,h2,-⟩:=B9 ha e1
  unfold B7 at h1
  obtain⟨g,D,hv⟩:=h1
  obtain⟨b',m,r1,r2,r3,r4⟩:=ha.lo _ _ hLj
  have hgb:b'=g:=by rw [r1] at D; injection D
  subst hgb
  obtain⟨m',q1,⟨es,q2,q3,q4,q5⟩,-⟩:=ha.lo _ _ hLk
  have hmm:m=m':=by rw [r2] at q1; injection q1 with q1; injection q1
  subst hmm
  have hes:es.size=n:=by rw [hn,<- q3]; simp
  have hku:σ.U k=true:=(ha.usedL _ _ hLk).1
  have hlt:∀ x∈es.toList,x.born < n:=fun x hx=>by
   obtain⟨i,hi,rfl⟩:=aF6 hx
   have hi':i < es.size:=by simpa using hi
   have:=q4 i es[i] (by simp [hi'])
   simp only [Array.getElem_toList]
   rw [this]; omega
  have left:∀ e,e∈(leftOf es seen.toArray).toList↔e∈es.toList/\e.born∉seen:=fun e=>by
   unfold leftOf
   simp
  rcases run_next_at (P:=P) w o.type b' m n n seen.toArray es es.size r3 q2 hlt (aFf _) with ⟨s1,s2⟩ | ⟨e,s1,w1,s2,s3⟩
  ·refine iX (d:=some (.tup [.val (.bool false)])) (lb':=.mit k n seen) (v:=.tuple #[.bool false]) (w':=w) ha hdst hLj (.inr ?_) ⟨rfl,rfl,rfl,rfl⟩ (fun b hb=>rfl) (fun I' hI=>⟨⟨b',m,r1,r2,r3,r4⟩,fun x hx=>by injection hx with hx; subst hx; exact pL rfl⟩) ⟨fun k' hk'=>by have hk':k'=k:=hk'; rw [hk']; exact hku,fun x k' hx hm=>by injection hx with hx; subst hx; exact (Ya [_] k' hm).elim⟩ (fun a' w' h=>hK _ a' w' (.inl ⟨fun i hi=>?_,rfl⟩) h)
   ·simp only [execOp,ho,hv,Sem.run_bind,s2,Result.andThen_ok,Sem.run_pure]
   ·refine Decidable.byContradiction fun hns=>?_
    have hi':i < es.size:=by omega
    have:es[i]∈(leftOf es seen.toArray).toList:=(left _).2 ⟨by simp,by rw [q4 i es[i] (by simp [hi'])]; exact hns⟩
    have h0:(leftOf es seen.toArray)=#[]:=Array.eq_empty_of_size_eq_zero s1
    rw [h0] at this
    simp at this
  ·obtain⟨t1,t2⟩:=(left e).1 s1
   obtain⟨i,hi,hie⟩:=aF6 t1
   have hi':i < es.size:=by simpa using hi
   have hei:es[i]?=some e:=by
    rw [<- aHh,aA1 hi,hie]
   have hb:=q4 i e hei
   have hl:l[i]?=some (e.key,e.val):=by
    rw [<- q3,aHm,aHh,hei]
    rfl
   have hok:=q5 _ (aEy hl)
   have hw1:w1.os=w.os/\w1.tape=w.tape/\w1.output=w.output/\w1.heap=w.heap:=by
    rcases s2 with rfl | rfl <;> exact⟨rfl,rfl,rfl,rfl⟩
   obtain⟨v1,v2,v3,v4⟩:=hw1
   refine iX (d:=some (.tup [.val (.bool true),.val e.key,.val e.val])) (lb':=.mit k n (seen ++ [i])) (v:=.tuple #[.bool true,e.key,e.val]) (w':=setBlock w1 b' (.mapIter (some m) n (seen.toArray.push e.born) es.size)) ha hdst hLj (.inr ?_) ⟨v1,v2,v3,by rw [Y1,v4]⟩ (fun b hb=>(V1 _ fun e=>hb (by rw [r1,e]; rfl)).trans (by rw [v4])) (fun I' hI=>⟨⟨b',m,r1,r2,?_,r4⟩,fun x hx=>by injection hx with hx; subst hx; exact oU rfl hok.1 hok.2⟩) ⟨fun k' hk'=>by have hk':k'=k:=hk'; rw [hk']; exact hku,fun x k' hx hm=>by injection hx with hx; subst hx; exact (Ya [_,_,_] k' hm).elim⟩ (fun a' w' h=>hK _ a' w' (.inr ⟨i,_,hl,by rw [<- hb]; exact t2,rfl⟩) h)
   ·simp only [execOp,ho,hv,Sem.run_bind,s3,Result.andThen_ok,Sem.run_pure]
   ·rw [W1 (w:=w1) (by rw [v4]; exact r3),hb,hes]
    simp
 | @entry x _ _ j k b n seen i l p hj hm hn hp=>
  have hLj:=I0 hj
  have hLk:=I0 hm
  have e1:=Ih (show Ey σ false [x]=_ from hds)
  obtain⟨h1,h2,-⟩:=B9 ha e1
  unfold B7 at h1
  obtain⟨g,D,hv⟩:=h1
  obtain⟨b',m,r1,r2,r3,r4⟩:=ha.lo _ _ hLj
  have hgb:b'=g:=by rw [r1] at D; injection D
  subst hgb
  obtain⟨m',q1,⟨es,q2,q3,q4,q5⟩,-⟩:=ha.lo _ _ hLk
  have hmm:m=m':=by rw [r2] at q1; injection q1 with q1; injection q1
  subst hmm
  have hes:es.size=n:=by rw [hn,<- q3]; simp
  have hok:=q5 _ (aEy hp)
  have hpe:=hp
  rw [<- q3,aHm,aHh] at hpe
  obtain⟨e,hei,rfl⟩:=aFi.1 hpe
  have hb:=q4 i e hei
  obtain⟨hi,hie⟩:=aEx.1 hei
  have hfind:es.find? (fun x=>x.born == i)=some e:=by
   rw [Array.find?_eq_some_iff_getElem]
   refine⟨by rw [hb]; simp,i,hi,hie,fun q hq=>?_⟩
   have:=q4 q es[q] (by simp)
   rw [this]
   have:q≠i:=by omega
   simp [this]
  have hrun:(Instr.entry (.pointer (some ⟨b',0,none⟩))).run P w=.ok (.tuple #[e.key,e.val]) w:=by
   have hback:(seen ++ [i]).toArray.back?=some i:=by simp
   simp only [Instr.entry,getObj,Sem.run_bind,Sem.run,r3,q2,Result.andThen,hback,hes,hfind,bne_self_eq_false,aHx,if_false]
   rfl
  refine Ja ha hdst (d:=.tup [.val e.key,.val e.val]) (v:=.tuple #[e.key,e.val]) ?_ (uE hok.1 hok.2) (fun k' hk'=>(Ya [_,_] k' hk').elim) (fun a' w' h=>hK _ a' w' rfl h)
  simp only [execOp,ho,hv,Sem.run_bind,hrun,Result.andThen_ok,Sem.run_pure]
 | @copyR t t' x y _ _ k b d' e sz bytes cs cs' n hS hS' hL hs hn hn'=>
  have hL:=I0 hL
  obtain⟨b',rfl⟩:=hs
  obtain⟨e1,e2⟩:=K6 (show Ey σ true [x,y]=_ from hds)
  obtain⟨h1,-,-⟩:=B9 ha e1
  obtain⟨h2,-,-⟩:=B9 ha e2
  unfold B7 at h1 h2
  obtain⟨A,m,c,hv,hm,hmc,hc⟩:=h2.slice
  have hsz:=hS.hsz
  have hmn:m=n:=aD6 hsz (hm.symm.trans hn')
  subst hmn
  rw [hv] at h2
  obtain⟨us',u1,u2,u3⟩:=h2.vals
  have hlo:=ha.lo _ _ hL
  obtain⟨N,us,q1,q2,q3⟩:=id hlo
  have hN:N=m:=aD6 hsz (by rw [<- q1.1,<- q3.1]; exact hn)
  subst hN
  obtain⟨it,zv,y1,y2,y3,y4,y5⟩:=hS.hi
  have hsplice:Co cs 0 cs'=cs':=by
   unfold Co
   rw [aE6,hn',<- hn,List.take_zero,aHc]
   simp
  rcases aFa N with h0 | h0
  ·subst h0
   have hcs:cs=[]:=aDu (by simpa using hn)
   have hcs':cs'=[]:=aDu (by simpa using hn')
   subst hcs hcs'
   refine iX (lb':=.row e sz []) (d:=some (.val (.int .i64 0))) (v:=.int .i64 0) (w':=w) ha hdst hL (.inr ?_) ⟨rfl,rfl,rfl,rfl⟩ (fun b hb=>rfl) (fun I' hI=>⟨?_,fun x hx=>by injection hx with hx; subst hx; exact Jg rfl⟩) ⟨fun k' hk'=>hk'.elim,fun x k' hx hm=>by injection hx with hx; subst hx; unfold men at hm; exact hm.elim⟩ (fun a' w' h=>hK _ a' w' rfl h)
   ·have key:∀ B cap',(Builtin.copy_ #[t,t'] o.type #[.slice B 0 cap',.slice A 0 c]).run P w=.ok (.int .i64 0) w:=fun B cap'=>by
     cases B <;> cases A <;> simp [Builtin.copy_,run_underlying hS.ht,Builtin.lenOf,Builtin.firstCells,sizeOf,typeInfo,y1,storeCells,loadCells,loadCellsFrom,goInt]
    have hsl:∃ B cap',ρ k=.slice B 0 cap':=by
     rcases q1.2 with ⟨B,e,-⟩ | ⟨g,cap,cur,e,-⟩
     ·exact⟨_,_,e⟩
     ·exact⟨_,_,e⟩
    obtain⟨B,cap',hB⟩:=hsl
    simp [execOp,ho,resolve,invoke,builtin,hv,h1.1,hB,key]
   ·exact⟨0,us,q1,q2,q3.keep_ (fun _ _=>rfl) fun b hb=>(hI b hb).1⟩
  ·obtain⟨ad,rfl,-,hcell⟩:=u3 h0
   obtain⟨g,cap,hr,hcap,-,-⟩:=Iv q1 h0
   have D:Br (ρ k)=some g:=by rw [hr]; exact Gu (by omega)
   obtain⟨X,hst,hnew⟩:=eY (P:=P) (i:=0) hlo D u2 (hD u2) (by rw [hn,hn']; omega)
   rw [hsplice] at hnew
   have hokN:Fr (.int .i64 (N:Int))=true:=by
    have e3:IntKind.i64.min=-9223372036854775808:=by decide
    have e4:IntKind.i64.max=9223372036854775807:=by decide
    unfold maxLen at hc
    exact Gr.2 ⟨by omega,by omega⟩
   refine iX (lb':=.row e sz cs') (d:=some (.val (.int .i64 (N:Int)))) (v:=.int .i64 (N:Int)) (w':=w.setRow g X) ha hdst hL (.inr ?_) ⟨rfl,rfl,rfl,Ip w g X⟩ (fun b hb=>E6 w g b X fun e=>hb (by show Br (ρ k)=some b; rw [D,e])) (fun I' hI=>⟨hnew I' hI,fun x hx=>by injection hx with hx; subst hx; exact Jg hokN⟩) ⟨fun k' hk'=>hk'.elim,fun x k' hx hm=>by injection hx with hx; subst hx; unfold men at hm; exact hm.elim⟩ (fun a' w' h=>hK _ a' w' rfl h)
   have hload:=run_loadCells_list (P:=P) w ad us' hcell
   rw [u1] at hload
   have key:(Builtin.copy_ #[t,t'] o.type #[.slice (some ⟨g,0,none⟩) N cap,.slice (some ad) N c]).run P w=.ok (.int .i64 (N:Int)) (w.setRow g X):=by
    simp [Builtin.copy_,run_underlying hS.ht,Builtin.lenOf,Builtin.firstCells,sizeOf,typeInfo,y1,y3,hload,hst,goInt]
   simp [execOp,ho,resolve,invoke,builtin,hv,h1.1,hr,key]
 | @makeC t x y _ _ e sz bytes k k' n c b b' zc m hS hz hn cap hc hlt hxy hm=>
  subst hn hc
  obtain⟨e1,e2⟩:=K6 (show Ey σ false [x,y]=_ from hds)
  have hx:=Ge ha e1
  have hy:=Ge ha e2
  obtain⟨zv,z1,z2,z3,z4,z5,it,y1,y2,y3,y4⟩:=aCi hz hS w (fun _=>False) m
  have hsz:=hS.hsz
  have hr:=run_make (P:=P) w t e it zv hS.ht y1 y2 k k' (m:Int) (cap:Int) (by omega) (by omega) (by
   rw [y4]
   have:((bytes * cap:Nat):Int)<=281474976710656:=by rw [aGj]; omega
   rwa [Int.natCast_mul] at this) (by omega)
  simp only [aGn,y3] at hr
  have hcells:(madeCells zv.cells (cap * sz)).toList=(List.replicate cap zv.cells.toList).flatten:=by
   unfold madeCells
   exact Ub zv.cells cap sz z2 hsz
  refine oG (lb:=.row e sz (List.replicate m zc).flatten) (ks:=[]) (d:=.row tk) (w':=w.alloc (.cells (madeCells zv.cells (cap * sz)) e)) ha hdst hf0 (v:=.slice (some ⟨w.heap.size,0,none⟩) m cap) (vn:=.slice (some ⟨w.heap.size,0,none⟩) m cap) ?_ (ha.kept.alloc _) (by simp) (fun b hb _=>Below.heap_alloc w _ b hb) (fun b hb=>.inl (Nat.le_of_eq (Ft hb).1)) (fun I' hI=>⟨?_,?_⟩) ⟨fun k' hk'=>hk'.elim,fun k' hk'=>.inr (by unfold men at hk'; exact hk')⟩ (fun k' hk'=>by simp at hk') (fun a' w' h=>hK _ a' w' rfl h)
  ·simp [execOp,ho,hx,hy,hr]
  ·refine⟨m,(List.replicate m zv.cells.toList).flatten,World.rowOk_of (base:=0) ⟨by simp [z2],.inr ⟨w.heap.size,cap,madeCells zv.cells (cap * sz),rfl,aFb _,heap_alloc_new w _,by omega,by unfold maxLen; omega,size_madeCells _ _,?_⟩⟩,fun b hb=>.inl (by rw [<- (Ft hb).1]; exact ha.kept.2.2.2.1),z4.keep_ (fun b hb=>hb.elim) fun b hb=>hb.elim⟩
   rw [hcells]
   have:cap=m + (cap - m):=by omega
   rw [this,<- List.replicate_append_replicate,List.flatten_append,aHd (by simp [z2])]
   exact aFd (by simp [z2])
  ·unfold B7
   simp [H3,Value.oneCell']
 | appN hS hc hs hl _ hnp=>exact aA8 hS hc hs hl (aC3 hnp) ha hds ho hf0 hdst (fun a' w' h=>hK _ a' w' rfl h)
 | stoH ht hp hl _ _ hnp hnj=>exact aA9 ht hp hl (aC3 hnp) (aC3 hnj) ha hds ho hf0 hdst (fun a' w' h=>hK _ a' w' rfl h)
 | buildT hS hz hlen hd hoc hr hpo h1 h3 hj hnp=>exact oP hS hz hlen hd hoc hr hpo h1 h3 (I0 hj) (aC3 hnp) ha (show Ey σ false [_]=_ from hds) ho hf hdst (fun a' w' h=>hK _ a' w' rfl h)
 | appT hS _ _ hne hl hnp hnp'=>exact zI hS hne hl (aC3 hnp) (aC3 hnp') ha hds ho hf hdst (fun a' w' h=>hK _ a' w' rfl h)
 | @storeT t x y _ _ k p e sz o' e2 sz2 s hh cs z ag d b cs' ht hs hi hf ck hd _=>
  obtain⟨e1,e2'⟩:=K6 (show Ey σ true [x,y]=_ from hds)
  obtain⟨h1,h2,h3⟩:=B9 ha e1
  obtain⟨h4,-,-⟩:=B9 ha e2'
  have hL:=h3 _ _ rfl rfl
  unfold B7 at h1
  obtain⟨g,D,hv⟩:=h1
  obtain⟨n,us,vs,q⟩:=ha.lo _ _ hL
  obtain⟨us',u1,u2,u3⟩:=Lj h4 hd.ok
  have hr':=Ib.rd hd u2
  have hl:=q.hl
  have hus':us'.length=z:=by rw [<- u2.length]; exact hs
  obtain⟨X,hrun,hrow⟩:=Ra (P:=P) (p:=p) ht q.row D u1 hus' (by omega) u3
  have hcs':cs'.length=z:=by rw [hr'.1,hus']
  refine iX (lb':=.tree e sz o' e2 sz2 s hh (Co cs p cs')) (d:=none) (v:=undef) (w':=w.setRow g X) ha hdst hL (.inl ⟨?_,rfl⟩) ⟨rfl,rfl,rfl,Ip w g X⟩ (fun b hb=>E6 w g b X fun e=>hb (by rw [e]; exact .inl D)) (fun I' hI=>⟨⟨n,_,vs,q.flatW D hrow hr' (by omega) (by rw [hcs']; exact hf) hI⟩,fun x hx=>by cases hx⟩) ⟨fun k' hk'=>(ha.usedL _ _ hL).2 k' hk',fun x k' hx=>by cases hx⟩ (fun a' w' h=>hK _ a' w' rfl h)
  simp [execOp,ho,hv,hrun]
 | @storeN t x y _ _ k s i p e sz o' e2 sz2 cs z ag d b cs' c2 ht hc hs hi ck hd _=>
  obtain⟨e1,e2'⟩:=K6 (show Ey σ true [x,y]=_ from hds)
  obtain⟨h1,h2,h3⟩:=B9 ha e1
  obtain⟨h4,-,-⟩:=B9 ha e2'
  have hL:=h3 _ _ rfl rfl
  unfold B7 at h1
  obtain⟨vs',u,g,r1,r2,D,hv⟩:=h1
  obtain⟨n,us,vs,q⟩:=ha.lo _ _ hL
  have e0:=q.hs.symm.trans r1
  injection e0 with e0
  subst e0
  obtain⟨us',u1,u2,u3⟩:=Lj h4 hd.ok
  have hr':=Ib.rd hd u2
  obtain⟨p0,n2,us2,c0,p1,p2,p3,p4⟩:=q.nest i u r2 (by simp)
  rw [hc] at p1
  injection p1 with p1
  injection p1 with _ p1
  subst p1
  have hl:=p3.1
  have hus':us'.length=z:=by rw [<- u2.length]; exact hs
  obtain⟨X,hrun,hrow⟩:=Ra (P:=P) (p:=p) ht p2 D u1 hus' (by omega) u3
  refine iX (lb':=.tree e sz o' e2 sz2 s none (cs.set (i * sz + o') (.sl sz2 (Co c2 p cs')))) (d:=none) (v:=undef) (w':=w.setRow g X) ha hdst hL (.inl ⟨?_,rfl⟩) ⟨rfl,rfl,rfl,Ip w g X⟩ (fun b hb=>E6 w g b X fun e=>hb (by rw [e]; exact .inr ⟨vs,i,u,q.hs,r2,by simp,D⟩)) (fun I' hI=>⟨⟨n,us,vs,q.nestW r2 D hrow hI ((p3.splice hr' p).keep_ (fun b hb=>(hI b hb).2) fun b hb=>(hI b hb).1)⟩,fun x hx=>by cases hx⟩) ⟨fun k' hk'=>(ha.usedL _ _ hL).2 k' hk',fun x k' hx=>by cases hx⟩ (fun a' w' h=>hK _ a' w' rfl h)
  simp [execOp,ho,hv,hrun]
 | @lenV t x _ _ k ds e bytes hS=>
  have e1:=Ih (show Ey σ true [x]=_ from hds)
  obtain⟨h1,-,h3⟩:=B9 ha e1
  unfold B7 at h1
  obtain⟨b,vs,q1,q2,q3,q4,q5,q6⟩:=ha.lo _ _ (h3 _ _ rfl rfl)
  have hlen:=q6.length
  refine Ja ha hdst (v:=.int .i64 (ds.length:Int)) ?_ (Jg (Gr.2 ?_)) (fun k' hk'=>Sy k' hk') (fun a' w' h=>hK _ a' w' rfl h)
  ·have:(Builtin.len_ #[t] o.type #[.slice (some ⟨b,0,none⟩) vs.length vs.length]).run P w=.ok (.int .i64 (ds.length:Int)) w:=by
    simp [Builtin.len_,run_underlying hS.ht,goInt,hlen]
   simp [execOp,ho,resolve,invoke,builtin,h1.1,q1,this]
  ·have e3:IntKind.i64.min=-9223372036854775808:=by decide
   have e4:IntKind.i64.max=9223372036854775807:=by decide
   unfold maxLen at q2
   omega
 | @idxA t x i _ _ cs kk b1 b2 n m e j ht he hj hm=>
  subst hj
  obtain⟨e1,e2⟩:=K6 (show Ey σ true [x,i]=_ from hds)
  obtain⟨h1,-,-⟩:=B9 ha e1
  have hi:=Ge ha e2
  unfold B7 at h1
  obtain⟨ad,hv,hI,hr⟩:=h1
  refine Ja ha hdst (v:=.pointer (some (ad.add j))) ?_ (by
   unfold B7
   refine⟨_,rfl,by rw [Mq]; exact hI,Jl.of_at _ 0 fun j' c hj'=>?_⟩
   rw [aE8] at hj'
   have:=hr.at_ hj'
   rw [aE6] at this
   rw [aE6,Qm]
   exact this) (fun k hk=>by unfold men at hk; exact hk.elim) (fun a' w' h=>hK _ a' w' rfl h)
  have hlen:P.arrayLen t=m:=by unfold Program.arrayLen; rw [ht]
  have hel:P.elem t=e:=by unfold Program.elem; rw [ht]
  have hrun:(Instr.indexAt t (.pointer (some ad)) (.int kk (j:Int))).run P w=.ok (.pointer (some (ad.add j))) w:=by
   rw [run_indexAt_array w t ad kk _ (by rw [hlen,hel]; exact ht),hlen,if_pos ⟨by omega,by omega⟩,hel,he.size]
   simp
  simp [execOp,ho,hv,hi,hrun]
 | @lenQ t x _ _ k e e' sz bytes cs n hS hn=>
  obtain⟨h1,-,h3⟩:=B9 ha (Ih (show Ey σ true [x]=_ from hds))
  unfold B7 at h1
  obtain⟨m,us,ho',-,hr⟩:=ha.lo _ _ (h3 _ _ rfl rfl)
  have hm:m=n:=aD6 hS.hsz (ho'.1.symm.trans (hr.1.symm.trans hn))
  subst hm
  obtain⟨A,c,hv,hle⟩:∃ A c,ρ k=.slice A m c/\m<=maxLen:=by
   rcases ho'.2 with ⟨A,q1,q2⟩ | ⟨g,base,cap,cur,fr,q1,q2,q3,q4,q5,-⟩
   ·exact⟨A,0,by rw [q1,q2],by rw [q2]; exact aFb _⟩
   ·exact⟨_,cap,q1,aFj q4 q5⟩
  refine Ja ha hdst (v:=.int .i64 (m:Int)) ?_ (Jg (Gr.2 ?_)) (fun k' hk'=>Sy k' hk') (fun a' w' h=>hK _ a' w' rfl h)
  ·have:(Builtin.len_ #[t] o.type #[.slice A m c]).run P w=.ok (.int .i64 (m:Int)) w:=by
    simp [Builtin.len_,run_underlying hS.ht,goInt]
   simp [execOp,ho,resolve,invoke,builtin,h1.1,hv,this]
  ·have e3:IntKind.i64.min=-9223372036854775808:=by decide
   have e4:IntKind.i64.max=9223372036854775807:=by decide
   unfold maxLen at hle
   omega
theorem N7 {k0 k:Nat} {lb:LB} {d:Option DV} (h:(U1 k0 lb d).l k≠none):k=k0:=by
 have h':(bif Nat.beq k k0 then some (some lb) else none)≠none:=h
 cases hb:Nat.beq k k0 with
 | true=>exact aDr hb
 | false=>rw [hb] at h'; exact absurd rfl h'
theorem pB {tk k:Nat} {lb:LB} {d:DV} (h:(S8 tk lb d).l k≠none):k=tk:=by
 have h':(bif Nat.beq k tk then some (some lb) else none)≠none:=h
 cases hb:Nat.beq k tk with
 | true=>exact aDr hb
 | false=>rw [hb] at h'; exact absurd rfl h'
theorem J9 {el:List (Nat×Option LB)} {d:Option DV} {k:Nat} (h:(Jh el d).l k≠none):k∈el.map (·.1):=by
 have h:D5 el k≠none:=h
 cases hl:D5 el k with
 | none=>exact absurd hl h
 | some x=>exact aFr.2 ⟨_,E4 hl,rfl⟩
theorem ExtR.sim {tk:Nat} {op:Op} {ty:TypeId} {ds ds':List (DV×Option LB)} {env:Sn} {wr:List Nat} {E:K4->Prop} {np:Nat} (h:ExtR P np tk op ty ds env wr E) (hs:Hj (Ie op) ds ds'):ExtR P np tk op ty ds' env wr E:=by
 have two:∀ {x y:DV×Option LB} {ds':List (DV×Option LB)},Hj true [x,y] ds'->M4 x.1=false->∃ b,ds'=[x,(y.1,b)]:=fun {x y ds'} h hp=>by
  match ds',h with
  | [x',(d2,b2)],⟨h1,h2,h3,h4,_⟩=>
   have h3:y.1=d2:=h3
   rcases h2 with h2 | ⟨-,h2⟩
   ·exact⟨b2,by rw [h3,<- Prod.ext h1 h2]⟩
   ·rw [hp] at h2; cases h2
 cases hb:Ie op with
 | false=>rw [hb] at hs; rw [<- hs.eq]; exact h
 | true=>
  cases h with
  | sem h1 h2 h3 h4=>exact .sem (fun {cx ρ σ a w o K Q l0} a1 a2 a3=>by
    obtain⟨ds2,a4,a5⟩:=a3
    exact h1 a1 a2 ⟨ds2,hs.trans a4,a5⟩) h2 h3 fun ds2 wr' e a=>h4 ds2 wr' e (hs.trans a)
  | storeT a1 a2 a3 a4 a5 a6=>
   obtain⟨b,rfl⟩:=two hs rfl
   exact .storeT a1 a2 a3 a4 a5 a6
  | storeN a1 a2 a3 a4 a5 a6=>
   obtain⟨b,rfl⟩:=two hs rfl
   exact .storeN a1 a2 a3 a4 a5 a6
  | stoH a1 a2 a3 a4 a5 a6 a7=>
   rw [<- hs.np rfl]
   exact .stoH a1 a2 a3 a4 a5 a6 a7
  | lenV a1=>
   rw [<- hs.np rfl]
   exact .lenV a1
  | lenQ a1 a2=>
   rw [<- hs.np rfl]
   exact .lenQ a1 a2
  | _=>cases hb
theorem ExtR.key {tk:Nat} {op:Op} {ty:TypeId} {ds:List (DV×Option LB)} {env:Sn} {wr:List Nat} {E:K4->Prop} {np:Nat} (h:ExtR P np tk op ty ds env wr E):∀ e,E e->∀ k,e.l k≠none->k∈wr\/(tk<=k/\k < tk + 8):=by
 cases h with
 | sem _ hkey _ _=>exact hkey
 | next=>
  rintro e (⟨-,rfl⟩ | ⟨i,p,-,-,rfl⟩) k hk
  ·exact .inl (aDv.2 (N7 hk))
  ·exact .inl (aDv.2 (N7 hk))
 | entry=>rintro e rfl k hk; exact absurd rfl hk
 | copyR=>rintro e rfl k hk; exact .inl (aDv.2 (N7 hk))
 | makeC=>rintro e rfl k hk; have:=pB hk; exact .inr (by omega)
 | storeT=>rintro e rfl k hk; exact .inl (aDv.2 (N7 hk))
 | appN=>rintro e rfl k hk; have:=J9 hk; simp at this; rcases this with rfl | rfl <;> first | (exact .inr (by omega)) | (exact .inl (aDv.2 rfl))
 | stoH=>rintro e rfl k hk; have:=J9 hk; simp at this; rcases this with rfl | rfl | rfl <;> first | (exact .inr (by omega)) | (exact .inl (by simp))
 | buildT=>rintro e rfl k hk; have:=J9 hk; simp at this; rcases this with rfl | rfl | rfl <;> first | (exact .inr (by omega)) | (exact .inl (by simp))
 | appT=>rintro e rfl k hk; have:=J9 hk; simp at this; rcases this with rfl | rfl | rfl | rfl <;> first | (exact .inr (by omega)) | (exact .inl (by simp))
 | storeN=>rintro e rfl k hk; exact .inl (aDv.2 (N7 hk))
 | lenV=>rintro e rfl k hk; exact absurd rfl hk
 | idxA=>rintro e rfl k hk; exact absurd rfl hk
 | lenQ=>rintro e rfl k hk; exact absurd rfl hk
theorem ExtR.sub {tk:Nat} {op:Op} {ty:TypeId} {ds:List (DV×Option LB)} {env:Sn} {wr:List Nat} {E:K4->Prop} {np:Nat} (h:ExtR P np tk op ty ds env wr E):∀ k,k∈wr->k∈env.map (·.1):=by
 cases h with
 | sem _ _ hsub _=>exact hsub
 | next hj=>intro k hk; rw [aDv.1 hk]; exact aFr.2 ⟨_,hj,rfl⟩
 | copyR _ _ hm=>intro k hk; rw [aDv.1 hk]; exact aFr.2 ⟨_,hm,rfl⟩
 | storeT _ _ _ _ _ hm=>intro k hk; rw [aDv.1 hk]; exact hm
 | appN _ _ _ _ hm=>intro k hk; rw [aDv.1 hk]; exact hm
 | stoH _ _ _ hm hj=>
  intro k hk
  simp at hk
  rcases hk with rfl | rfl
  ·exact hm
  ·exact hj
 | buildT _ _ _ _ _ _ _ _ _ hj=>intro k hk; rw [aDv.1 hk]; exact aFr.2 ⟨_,hj,rfl⟩
 | appT _ hL hL'=>
  intro k hk
  simp at hk
  rcases hk with rfl | rfl
  ·exact hL
  ·exact hL'
 | storeN _ _ _ _ _ hm=>intro k hk; rw [aDv.1 hk]; exact hm
 | _=>intro k hk; cases hk
theorem Ib.no_row:∀ {ks:List (Option Nat)} {ds:List DV} {cs:List C},Ib ks ds cs->∀ d∈ds,∀ j,d≠.row j
 | _,_,_,.nil,d,hd,_=>by cases hd
 | _,_,_,.cons h hs,d,hd,j=>by
  rcases aE1.1 hd with rfl | hd
  ·rintro rfl; cases h
  ·exact hs.no_row d hd j
theorem ExtR.excl {tk:Nat} {op:Op} {ty:TypeId} {ds:List (DV×Option LB)} {env:Sn} {wr wr':List Nat} {e:K4} {E:K4->Prop} {np:Nat} (h':Fv P tk op ty ds wr e) (h:ExtR P np tk op ty ds env wr' E):False:=by
 cases h with
 | sem _ _ _ hex=>exact hex _ _ _ (Hj.refl _ _) h'
 | next=>cases h'
 | entry=>cases h'
 | copyR _ _ _ hs=>obtain⟨b',rfl⟩:=hs; cases h'
 | makeC hS hz hn hc hlt hxy=>
  cases h'
 | storeT=>cases h'
 | storeN=>cases h'
 | appN=>cases h' with | append _ ht _ _=>cases ht
 | stoH=>cases h'
 | @buildT t _ _ x d b e sz o e2 sz2 bytes z r pre post ck1 ck2 c1 c2 c3 j hS hz hlen hd hoc hr hpo h1 h3 hj _=>
  cases h' with
  | buildSl hS' hz' hlen' hd' hk hc ho'=>
   obtain⟨rfl,rfl⟩:=hS.uniq hS'
   obtain rfl:=hz.uniq hz'
   have h4:some r=some _:=hd.symm.trans hd'
   injection h4 with h4
   subst h4
   exact hc.no_row (.row j) (by rw [hr]; simp) j rfl
 | appT hS=>
  cases h' with
  | append _ ht _ _=>cases ht
 | lenV=>
  cases h' with
  | len _ h=>cases h
 | idxA=>cases h'
 | lenQ=>
  cases h' with
  | len _ h=>cases h
end
end Go.Proofs.YtfanepojdefdpaaGreat
