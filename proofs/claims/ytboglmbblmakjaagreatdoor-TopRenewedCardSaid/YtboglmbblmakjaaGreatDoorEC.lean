import Derived.Test.YtboglmbblmakjaaGreatDoorEB
import Derived.Great.FillDense
import Derived.ArgAppend
import Derived.Great.BuildSlice
set_option linter.unusedVariables false
set_option linter.unusedSimpArgs false
namespace Go.Proofs.YtboglmbblmakjaaGreatDoor
open Go.RowKit
section
variable {P:Program} {cx:Cx} {ρ:Nat->Value} {σ:St} {a:Act} {w w':World} {o:Oper} {K:Act->World->Prop} {Q:Exit->Act->World->Prop}
theorem Vl (w:World) (g k:Nat) (cs:Array Value) (h:k≠g):(w.setRow g cs).heap[k]?=w.heap[k]?:=by
 simp only [World.setRow,bDf]
 rw [if_neg (by omega)]
theorem Xy (w:World) (g:Nat) (cs:Array Value):(w.setRow g cs).heap.size=w.heap.size:=by simp [World.setRow]
theorem aUf (ha:Fg cx ρ σ a w) (hdst:∀ t,o.dst=some t->t < cx.N) {k0 g:Nat} {lb lb':LB} (hL:σ.L k0=some lb) (G:Dg (ρ k0)=some g) {cs':Array Value} (hrun:(execOp a.eval o).run P w=.ok .skip (w.setRow g cs'))
  (hnew:∀ I':Nat->Prop,(∀ b,O1 cx σ ρ w b->I' b/\(w.setRow g cs').heap[b]?=w.heap[b]?)->U2 cx ρ I' (w.setRow g cs') (ρ k0) lb') (hu:∀ k',Wt lb' k'->σ.U k'=true)
  (hK:∀ a' w',O8 cx (σ.app o.dst (Sn k0 lb')) a' w'->K a' w'):o.wp P a w K Q:=by
 unfold Oper.wp
 rw [hrun]
 have hb0:=(ha.lo k0 lb hL).blk G
 have hl:∀ k lb1,(Sn k0 lb').l k=some (some lb1)->k=k0/\lb1=lb':=fun k lb1 h=>by
  have h':(bif Nat.beq k k0 then some (some lb') else none)=some (some lb1):=h
  cases hb:Nat.beq k k0 with
  | true=>
   rw [hb] at h'
   injection h' with h'
   injection h' with h'
   exact⟨aFs hb,h'.symm⟩
  | false=>rw [hb] at h'; cases h'
 have hl0:(Sn k0 lb').l k0≠none:=by
  have:(Sn k0 lb').l k0=bif Nat.beq k0 k0 then some (some lb') else none:=rfl
  rw [this]; simp
 obtain⟨c1,c2,c3,c4,c5⟩:=ha.kept
 refine hK _ _ ⟨ρ,ha.app (v:=undef) ⟨c1,c2,c3,by rw [Xy]; exact c4,fun b hb hM=>?_⟩ (by rw [Xy]; exact aKp _) hdst (fun _ _=>rfl) (fun b hb h=>Vl w g b cs' fun e=>h k0 lb hl0 hL (by rw [e]; exact G)) (fun k lb1 b h1 h2=>?_) (fun k k' lb1 lb2 b h1 h2 _ _=>by rw [(hl k lb1 h1).1,(hl k' lb2 h2).1]) (fun hI _=>?_) ⟨fun k lb1 k' h1 h2=>?_,fun d' k' h1 h2=>?_⟩ (fun k lb1 b h1 h2 h3=>by obtain⟨rfl,rfl⟩:=hl k lb1 h1; exact ha.fresh k lb b hL h2 h3)⟩
 ·refine (Vl w g b cs' fun e=>?_).trans (c5 b hb hM)
  subst e
  rcases hb0.2 with h | h
  ·omega
  ·exact hM h
 ·obtain⟨rfl,rfl⟩:=hl k lb1 h1
  exact .inr ⟨k,lb,hl0,hL,h2⟩
 ·refine⟨fun k lb1 h=>?_,fun d' hd'=>by cases hd'⟩
  obtain⟨rfl,rfl⟩:=hl k lb1 h
  exact hnew _ hI
 ·obtain⟨rfl,rfl⟩:=hl k lb1 h1
  exact .inl (hu k' h2)
 ·cases h1
theorem mI {t:TypeId} {ag:Bool} {sz:Nat} (ht:Ty P t ag sz) {g i:Nat} {ty:TypeId} {cur:Array Value} {v:Value} {us:List Value} (G:w.heap[g]?=some (.cells cur ty)) (hv:v.cells.toList=us) (hl:us.length=sz) (hi:i + sz<=cur.size) (h1:∀ u∈us,u.oneCell'=true) :
  (Instr.storeAt t (.pointer (some ⟨g,i,none⟩)) v).run P w=.ok () (w.setRow g (Fa cur.toList i us).toArray):=by
 have hsz:v.cells.size=sz:=by rw [<- hl,<- hv]; simp
 have:=run_storeCells_at P g i ty us 0 cur w G (by omega) h1
 simp only [Nat.add_zero] at this
 simp only [Instr.storeAt,Instr.sureAddr,storeVar,Sem.run_bind,Sem.run_pure,Result.andThen_ok,ht.size,hsz,hv,this]
 simp [Fa,this]
theorem Cj.splice {I:Nat->Prop} {ds xs:List DV} {vs us:List Value} (h:Cj ρ I w ds vs) (h':Cj ρ I w xs us) (i:Nat):Cj ρ I w (Fa ds i xs) (Fa vs i us):=by
 have app:∀ {a b:List DV} {c d:List Value},Cj ρ I w a c->Cj ρ I w b d->Cj ρ I w (a ++ b) (c ++ d):=by
  intro a
  induction a with
  | nil=>intro b c d h1 h2; unfold Cj at h1; subst h1; simpa using h2
  | cons x a ih=>
   intro b c d h1 h2
   unfold Cj at h1
   obtain⟨u,us,rfl,h3,h4⟩:=h1
   rw [aX1,aX1]
   unfold Cj
   exact⟨u,_,rfl,h3,ih h4 h2⟩
 have t1:=Cj.sub h 0 i
 have hlen:=h.length
 have hlen':=h'.length
 have t2:=Cj.sub h (i + xs.length) ds.length
 unfold Go.Proofs.YtboglmbblmakjaaGreatDoor.Fa
 rw [<- hlen']
 have e1:(ds.drop (i + xs.length)).take ds.length=ds.drop (i + xs.length):=aKz (by rw [aKq]; omega)
 have e2:(vs.drop (i + xs.length)).take ds.length=vs.drop (i + xs.length):=aKz (by rw [aKq]; omega)
 rw [e1,e2] at t2
 exact app (app (by simpa using t1) h') t2
theorem Ze {α:Type} {l xs:List α} {i:Nat} {x:α} (h:x∈Fa l i xs):x∈l\/x∈xs:=by
 unfold Fa at h
 rcases aKi.1 h with h | h
 ·rcases aKi.1 h with h | h
  ·exact .inl (aWf h)
  ·exact .inr h
 ·exact .inl (aV6 h)
theorem bA {ds:List DV} {k:Nat}:G9 ds k↔∃ d,d∈ds/\men d k:=by
 induction ds with
 | nil=>unfold G9; simp
 | cons d l ih=>unfold G9; rw [ih]; simp
theorem eV {ds xs:List DV} {i k:Nat} (h:G9 (Fa ds i xs) k):G9 ds k\/G9 xs k:=by
 rw [bA] at h
 obtain⟨d,h1,h2⟩:=h
 rcases Ze h1 with h3 | h3
 ·exact .inl (bA.2 ⟨d,h3,h2⟩)
 ·exact .inr (bA.2 ⟨d,h3,h2⟩)
theorem aBo {t:TypeId} {x y:Operand} {k i sz bt:Nat} {ds:List DV} {ag:Bool} {d:DV} {b:Option LB} (ht:Ty P t ag sz) (hs:(Ed d).length=sz) (hi:i + sz<=ds.length) (hoc:(Ed d).all kY=true)
  (ha:Fg cx ρ σ a w) (hds:Gk σ true [x,y]=some [(.ptr k i,some (.box ds bt)),(d,b)]) (ho:o.op=.store t x y) (hdst:∀ t,o.dst=some t->t < cx.N) (hK:∀ a' w',O8 cx (σ.app o.dst (Sn k (.box (Fa ds i (Ed d)) bt))) a' w'->K a' w'):o.wp P a w K Q:=by
 obtain⟨e1,e2⟩:=Vk hds
 obtain⟨h1,h2,h3⟩:=D8 ha e1
 obtain⟨h4,h5,-⟩:=D8 ha e2
 have hL:=h3 _ _ rfl rfl
 unfold Dk at h1
 obtain⟨g,G,hv⟩:=h1
 obtain⟨g',vs,q1,q2,q3,q4,q5⟩:=ha.lo _ _ hL
 have hgg:g'=g:=by rw [q1] at G; injection G
 subst hgg
 obtain⟨us,u1,u2,u3⟩:=Vv h4 hoc
 have hrun:=mI (P:=P) (w:=w) ht (i:=i) q2 u1 (by rw [<- u2.length]; exact hs) (by simp; rw [<- q5.length]; exact hi) u3
 refine aUf ha hdst hL G (cs':=(Fa vs.toArray.toList i us).toArray) (lb':=.box (Fa ds i (Ed d)) bt) ?_ (fun I' hI=>?_) (fun k' hk'=>?_) hK
 ·simp [execOp,ho,hv,hrun]
 ·refine⟨g',Fa vs i us,q1,setRow_heap w g' _ _ bt (0,0) q2,q3,fun u hu=>?_,Cj.step hI _ _ (fun _ _=>rfl) (q5.splice u2 i)⟩
  rcases Ze hu with h | h
  ·exact q4 u h
  ·exact u3 u h
 ·rcases eV hk' with h | h
  ·exact (ha.usedL _ _ hL).2 k' h
  ·exact h5 k' (X4 h)
theorem Mr.ok:∀ {ks:List (Option Nat)} {ds:List DV} {cs:List C},Mr ks ds cs->ds.all kY=true
 | _,_,_,.nil=>rfl
 | _,_,_,.cons h hs=>by
  simp only [List.all_cons,aF5]
  exact⟨by cases h <;> rfl,hs.ok⟩
theorem I1.splice {I:Nat->Prop} {cs cs':List C} {us us':List Value} (h:I1 w I cs us) (h':I1 w I cs' us') (i:Nat):I1 w I (Fa cs i cs') (Fa us i us'):=by
 have t1:I1 w I (cs.take i) (us.take i):=⟨by rw [aHg,aHg,h.1],fun j c u a b=>by
  rw [aK0] at a b
  split at a
  ·rename_i hj
   rw [if_pos hj] at b
   exact h.2 j c u a b
  ·cases a⟩
 have t2:I1 w I (cs.drop (i + cs'.length)) (us.drop (i + us'.length)):=⟨by rw [aKq,aKq,h.1,h'.1],fun j c u a b=>by
  rw [aLf] at a b
  rw [h'.1] at a
  exact h.2 _ c u a b⟩
 exact (t1.append h').append t2
theorem aEj {t:TypeId} {x y:Operand} {k i e s sz:Nat} {cs cs':List C} {ag:Bool} {d:DV} {b:Option LB} (ht:Ty P t ag sz) (hs:(Ed d).length=sz) (hi:i + sz<=cs.length) {ck:List (Option Nat)} (hd:Mr ck (Ed d) cs')
  (ha:Fg cx ρ σ a w) (hds:Gk σ true [x,y]=some [(.ptr k i,some (.row e s cs)),(d,b)]) (ho:o.op=.store t x y) (hdst:∀ t,o.dst=some t->t < cx.N) (hK:∀ a' w',O8 cx (σ.app o.dst (Sn k (.row e s (Fa cs i cs')))) a' w'->K a' w'):o.wp P a w K Q:=by
 obtain⟨e1,e2⟩:=Vk hds
 obtain⟨h1,h2,h3⟩:=D8 ha e1
 obtain⟨h4,h5,-⟩:=D8 ha e2
 have hL:=h3 _ _ rfl rfl
 unfold Dk at h1
 obtain⟨g,G,hv⟩:=h1
 obtain⟨n,us,hw,hM,hr⟩:=ha.lo _ _ hL
 obtain⟨us',u1,u2,u3⟩:=Vv h4 hd.ok
 have hr':=Mr.rd hd u2
 rcases hw.2 with ⟨A0,q1,-⟩ | ⟨g',cap,cur,q1,q2,q3,q4,q5,q6,q7⟩
 ·rw [q1] at G; cases A0 <;> cases G
 ·have hgg:g'=g:=by rw [q1] at G; exact (Ks G).1
  subst hgg
  have hul:us.length=n * s:=hw.1
  have hcl:cs.length=us.length:=hr.1
  have hn:n * s<=cap * s:=aS3 _ q4
  have hus':us'.length=sz:=by rw [<- u2.length]; exact hs
  have hrun:=mI (P:=P) (w:=w) ht (i:=i) q3 u1 hus' (by omega) u3
  refine aUf ha hdst hL G (cs':=(Fa cur.toList i us').toArray) (lb':=.row e s (Fa cs i cs')) ?_ (fun I' hI=>?_) (fun k' hk'=>hk'.elim) hK
  ·simp [execOp,ho,hv,hrun]
  ·have hlen:∀ {α:Type} (l xs:List α),i + xs.length<=l.length->(Fa l i xs).length=l.length:=fun l xs h=>by
    unfold Fa
    simp only [aF3,aHg,aKq]
    omega
   refine⟨n,Fa us i us',⟨by rw [hlen us us' (by omega)]; exact hul,.inr ⟨g',cap,(Fa cur.toList i us').toArray,q1,q2,setRow_heap w g' _ _ e (0,0) q3,q4,q5,?_,?_⟩⟩,hM,?_⟩
   ·simp only [List.size_toArray]
    rw [hlen cur.toList us' (by simp; omega)]
    simpa using q6
   ·have hcur:cur.toList.length=cap * s:=by simpa using q6
    unfold Fa
    have e3:us.take i=cur.toList.take i:=by rw [<- q7,bD4]; congr 1; omega
    have e4:us.drop (i + us'.length)=(cur.toList.drop (i + us'.length)).take (n * s - (i + us'.length)):=by rw [<- q7,List.drop_take]
    rw [e3,e4]
    rw [bDm,aKz (by simp only [aF3,aHg]; omega)]
    congr 1
    congr 1
    simp only [aF3,aHg]
    omega
   ·exact (hr.splice hr' i).keep_ (fun b hb=>(hI b hb).2) fun b hb=>(hI b hb).1
theorem vK.vals (ha:Fg cx ρ σ a w) {tc:Bool} {x:Operand} {q:DV×Option LB} {sz:Nat} {cs:List C} (h:vK q sz cs) (hx:ev σ tc x=some q) :
  ∃ A m c us,a.eval x=.slice A m c/\us.length=m * sz/\I1 w (O1 cx σ ρ w) cs us/\(0 < m->∃ ad,A=some ad/\∀ j u,us[j]?=some u->w.cell? (ad.add j)=some u):=by
 cases h with
 | sl=>
  have h1:=(D8 ha hx).1
  unfold Dk at h1
  obtain⟨A,m,c,hv,-⟩:=h1.slice
  rw [hv] at h1
  obtain⟨us,u1,u2,u3⟩:=h1.vals
  exact⟨A,m,c,us,hv,u1,u2,fun hm=>by obtain⟨ad,e1,-,e2⟩:=u3 hm; exact⟨ad,e1,e2⟩⟩
 | row=>
  obtain⟨h1,-,h3⟩:=D8 ha hx
  unfold Dk at h1
  obtain⟨n,us,ho,-,hr⟩:=ha.lo _ _ (h3 _ _ rfl rfl)
  rcases aLg n with hn | hn
  ·subst hn
   have hu0:us=[]:=aF9 (by have:=ho.1; simpa using this)
   rcases ho.2 with ⟨A,q1,-⟩ | ⟨g,cap,cur,q1,-⟩
   ·exact⟨A,0,0,us,h1.1.trans q1,ho.1,hr,fun h=>absurd h (by omega)⟩
   ·exact⟨_,0,cap,us,h1.1.trans q1,ho.1,hr,fun h=>absurd h (by omega)⟩
  ·obtain⟨g,cap,q1,-,-,q2⟩:=gX ho hn
   exact⟨_,n,cap,us,h1.1.trans q1,ho.1,hr,fun _=>⟨_,rfl,fun j u hj=>by rw [Tl,aNm]; exact q2 j u hj⟩⟩
 | @part k off m e sz cs0 hl=>
  obtain⟨h1,-,h3⟩:=D8 ha hx
  unfold Dk at h1
  obtain⟨A,c,hv,-,-,hA,-⟩:=h1
  obtain⟨n,us,ho,-,hr⟩:=ha.lo _ _ (h3 _ _ rfl rfl)
  have hcl:=hr.1
  refine⟨A,m,c,(us.drop off).take (m * sz),hv,by rw [aHg,aKq]; omega,⟨by rw [aHg,aKq,aHg,aKq]; omega,fun j x u a b=>?_⟩,fun hm=>?_⟩
  ·rw [aK0] at a b
   split at a
   ·rename_i hj
    rw [if_pos hj] at b
    rw [aLf] at a b
    exact hr.2 _ x u a b
   ·cases a
  ·obtain⟨g,G,rfl⟩:=hA hm
   refine⟨_,rfl,fun j u hj=>?_⟩
   rw [aK0] at hj
   split at hj
   ·rw [aLf] at hj
    have hn:0 < n:=by
     rcases aLg n with h | h
     ·have:=(aBe.1 hj).1
      rw [ho.1,h] at this
      simp at this
     ·exact h
    obtain⟨g',cap,q1,-,-,q2⟩:=gX ho hn
    rw [q1] at G
    obtain⟨G,-⟩:=Ks G
    dsimp only at G
    subst G
    rw [Tl]
    exact q2 _ u hj
   ·cases hj
 | nil=>
  exact⟨none,0,0,[],He ha hx,by simp,⟨rfl,fun j c u h _=>by simp at h⟩,fun h=>absurd h (by omega)⟩
theorem wB {t e:TypeId} {ty:TypeId} {sz bytes base n:Nat} {v:Value} {us us':List Value} (hS:Jf P t e sz bytes) (ho:w.ownsRow base e sz v n us) {A:Option Addr} {m c:Nat} (hl':us'.length=m * sz) (h1:∀ u∈us',u.oneCell'=true)
  (hA:0 < m->∃ ad,A=some ad/\∀ j u,us'[j]?=some u->w.cell? (ad.add j)=some u) (hlen:(us.length + us'.length) * bytes<=140737488355328) (hbase:base<=w.heap.size) :
  ∃ v' w',(Builtin.append_ #[t,t] ty #[v,.slice A m c]).run P w=.ok v' w'/\w'.ownsRow base e sz v' (n + m) (us ++ us')/\w.grownBy w' v.ownBlock/\(v'.ownBlock=v.ownBlock\/v'.ownBlock=some w.heap.size):=by
 obtain⟨i,z,ht,q1,q2,q3,q4⟩:∃ i z,P.underlying t=some (.slice e)/\P.info? e=some i/\i.zero=some z/\(i.size=sz/\i.bytes=bytes)/\z.cells.size=sz:=by
  obtain⟨i,z,a,b,c,d,e⟩:=hS.hi
  exact⟨i,z,hS.ht,a,b,⟨c,d⟩,e⟩
 have hsz:=hS.hsz
 have hnm:n + m<=us.length + us'.length:=by
  rw [ho.1,hl']
  have:=aUq n hsz
  have:=aUq m hsz
  omega
 have hb:(n + m) * bytes<=140737488355328:=aRp (aS3 _ hnm) hlen
 have h63:n + m<=maxLen:=by
  have:=aUq (n + m) hS.hby
  unfold maxLen
  omega
 have go:∀ ad,A=some ad->(∀ j u,us'[j]?=some u->w.cell? (ad.add j)=some u)->∃ v' w',(Builtin.append_ #[t,t] ty #[v,.slice A m c]).run P w=.ok v' w'/\w'.ownsRow base e sz v' (n + m) (us ++ us')/\w.grownBy w' v.ownBlock/\(v'.ownBlock=v.ownBlock\/v'.ownBlock=some w.heap.size):=by
  rintro ad rfl hc
  obtain⟨v',w',hrun,h2,h3,_,h5⟩:=run_append_own_at (P:=P) w base t ty e i z sz bytes ht q1 q2 q3.1 q3.2 q4 hsz v n us ho ad m c us' hl' hc h1 h63 hb hbase
  exact⟨v',w',hrun,h2,h3,h5⟩
 rcases aLg m with hm | hm
 ·subst hm
  have e1:us'=[]:=aF9 (by simpa using hl')
  subst e1
  cases A with
  | some ad=>exact go ad rfl fun j u h=>by simp at h
  | none=>
   have hrun:(Builtin.append_ #[t,t] ty #[v,.slice none 0 c]).run P w=.ok v w:=by
    rcases ho.2 with ⟨rfl,rfl⟩ | ⟨g,cap,cur,rfl,_,_,hnc,_⟩
    ·simp [Builtin.append_,run_underlying ht,sizeOf,typeInfo,q1,Builtin.lenOf,Builtin.firstCells]
    ·simp [Builtin.append_,run_underlying ht,sizeOf,typeInfo,q1,Builtin.lenOf,Builtin.firstCells,hnc,storeCells]
   exact⟨v,w,hrun,by simpa using ho,World.grownBy.refl w _,.inl rfl⟩
 ·obtain⟨ad,rfl,hc⟩:=hA hm
  exact go ad rfl hc
theorem aMa {I:Nat->Prop} {cs:List C} {us:List Value} (h:I1 w I cs us):∀ u∈us,u.oneCell'=true:=by
 intro u hu
 obtain⟨j,hj,rfl⟩:=aUt hu
 have hj':j < cs.length:=by rw [h.1]; exact hj
 exact (h.2 j cs[j] _ (aBb hj') (aBb hj)).one
theorem aIg {A:Option Addr} {n c:Nat} {v:Value} (h:v=.slice A n c) (hc:0 < c\/A=none):Dg v=v.ownBlock:=by
 subst h
 cases A with
 | none=>rfl
 | some a=>
  rcases hc with hc | hc
  ·rw [Pt hc]; rfl
  ·cases hc
theorem aHl {v:Value} {b:Nat} (h:∃ A n c,v=.slice A n c) (hb:Dg v=some b):v.ownBlock=some b:=by
 obtain⟨A,n,c,rfl⟩:=h
 cases A with
 | none=>cases hb
 | some a=>obtain⟨rfl,-⟩:=Ks hb; rfl
theorem aA4 {t e:TypeId} {ty:TypeId} {sz bytes n:Nat} {v:Value} {us us':List Value} (hS:Jf P t e sz bytes) (ho:w.rowOk e sz v n us) {A:Option Addr} {m c:Nat} (hl':us'.length=m * sz) (h1:∀ u∈us',u.oneCell'=true)
  (hA:0 < m->∃ ad,A=some ad/\∀ j u,us'[j]?=some u->w.cell? (ad.add j)=some u) (hlen:(us.length + us'.length) * bytes<=140737488355328) :
  ∃ v' w',(Builtin.append_ #[t,t] ty #[v,.slice A m c]).run P w=.ok v' w'/\w'.rowOk e sz v' (n + m) (us ++ us')/\w.grownBy w' (Dg v)/\(∀ b,Dg v'=some b->Dg v=some b\/w.heap.size<=b)/\∃ A n c,v'=.slice A n c:=by
 have go:w.ownsRow 0 e sz v n us->Dg v=v.ownBlock->∃ v' w',(Builtin.append_ #[t,t] ty #[v,.slice A m c]).run P w=.ok v' w'/\w'.rowOk e sz v' (n + m) (us ++ us')/\w.grownBy w' (Dg v)/\(∀ b,Dg v'=some b->Dg v=some b\/w.heap.size<=b)/\∃ A n c,v'=.slice A n c:=fun how hb=>by
  obtain⟨v',w',hrun,h2,h3,h4⟩:=wB (P:=P) (ty:=ty) hS how (A:=A) (m:=m) (c:=c) hl' h1 hA hlen (aLi _)
  have hsl:∃ A n c,v'=.slice A n c:=by
   rcases h2.2 with ⟨e,-⟩ | ⟨g,cap,cur,e,-⟩
   ·exact⟨_,_,_,e⟩
   ·exact⟨_,_,_,e⟩
  refine⟨v',w',hrun,World.rowOk_of h2,by rw [hb]; exact h3,fun b hb'=>?_,hsl⟩
  have:=aHl hsl hb'
  rcases h4 with h4 | h4
  ·rw [h4] at this
   exact .inl (hb.trans this)
  ·rw [h4] at this
   injection this with this
   exact .inr (bB3 this)
 rcases ho.2 with ⟨A0,rfl,rfl⟩ | ⟨g,cap,cur,rfl,h0,h2,h3,h4⟩
 ·have hus:us=[]:=aF9 (by have:=ho.1; simpa using this)
  subst hus
  cases A0 with
  | none=>exact go ⟨ho.1,.inl ⟨rfl,rfl⟩⟩ rfl
  | some b0=>
   obtain⟨i,z,ht,q1,q2,q3,q4⟩:∃ i z,P.underlying t=some (.slice e)/\P.info? e=some i/\i.zero=some z/\(i.size=sz/\i.bytes=bytes)/\z.cells.size=sz:=by
    obtain⟨i,z,a,b,c,d,e⟩:=hS.hi
    exact⟨i,z,hS.ht,a,b,⟨c,d⟩,e⟩
   have hsz:=hS.hsz
   rcases aLg m with hm | hm
   ·subst hm
    have e1:us'=[]:=aF9 (by simpa using hl')
    subst e1
    refine⟨.slice (some b0) 0 0,w,?_,World.rowOk_nil _ _ _ _,World.grownBy.refl w _,(fun b hb=>.inl hb),_,_,_,rfl⟩
    cases A with
    | none=>simp [Builtin.append_,run_underlying ht,sizeOf,typeInfo,q1,Builtin.lenOf,Builtin.firstCells,storeCells]
    | some ad=>simp [Builtin.append_,run_underlying ht,sizeOf,typeInfo,q1,Builtin.lenOf,Builtin.firstCells,storeCells,loadCells,loadCellsFrom]
   ·obtain⟨ad,rfl,hc⟩:=hA hm
    have hnm:m<=us'.length:=by
     rw [hl']
     exact aUq m hsz
    have hb:(0 + m) * bytes<=140737488355328:=aRp (aS3 _ (by simp; omega)) hlen
    have h63:0 + m<=maxLen:=by
     have:=aUq (0 + m) hS.hby
     unfold maxLen
     omega
    obtain⟨v',w',g1,g2,g3⟩:=run_append_arg_grows (P:=P) w t ty e i z sz bytes ht q1 q2 q3.1 q3.2 q4 hsz b0 0 0 [] (by simp) (by intro j u hj; simp at hj) ad m c us' hl' hc (by omega) h63 hb
    refine⟨v',w',g1,World.rowOk_of g2,?_,fun b hb=>?_,?_⟩
    ·show w.grownBy w' none
     exact g3
    ·rcases g2.2 with ⟨e,-⟩ | ⟨g,cap,cur,e,G,-⟩
     ·rw [e] at hb; cases hb
     ·rw [e] at hb
      obtain⟨rfl,-⟩:=Ks hb
      exact .inr G
    ·rcases g2.2 with ⟨e,-⟩ | ⟨g,cap,cur,e,-⟩
     ·exact⟨_,_,_,e⟩
     ·exact⟨_,_,_,e⟩
 ·exact go ⟨ho.1,.inr ⟨g,cap,cur,rfl,aLi _,h2,h3,h4⟩⟩ (aIg rfl (.inl h0))
theorem aD1 {x y:Operand} {t e:TypeId} {sz bytes tk:Nat} {d d':DV×Option LB} {cs cs':List C} {ks:List Nat} (hS:Jf P t e sz bytes) (ht:Tgt d e sz cs ks) (hs:vK d' sz cs') (hl:(cs.length + cs'.length) * bytes<=140737488355328)
  (hnp:∀ k',k'∈ks->cx.np<=k') (ha:Fg cx ρ σ a w) (hds:Gk σ true [x,y]=some [d,d']) (ho:o.op=.call ⟨.builtin .append,#[x,y],#[t,t]⟩) (hf:σ.U tk=false) (hdst:∀ t,o.dst=some t->t < cx.N) (hK:∀ a' w',O8 cx (σ.app o.dst (Sq tk (.row e sz (cs ++ cs')) ks (.row tk))) a' w'->K a' w'):o.wp P a w K Q:=by
 obtain⟨e1,e2⟩:=Vk hds
 obtain⟨A,m,c,us',hv',hl',hr',hA⟩:=hs.vals ha e2
 have key:∃ n us,w.rowOk e sz (a.eval x) n us/\I1 w (O1 cx σ ρ w) cs us/\∀ g,Dg (a.eval x)=some g->∃ k∈ks,∃ lb,σ.L k=some lb/\Dg (ρ k)=some g:=by
  cases ht with
  | row=>
   obtain⟨h1,-,h3⟩:=D8 ha e1
   unfold Dk at h1
   have hL:=h3 _ _ rfl rfl
   obtain⟨n,us,q1,-,q2⟩:=ha.lo _ _ hL
   rw [h1.1]
   exact⟨n,us,q1,q2,fun g G=>⟨_,aF2.2 rfl,_,hL,G⟩⟩
  | @part k n e sz cs hn=>
   obtain⟨h1,-,h3⟩:=D8 ha e1
   unfold Dk at h1
   have hL:=h3 _ _ rfl rfl
   obtain⟨N,us,q1,-,q2⟩:=ha.lo _ _ hL
   obtain⟨A,c,hv,hnc,hc,hA,hB⟩:=h1
   have hlen:n * sz<=us.length:=by rw [<- q2.1]; exact hn
   refine⟨n,us.take (n * sz),⟨by rw [aHg]; omega,?_⟩,⟨by rw [aHg,aHg,q2.1],fun j c u a b=>?_⟩,fun g G=>⟨_,aF2.2 rfl,_,hL,?_⟩⟩
   ·rcases q1.2 with ⟨A',e,q3⟩ | ⟨g,cap,cur,e,r1,r2,r3,r4,r5,r6⟩
    ·obtain⟨t1,t2⟩:=hB rfl _ _ _ e
     exact .inl ⟨A',by rw [hv,t1,t2]; congr 1; omega,by omega⟩
    ·obtain⟨t1,t2⟩:=hB rfl _ _ _ e
     refine .inr ⟨g,cap,cur,by rw [hv,t1,t2],r1,r2,by omega,r4,r5,?_⟩
     have hle:n * sz<=N * sz:=by rw [<- q1.1]; exact hlen
     rw [<- r6,bD4,aY9 hle]
   ·rw [aK0] at a b
    split at a
    ·rename_i hj
     rw [if_pos hj] at b
     exact q2.2 j c u a b
    ·cases a
   ·rcases q1.2 with ⟨A',e,q3⟩ | ⟨g',cap,cur,e,r1,-⟩
    ·obtain⟨t1,t2⟩:=hB rfl _ _ _ e
     rw [hv,t2] at G
     cases A <;> cases G
    ·obtain⟨t1,t2⟩:=hB rfl _ _ _ e
     rw [hv,t1] at G
     rw [e,Pt r1]
     rw [(Ks G).1]
  | nil=>
   rw [He ha e1]
   exact⟨0,[],World.rowOk_nil _ _ _ _,⟨rfl,fun j c u h _=>by simp at h⟩,fun g G=>by cases G⟩
 obtain⟨n,us,ho1,hr,hblk⟩:=key
 obtain⟨v',w',hrun,h2,h3,h4,hsl⟩:=aA4 (P:=P) (ty:=o.type) hS ho1 (A:=A) (m:=m) (c:=c) hl' (aMa hr') hA (by rw [<- hr.1,<- hr'.1]; exact hl)
 have hbase:∀ g,Dg (a.eval x)=some g->cx.w0.heap.size<=g\/cx.M g:=fun g G=>by
  obtain⟨k,hk,lb,hL,hg'⟩:=hblk g G
  exact ((ha.lo k lb hL).blk hg').2
 refine vQ (lb:=.row e sz (cs ++ cs')) (ks:=ks) (d:=.row tk) (w':=w') ha hdst hf (v:=v') (vn:=v') ?_ (ha.kept.grown h3 hbase) h3.size (fun b hb h=>h3.block b hb fun e=>?_) (fun b hb=>?_) (fun I' hI=>⟨⟨n + m,us ++ us',h2,fun b hb=>?_,(hr.append hr').keep_ (fun b hb=>(hI b hb).2) fun b hb=>(hI b hb).1⟩,?_⟩) ⟨fun k' hk'=>hk'.elim,fun k' hk'=>.inr (by unfold men at hk'; exact hk')⟩ hnp hK
 ·simp [execOp,ho,resolve,invoke,builtin,hv',hrun]
 ·obtain⟨k,hk,lb,hL,G⟩:=hblk b e.symm
  exact h k hk lb hL G
 ·rcases h4 b hb with h4 | h4
  ·obtain⟨k,hk,lb,hL,G⟩:=hblk b h4
   exact .inr ⟨k,hk,lb,hL,G⟩
  ·exact .inl h4
 ·rcases h4 b hb with h4 | h4
  ·exact hbase b h4
  ·exact .inl (aRp ha.kept.2.2.2.1 h4)
 ·unfold Dk
  obtain⟨A2,n2,c2,rfl⟩:=hsl
  simp [Sp,Value.oneCell']
end
end Go.Proofs.YtboglmbblmakjaaGreatDoor
namespace Go.Proofs.YtboglmbblmakjaaGreatDoor
open Go.RowKit
section
variable {P:Program} {cx:Cx} {ρ:Nat->Value} {σ:St} {a:Act} {w w':World} {o:Oper} {K:Act->World->Prop} {Q:Exit->Act->World->Prop}
theorem tK (off:Nat) (us:List Value) (cs:Array Value) (h:off + us.length<=cs.size):(us.zipIdx 0).foldl (fun cs (x:Value×Nat)=>cs.setIfInBounds (off + x.2) x.1) cs=(Fa cs.toList off us).toArray:=by
 obtain⟨h1,h2⟩:=Go.Great.foldl_set off us 0 cs
 apply Array.ext_getElem?
 intro k
 rw [h2 k]
 simp only [List.getElem?_toArray]
 unfold Fa
 by_cases hin:off + 0<=k/\k < off + 0 + us.length/\k < cs.size
 ·rw [if_pos hin]
  rw [aUu,aIp (by simp; omega),aF7 (by simp; omega)]
  congr 1
  simp
  omega
 ·rw [if_neg hin]
  by_cases hk:k < off
  ·rw [aUu,aF7 (by simp; omega),aK0,if_pos hk]
   simp
  ·by_cases hk2:k < off + us.length
   ·omega
   ·rw [aIp (by simp; omega),aLf]
    simp
    congr 1
    omega
theorem bZ {I:Nat->Prop} {place:Nat->Option (Nat×Nat)}:∀ (is:List Nat) (dvs:List DV) (vvs:List Value) (ds:List DV) (vs:List Value) (r:List DV),Cj ρ I w dvs vvs->(∀ d∈dvs,(Ed d).all kY=true)->Cj ρ I w ds vs->(∀ u∈vs,u.oneCell'=true)->
  Pc place ds (is.zip dvs)=some r->∃ rs:List Value,Instr.fill place vs.toArray (is.zip vvs)=some rs.toArray/\Cj ρ I w r rs/\∀ u∈rs,u.oneCell'=true
 | [],dvs,vvs,ds,vs,r,_,_,h2,h3,h=>by
  simp only [List.zip_nil_left,Pc] at h
  injection h with h
  subst h
  exact⟨vs,by simp [Instr.fill],h2,h3⟩
 | i :: is,[],vvs,ds,vs,r,h1,_,h2,h3,h=>by
  unfold Cj at h1
  subst h1
  simp only [List.zip_nil_right,Pc] at h
  injection h with h
  subst h
  exact⟨vs,by simp [Instr.fill],h2,h3⟩
 | i :: is,d :: dvs,vvs,ds,vs,r,h1,h1',h2,h3,h=>by
  unfold Cj at h1
  obtain⟨v,vvs,rfl,h4,h5⟩:=h1
  simp only [List.zip_cons_cons,Pc] at h
  cases hp:place i with
  | none=>rw [hp] at h; cases h
  | some q=>
   obtain⟨off,size⟩:=q
   rw [hp] at h
   simp only [] at h
   cases hb:(Nat.beq (Ed d).length size && Nat.ble (off + size) ds.length) with
   | false=>rw [hb] at h; cases h
   | true=>
    rw [hb] at h
    simp only [aHj] at h
    rw [aF5] at hb
    have b1:=aFs hb.1
    have b2:=aC1 hb.2
    obtain⟨us,u1,u2,u3⟩:=Vv h4 (h1' d (aKw ..))
    have hul:us.length=size:=by rw [<- u2.length]; exact b1
    have hvl:ds.length=vs.length:=h2.length
    obtain⟨rs,r1,r2,r3⟩:=bZ is dvs vvs _ (Fa vs off us) r h5 (fun d' hd'=>h1' d' (aIz _ hd')) (h2.splice u2 off) (fun u hu=>by
     rcases Ze hu with hu | hu
     ·exact h3 u hu
     ·exact u3 u hu) h
    refine⟨rs,?_,r2,r3⟩
    simp only [List.zip_cons_cons]
    unfold Instr.fill
    rw [hp]
    have hsz:v.cells.size=size:=by rw [<- hul,<- u1]; simp
    simp only [hsz]
    rw [if_neg (by simp; omega),<- r1]
    congr 1
    have:=tK off us vs.toArray (by simp; omega)
    rw [<- this,<- u1]
    rw [<- Array.foldl_toList]
    simp [Array.toList_zipIdx]
theorem Rm (ha:Fg cx ρ σ a w) {tc:Bool}:∀ {l:List Operand} {ds:List (DV×Option LB)},Gk σ tc l=some ds->Cj ρ (O1 cx σ ρ w) w (ds.map (·.1)) (l.map a.eval)/\∀ q∈ds,∀ k,men q.1 k->σ.U k=true
 | [],ds,h=>by
  unfold Gk at h
  injection h with h
  subst h
  exact⟨by simp [Cj],fun q hq=>by simp at hq⟩
 | x :: l,ds,h=>by
  obtain⟨q,qs,rfl,h1,h2⟩:=W2 h
  obtain⟨d,b⟩:=q
  obtain⟨r1,r2,-⟩:=D8 ha h1
  obtain⟨r3,r4⟩:=Rm ha h2
  refine⟨?_,fun q hq=>?_⟩
  ·simp only [aUl]
   unfold Cj
   exact⟨_,_,rfl,r1,r3⟩
  ·rcases aF6.1 hq with rfl | hq
   ·exact r2
   ·exact r4 q hq
theorem cP (parts:List (Nat×Operand)):parts.map (fun (i,x)=>(i,a.eval x))=(parts.map (·.1)).zip ((parts.map (·.2)).map a.eval):=by
 induction parts with
 | nil=>rfl
 | cons p l ih=>simp [ih]
theorem cX {place:Nat->Option (Nat×Nat)} {k:Nat}:∀ {ps:List (Nat×DV)} {ds r:List DV},Pc place ds ps=some r->G9 r k->G9 ds k\/∃ p∈ps,men p.2 k
 | [],ds,r,h,hk=>by
  unfold Pc at h
  injection h with h
  subst h
  exact .inl hk
 | (i,d) :: ps,ds,r,h,hk=>by
  unfold Pc at h
  cases hp:place i with
  | none=>rw [hp] at h; cases h
  | some q=>
   obtain⟨off,size⟩:=q
   rw [hp] at h
   simp only [] at h
   cases hb:(Nat.beq (Ed d).length size && Nat.ble (off + size) ds.length) with
   | false=>rw [hb] at h; cases h
   | true=>
    rw [hb] at h
    simp only [aHj] at h
    rcases cX h hk with h1 | ⟨p,h1,h2⟩
    ·rcases eV h1 with h2 | h2
     ·exact .inl h2
     ·exact .inr ⟨(i,d),aKw ..,X4 h2⟩
    ·exact .inr ⟨p,aIz _ h1,h2⟩
theorem yF {α β:Type} {f:α->Option β}:∀ {l:List α} {r:List β},l.map f=r.map some->l.mapM f=some r
 | [],r,h=>by
  have:r=[]:=by simpa using h
  subst this
  rfl
 | x :: l,[],h=>by simp at h
 | x :: l,y :: r,h=>by
  simp only [aUl,List.cons.injEq] at h
  simp [List.mapM_cons,h.1,yF h.2]
theorem Zt.get {t:TypeId} {z:List Value} (h:Zt P t z):∃ i v,P.info? t=some i/\i.zero=some v/\v.cells.toList=z/\∀ u∈z,u.oneCell'=true/\G6 u=true:=by
 obtain⟨v,h1,h2,h3⟩:=h
 cases hi:P.info? t with
 | none=>rw [hi] at h1; cases h1
 | some i=>rw [hi] at h1; exact⟨i,v,rfl,h1,h2,h3⟩
theorem aJ9 {t:TypeId} {parts:Array (Nat×Operand)} {ds:List (DV×Option LB)} {fields:Array Field} {places:List (Nat×Nat)} {z:List Value} {r:List DV} {tc:Bool} (hu:P.underlying t=some (.struct fields)) (hp:fields.toList.map (fun f=>(P.info? f.type).map fun i=>(f.offset,i.size))=places.map some) (hz:Zt P t z)
  (hd:Pc (fun i=>places[i]?) (z.map .val) ((parts.toList.map (·.1)).zip (ds.map (·.1)))=some r) (hoc:ds.all (fun q=>(Ed q.1).all kY)=true)
  (ha:Fg cx ρ σ a w) (hds:Gk σ tc (parts.toList.map (·.2))=some ds) (ho:o.op=.build t parts) (hdst:∀ t,o.dst=some t->t < cx.N) (hK:∀ a' w',O8 cx (σ.app o.dst (v0 (.agg r))) a' w'->K a' w'):o.wp P a w K Q:=by
 obtain⟨hr,hm⟩:=Rm ha hds
 obtain⟨it,zv,z1,z2,z3,z4'⟩:=hz.get
 have z4:∀ u∈z,u.oneCell'=true:=fun u hu=>(z4' u hu).1
 obtain⟨rs,r1,r2,r3⟩:=bZ (place:=fun i=>places[i]?) (parts.toList.map (·.1)) _ _ (z.map .val) z r hr (fun d hd'=>by
  obtain⟨q,hq,rfl⟩:=aP8.1 hd'
  exact aGo.1 hoc q hq) (Cj.ofVals z fun u hu=>(z4' u hu).2) z4 hd
 have hb:P.built t (parts.map fun (i,x)=>(i,a.eval x)).toList=some rs.toArray:=by
  unfold Program.built
  rw [z1,hu]
  simp only [z2,yF hp]
  have e1:(parts.map fun (i,x)=>(i,a.eval x)).toList=(parts.toList.map (·.1)).zip ((parts.toList.map (·.2)).map a.eval):=by
   rw [<- cP]; simp
  rw [e1]
  have e2:zv.cells=z.toArray:=by rw [<- z3]
  rw [e2]
  simpa using r1
 refine Oh ha hdst (v:=.agg rs.toArray) ?_ (by unfold Dk; exact⟨rs,rfl,r3,r2⟩) (fun k hk=>?_) hK
 ·simp only [execOp,ho,Sem.run_bind,run_build w t _ _ hb,Result.andThen_ok,Sem.run_pure]
 ·unfold men at hk
  rcases cX hd hk with h | ⟨p,h1,h2⟩
  ·exact (U4 z k h).elim
  ·obtain⟨q,hq,he⟩:=aP8.1 (List.of_mem_zip h1).2
   exact hm q hq k (by rw [he]; exact h2)
theorem cQ (z:Array Value) (n sz:Nat) (hz:z.size=sz) (h0:0 < sz):((Array.range (n * sz)).map (z[· % z.size]!)).toList=(List.replicate n z.toList).flatten:=by
 induction n with
 | zero=>simp
 | succ n ih=>
  rw [List.replicate_succ',List.flatten_concat,<- ih]
  apply List.ext_getElem?
  intro j
  by_cases hj:j < n * sz
  ·rw [aF7 (by simpa using hj)]
   have:j < (n + 1) * sz:=by rw [aUs]; omega
   simp [hj,this]
  ·rw [aIp (by simpa using hj)]
   by_cases hj2:j < (n + 1) * sz
   ·have h1:j - n * sz < sz:=by rw [aUs] at hj2; omega
    have h2:j % sz=j - n * sz:=by
     have:j=(j - n * sz) + n * sz:=by omega
     rw [this,Nat.add_mul_mod_self_right,aYa h1]
     omega
    simp [hj2,hz,h2,h1]
   ·have h1:¬ j - n * sz < sz:=by rw [aUs] at hj2; omega
    simp [hj2,hz,h1]
theorem nN (z:List Value) (n:Nat):((List.replicate n (z.map DV.val)).flatten)=((List.replicate n z).flatten).map DV.val:=by
 induction n with
 | zero=>rfl
 | succ n ih=>rw [aUj,aUj,aVk,aVk,aUk,ih]
theorem zC {t e:TypeId} {len sz bytes tk:Nat} {parts:Array (Nat×Operand)} {ds:List (DV×Option LB)} {z:List Value} {r:List DV} {cs:List C} {tc:Bool} (hS:Jf P t e sz bytes) (hz:Zt P e z) (hlen:len * sz<=16777216)
  (hd:Pc (fun i=>some (i * sz,sz)) ((List.replicate len (z.map DV.val)).flatten) ((parts.toList.map (·.1)).zip (ds.map (·.1)))=some r) {ck:List (Option Nat)} (hc:Mr ck r cs) (hoc:ds.all (fun q=>(Ed q.1).all kY)=true)
  (ha:Fg cx ρ σ a w) (hds:Gk σ tc (parts.toList.map (·.2))=some ds) (ho:o.op=.buildSlice t len parts) (hf:σ.U tk=false) (hdst:∀ t,o.dst=some t->t < cx.N) (hK:∀ a' w',O8 cx (σ.app o.dst (Wp tk (.row e sz cs) (.row tk))) a' w'->K a' w'):o.wp P a w K Q:=by
 obtain⟨hr,hm⟩:=Rm ha hds
 obtain⟨it,zv,z1,z2,z3,z4⟩:=hz.get
 obtain⟨it',zv',y1,y2,y3,y4,y5⟩:=hS.hi
 rw [z1] at y1
 injection y1 with y1
 subst y1
 rw [z2] at y2
 injection y2 with y2
 subst y2
 have hsz:=hS.hsz
 rw [nN] at hd
 have hone:∀ u∈(List.replicate len z).flatten,u.oneCell'=true:=fun u hu=>by
  obtain⟨l,h1,h2⟩:=bDr.1 hu
  rw [(bCc.1 h1).2] at h2
  exact (z4 u h2).1
 have hok0:∀ u∈(List.replicate len z).flatten,G6 u=true:=fun u hu=>by
  obtain⟨l,h1,h2⟩:=bDr.1 hu
  rw [(bCc.1 h1).2] at h2
  exact (z4 u h2).2
 obtain⟨rs,r1,r2,r3⟩:=bZ (place:=fun i=>some (i * sz,sz)) (parts.toList.map (·.1)) _ _ _ ((List.replicate len z).flatten) r hr (fun d hd'=>by
  obtain⟨q,hq,rfl⟩:=aP8.1 hd'
  exact aGo.1 hoc q hq) (Cj.ofVals _ hok0) hone hd
 have hus:=Mr.rd hc r2
 have hrun:(Instr.buildSlice t len (parts.map fun (i,x)=>(i,a.eval x))).run P w=.ok (.slice (some ⟨w.heap.size,0,none⟩) len len) (w.alloc (.cells rs.toArray e)):=by
  have e1:(parts.map fun (i,x)=>(i,a.eval x)).toList=(parts.toList.map (·.1)).zip ((parts.toList.map (·.2)).map a.eval):=by
   rw [<- cP]; simp
  have e3:((Array.range (len * sz)).map (zv.cells[· % zv.cells.size]!))=((List.replicate len z).flatten).toArray:=by
   rw [<- z3,<- cQ zv.cells len sz y5 hsz]
  by_cases h0:len * sz=0
  ·have hl0:len=0:=by
    rcases Nat.mul_eq_zero.1 h0 with h | h
    ·exact h
    ·omega
   subst hl0
   have r1':Instr.fill (fun i=>some (i * sz,sz)) #[] (parts.map fun (i,x)=>(i,a.eval x)).toList=some rs.toArray:=by
    rw [e1]; simpa using r1
   have hs0:=hS.size (w:=w)
   generalize (parts.map fun (i,x)=>(i,a.eval x))=pp at r1' ⊢
   have hn0:((Array.range (0 * sz)).map ((#[]:Array Value)[· % (#[]:Array Value).size]!))=#[]:=by
    rw [Nat.zero_mul]; simp
   simp only [Instr.buildSlice,Sem.run_bind,run_underlying hS.ht,Result.andThen_ok,hs0,Nat.zero_mul]
   rw [if_neg (by omega)]
   simp only [if_true,Sem.run_pure,Result.andThen_ok,Sem.run_bind]
   rw [Nat.zero_mul] at hn0
   rw [hn0,r1']
   simp [newRow]
  ·refine run_buildSlice w t e len _ rs.toArray it zv hS.ht z1 z2 (by rw [y3]; omega) (by rw [y3]; exact h0) ?_
   rw [y3,e3,e1]
   exact r1
 have hrl:rs.length=len * sz:=by
  have hdl:∀ (ps:List (Nat×DV)) (ds r:List DV),Pc (fun i=>some (i * sz,sz)) ds ps=some r->r.length=ds.length:=by
   intro ps
   induction ps with
   | nil=>intro ds r h; unfold Pc at h; injection h with h; rw [h]
   | cons p ps ih=>
    intro ds r h
    obtain⟨i,d⟩:=p
    unfold Pc at h
    simp only [] at h
    cases hb:(Nat.beq (Ed d).length sz && Nat.ble (i * sz + sz) ds.length) with
    | false=>rw [hb] at h; cases h
    | true=>
     rw [hb] at h
     rw [aF5] at hb
     have b1:=aFs hb.1
     have b2:=aC1 hb.2
     rw [ih _ _ h]
     unfold Fa
     simp only [aF3,aHg,aKq]
     omega
  rw [<- r2.length,hdl _ _ _ hd,bD2]
  have hzl:z.length=sz:=by rw [<- z3]; simpa using y5
  simp [hzl]
 rw [gM] at hK
 refine vQ (lb:=.row e sz cs) (ks:=[]) (d:=.row tk) (w':=w.alloc (.cells rs.toArray e)) ha hdst hf (v:=.slice (some ⟨w.heap.size,0,none⟩) len len) (vn:=.slice (some ⟨w.heap.size,0,none⟩) len len) ?_ (ha.kept.alloc _) (by simp) (fun b hb _=>Below.heap_alloc w _ b hb) (fun b hb=>.inl (bB3 (Ks hb).1)) (fun I' hI=>⟨?_,?_⟩) ⟨fun k' hk'=>hk'.elim,fun k' hk'=>.inr (by unfold men at hk'; exact hk')⟩ (fun k' hk'=>by simp at hk') hK
 ·simp only [execOp,ho,Sem.run_bind,hrun,Result.andThen_ok,Sem.run_pure]
 ·refine⟨len,rs,World.rowOk_of (base:=0) ⟨hrl,.inr ⟨w.heap.size,len,rs.toArray,rfl,aLi _,heap_alloc_new w _,aKp _,?_,by simpa using hrl,?_⟩⟩,fun b hb=>.inl (by rw [<- (Ks hb).1]; exact ha.kept.2.2.2.1),hus.keep_ (fun b hb=>(hI b hb).2) fun b hb=>(hI b hb).1⟩
  ·have:len<=len * sz:=aUq len hsz
   unfold maxLen
   omega
  ·simp only []
   rw [<- hrl,aQa]
 ·unfold Dk
  simp [Sp,Value.oneCell']
theorem aFw {t e:TypeId} {x y:Operand} {sz bytes tk m:Nat} {z:List Value} {k k':IntKind} {n:Int} {cs:List C} {b b':Option LB} {tc:Bool} (hS:Jf P t e sz bytes) (hz:Zt P e z) (hn:n=(m:Int)) (hm:m * bytes<=140737488355328/\m<=1000000) {ck:List (Option Nat)} (hc:Mr ck ((List.replicate m (z.map DV.val)).flatten) cs)
  (ha:Fg cx ρ σ a w) (hds:Gk σ tc [x,y]=some [(.val (.int k n),b),(.val (.int k' n),b')]) (ho:o.op=.makeSlice t x y) (hf:σ.U tk=false) (hdst:∀ t,o.dst=some t->t < cx.N) (hK:∀ a' w',O8 cx (σ.app o.dst (Wp tk (.row e sz cs) (.row tk))) a' w'->K a' w'):o.wp P a w K Q:=by
 subst hn
 obtain⟨e1,e2⟩:=Vk hds
 have hx:=He ha e1
 have hy:=He ha e2
 obtain⟨it,zv,z1,z2,z3,z4⟩:=hz.get
 obtain⟨it',zv',y1,y2,y3,y4,y5⟩:=hS.hi
 rw [z1] at y1
 injection y1 with y1
 subst y1
 rw [z2] at y2
 injection y2 with y2
 subst y2
 have hsz:=hS.hsz
 have hr:=run_make (P:=P) w t e it zv hS.ht z1 z2 k k' (m:Int) (m:Int) (by omega) (aUn _) (by
  rw [y4]
  have:((bytes * m:Nat):Int)<=281474976710656:=by rw [Nat.mul_comm]; omega
  rwa [Int.natCast_mul] at this) (by omega)
 simp only [aQb,y3] at hr
 have hus:I1 w (fun _=>False) cs ((madeCells zv.cells (m * sz)).toList):=by
  unfold madeCells
  rw [cQ zv.cells m sz y5 hsz,z3]
  rw [nN] at hc
  exact Mr.rd (ρ:=ρ) hc (Cj.ofVals _ fun u hu=>by
   obtain⟨l,h1,h2⟩:=bDr.1 hu
   rw [(bCc.1 h1).2] at h2
   exact (z4 u h2).2)
 rw [gM] at hK
 refine vQ (lb:=.row e sz cs) (ks:=[]) (d:=.row tk) (w':=w.alloc (.cells (madeCells zv.cells (m * sz)) e)) ha hdst hf (v:=.slice (some ⟨w.heap.size,0,none⟩) m m) (vn:=.slice (some ⟨w.heap.size,0,none⟩) m m) ?_ (ha.kept.alloc _) (by simp) (fun b hb _=>Below.heap_alloc w _ b hb) (fun b hb=>.inl (bB3 (Ks hb).1)) (fun I' hI=>⟨?_,?_⟩) ⟨fun k' hk'=>hk'.elim,fun k' hk'=>.inr (by unfold men at hk'; exact hk')⟩ (fun k' hk'=>by simp at hk') hK
 ·simp [execOp,ho,hx,hy,hr]
 ·refine⟨m,(madeCells zv.cells (m * sz)).toList,World.rowOk_of (base:=0) ⟨by simp [size_madeCells],.inr ⟨w.heap.size,m,madeCells zv.cells (m * sz),rfl,aLi _,heap_alloc_new w _,aKp _,by unfold maxLen; omega,size_madeCells _ _,?_⟩⟩,fun b hb=>.inl (by rw [<- (Ks hb).1]; exact ha.kept.2.2.2.1),hus.keep_ (fun b hb=>hb.elim) fun b hb=>hb.elim⟩
  rw [aKz (by simp [size_madeCells])]
 ·unfold Dk
  simp [Sp,Value.oneCell']
theorem wF {t e m sz:Nat} {parts:Array (Nat×Operand)} {ds:List (DV×Option LB)} {z:List Value} {r:List DV} {tc:Bool} (hu:P.underlying t=some (.array m e)) (he:(P.info? e).map (·.size)=some sz) (hz:Zt P t z)
  (hd:Pc (fun i=>some (i * sz,sz)) (z.map .val) ((parts.toList.map (·.1)).zip (ds.map (·.1)))=some r) (hoc:ds.all (fun q=>(Ed q.1).all kY)=true)
  (ha:Fg cx ρ σ a w) (hds:Gk σ tc (parts.toList.map (·.2))=some ds) (ho:o.op=.build t parts) (hdst:∀ t,o.dst=some t->t < cx.N) (hK:∀ a' w',O8 cx (σ.app o.dst (v0 (.agg r))) a' w'->K a' w'):o.wp P a w K Q:=by
 obtain⟨hr,hm⟩:=Rm ha hds
 obtain⟨it,zv,z1,z2,z3,z4'⟩:=hz.get
 have z4:∀ u∈z,u.oneCell'=true:=fun u hu=>(z4' u hu).1
 obtain⟨ie,hie,hsz⟩:∃ ie,P.info? e=some ie/\ie.size=sz:=by
  cases hq:P.info? e with
  | none=>rw [hq] at he; cases he
  | some ie=>rw [hq] at he; injection he with he; exact⟨ie,rfl,he⟩
 obtain⟨rs,r1,r2,r3⟩:=bZ (place:=fun i=>some (i * sz,sz)) (parts.toList.map (·.1)) _ _ (z.map .val) z r hr (fun d hd'=>by
  obtain⟨q,hq,rfl⟩:=aP8.1 hd'
  exact aGo.1 hoc q hq) (Cj.ofVals z fun u hu=>(z4' u hu).2) z4 hd
 have hb:P.built t (parts.map fun (i,x)=>(i,a.eval x)).toList=some rs.toArray:=by
  unfold Program.built
  rw [z1,hu]
  simp only [z2,hie,hsz]
  have e1:(parts.map fun (i,x)=>(i,a.eval x)).toList=(parts.toList.map (·.1)).zip ((parts.toList.map (·.2)).map a.eval):=by
   rw [<- cP]; simp
  rw [e1]
  have e2:zv.cells=z.toArray:=by rw [<- z3]
  rw [e2]
  simpa using r1
 refine Oh ha hdst (v:=.agg rs.toArray) ?_ (by unfold Dk; exact⟨rs,rfl,r3,r2⟩) (fun k hk=>?_) hK
 ·simp only [execOp,ho,Sem.run_bind,run_build w t _ _ hb,Result.andThen_ok,Sem.run_pure]
 ·unfold men at hk
  rcases cX hd hk with h | ⟨p,h1,h2⟩
  ·exact (U4 z k h).elim
  ·obtain⟨q,hq,he⟩:=aP8.1 (List.of_mem_zip h1).2
   exact hm q hq k (by rw [he]; exact h2)
end
end Go.Proofs.YtboglmbblmakjaaGreatDoor
namespace Go.Proofs.YtboglmbblmakjaaGreatDoor
open Go.RowKit
section
variable {P:Program} {cx:Cx} {ρ:Nat->Value} {σ:St} {a:Act} {w w':World} {o:Oper} {K:Act->World->Prop} {Q:Exit->Act->World->Prop}
theorem tW (w:World) (ob:Obj):(w.alloc ob).heap.size=w.heap.size + 1:=by simp
theorem aHs {src dst e:TypeId} {x:Operand} {s:ByteArray} {b:Option LB} (hs:P.underlying src=some .string) (hd:P.underlying dst=some (.slice e)) (he:P.underlying e=some (.int .u8))
  (ha:Fg cx ρ σ a w) (hds:Gk σ true [x]=some [(.val (.string s),b)]) (ho:o.op=.convert src dst x) (hdst:∀ t,o.dst=some t->t < cx.N) (hK:∀ a' w',O8 cx (σ.app o.dst (v0 (.sl 1 (Zp s.data.toList)))) a' w'->K a' w'):o.wp P a w K Q:=by
 have hx:=He ha (N4 hds)
 have h:s.size<=maxLen:=Rq.1 (Y0 ha (N4 hds))
 have hrun:=run_bytes_of_string (P:=P) w src dst e s hs hd he
 unfold Oper.wp
 have e0:(execOp a.eval o).run P w=.ok (.value (.slice (some ⟨w.heap.size,0,none⟩) s.size (grownCap w s.size 0 e))) (w.drew.alloc (.cells (bytesRow s (grownCap w s.size 0 e)) e ((bytesRow s (grownCap w s.size 0 e)).size,(bytesRow s (grownCap w s.size 0 e)).size + 1))):=by
  simp only [execOp,ho,Sem.run_bind,hx,hrun,Result.andThen_ok,Sem.run_pure]
 rw [e0]
 generalize hob:(Obj.cells (bytesRow s (grownCap w s.size 0 e)) e ((bytesRow s (grownCap w s.size 0 e)).size,(bytesRow s (grownCap w s.size 0 e)).size + 1))=ob
 have hk:cx.Kept w.drew:=ha.kept
 have hsz1:(w.drew.alloc ob).heap.size=w.heap.size + 1:=tW w.drew ob
 show K (a.put o.dst (.slice (some ⟨w.heap.size,0,none⟩) s.size (grownCap w s.size 0 e))) (w.drew.alloc ob)
 refine hK _ _ ⟨ρ,ha.app (e:=v0 (.sl 1 (Zp s.data.toList))) (hk.alloc ob) (by omega) hdst (fun _ _=>rfl) (fun b hb _=>Below.heap_alloc w.drew ob b hb) (fun k lb b h1=>by cases h1) (fun k k' lb lb' b h1=>by cases h1) (fun hI hI2=>⟨fun k lb h1=>(by cases h1),fun d hd=>?_⟩) ⟨fun k lb k' h1=>(by cases h1),fun d k' h1 h2=>by injection h1 with h1; subst h1; unfold men at h2; exact h2.elim⟩ (fun k lb b h1=>by cases h1)⟩
 injection hd with hd
 subst hd
 unfold Dk
 have hge:=grownCap_ge w s.size 0 e
 have hle:=grownCap_le_maxLen w s.size 0 e h
 have hsz:s.data.toList.length=s.size:=Array.length_toList
 refine Ga.mk_slice (by rw [Y9,hsz,Nat.mul_one]) hge hle fun h0=>⟨⟨w.heap.size,0,none⟩,rfl,hI2 _ (aKp _) (Nat.lt_of_lt_of_eq (aKf _) hsz1.symm) (fun k lb h1=>by cases h1),fun j c hj=>?_⟩
 have hjl:j < s.data.size:=by
  have:=(aBe.1 hj).1
  rw [Y9] at this
  simpa using this
 have hc:c=.int .u8 (s.data[j]).toNat:=by
  have G:s.data.toList[j]?=some s.data[j]:=by simp [hjl]
  simp only [Zp,aKm,G,aZk] at hj
  injection hj with hj
  exact hj.symm
 subst hc
 refine⟨.int .u8 (s.data[j]).toNat,?_,?_⟩
 ·have hb:(w.drew.alloc ob).heap[w.heap.size]?=some ob:=heap_alloc_new w.drew ob
  rw [Tl,aNm]
  simp only [World.cell?,hb]
  rw [<- hob]
  have hjs:j < s.size:=hjl
  simp [bytesRow,hjl,hjs,Array.getElem?_append]
 ·unfold Ga
  exact⟨rfl,sA ⟨by omega,by have:=(s.data[j]).toNat_lt; omega⟩⟩
def aD8:Op->Bool
 | .call ⟨.builtin .append,_,_⟩=>true
 | _=>false
theorem Ha.sound {tk:Nat} {op:Op} {ty:TypeId} {ds:List (DV×Option LB)} {wr:List Nat} {e:Q6} (h:Ha P tk op ty ds wr e) (ha:Fg cx ρ σ a w) (hds:Gk σ (Mp op) op.operands.toList=some ds) (hf:σ.U tk=false) (ho:o.op=op) (hty:o.type=ty) (hdst:∀ t,o.dst=some t->t < cx.N) (hnp:aD8 op=true->∀ k∈wr,cx.np<=k)
  (hK:∀ a' w',O8 cx (σ.app o.dst e) a' w'->K a' w'):o.wp P a w K Q:=by
 cases h with
 | move=>exact aCw ha hds (.inl ho) hdst hK
 | assign=>exact aCw ha hds (.inr ho) hdst hK
 | pick=>exact aPv ha hds ho hdst hK
 | @binOpA op xt yt x y ty d1 d2 vx vy v b1 b2 h1 h2 hv h=>
  obtain⟨e1,e2⟩:=Vk hds
  refine aJ (hv (Dk.dval_ok (D8 ha e1).1 h1) (Dk.dval_ok (D8 ha e2).1 h2)) ha hdst ?_ hK
  have h':=h w
  simp only [execOp,ho,Dk.dval _ _ _ (D8 ha e1).1 h1,Dk.dval _ _ _ (D8 ha e2).1 h2,Sem.run_bind] at h' ⊢
  rw [h']
  rfl
 | unOp hv h=>
  refine aJ (hv (Y0 ha (N4 hds))) ha hdst ?_ hK
  simp only [execOp,ho,He ha (N4 hds),Sem.run_bind,h,Result.andThen_ok,Sem.run_pure]
 | conv _ _ hv h=>
  refine aJ (hv (Y0 ha (N4 hds))) ha hdst ?_ hK
  simp only [execOp,ho,He ha (N4 hds),Sem.run_bind,h,Result.andThen_ok,Sem.run_pure]
 | convB hs hd he=>exact aHs hs hd he ha hds ho hdst hK
 | @indexA t x i ty ds k n d b1 b2 e m j ht he hj hl hd=>
  obtain⟨e1,e2⟩:=Vk hds
  obtain⟨h1,h2,-⟩:=D8 ha e1
  have hi:=He ha e2
  unfold Dk at h1
  obtain⟨vs,hv,-,hr⟩:=h1
  obtain⟨v,hv',hd'⟩:=hr.at_ hd
  have hjm:j < m:=by rw [<- hl]; exact (aBe.1 hd).1
  refine Oh ha hdst (v:=v) ?_ hd' (fun k hk=>h2 k ?_) hK
  ·subst hj
   have hc:(0:Int)<=(j:Int)/\(j:Int) < ((m:Nat):Int):=⟨by omega,by omega⟩
   simp [execOp,ho,hv,hi,Instr.index,run_underlying ht,asIntOf,hjm,part,he.agg,he.size,hv']
  ·unfold men
   exact Pq.menL_at hd hk
 | @indexAA t x i ty ds ds' k n b1 b2 e m sz j ht he hj hl hd=>
  obtain⟨e1,e2⟩:=Vk hds
  obtain⟨h1,h2,-⟩:=D8 ha e1
  have hi:=He ha e2
  unfold Dk at h1
  obtain⟨vs,hv,h1c,hr⟩:=h1
  subst hd
  refine Oh ha hdst (v:=.agg ((vs.drop (j * sz)).take sz).toArray) ?_ (by unfold Dk; exact⟨_,rfl,fun u hu=>h1c u (aV6 (aWf hu)),hr.sub _ _⟩) (fun k hk=>h2 k (by unfold men at *; exact jF hk)) hK
  subst hj
  have e1:(vs.toArray.extract (j * sz) (j * sz + sz))=((vs.drop (j * sz)).take sz).toArray:=by
   simp [List.take_drop]
  simp [execOp,ho,hv,hi,Instr.index,run_underlying ht,asIntOf,hl,part,he.agg,he.size]
 | @idxA t x i ty k n kr p b b' e m ag sz j ht he hj hl=>
  have hds':Gk σ true [x,i]=some [(.ptr kr p,b),(.val (.int k n),b')]:=hds
  obtain⟨e1,e2⟩:=Vk hds'
  obtain⟨h1,h2,-⟩:=D8 ha e1
  have hi:=He ha e2
  unfold Dk at h1
  obtain⟨g,G,hv⟩:=h1
  refine Oh ha hdst (v:=.pointer (some ⟨g,p + j * sz,none⟩)) ?_ (by unfold Dk; exact⟨g,G,rfl⟩) (fun k' hk'=>h2 k' (by unfold men at *; exact hk')) hK
  subst hj
  simp [execOp,ho,hv,hi,Instr.indexAt,run_underlying ht,asIntOf,hl,Instr.sureAddr,he.size,Tl]
 | indexS hv h=>
  obtain⟨e1,e2⟩:=Vk hds
  refine aJ (hv (Y0 ha e1) (Y0 ha e2)) ha hdst ?_ hK
  simp only [execOp,ho,He ha e1,He ha e2,Sem.run_bind,h,Result.andThen_ok,Sem.run_pure]
 | @sliceS1 t x i ty vx vi v b1 b2 hv h=>
  have hds':Gk σ true [x,i]=some [(.val vx,b1),(.val vi,b2)]:=hds
  obtain⟨e1,e2⟩:=Vk hds'
  have hx:=He ha e1
  have hi:=He ha e2
  exact aJ (hv (Y0 ha e1)) ha hdst (by simp [execOp,ho,hx,hi,h]) hK
 | @sliceS3 t x i j ty vx vi vj v b1 b2 b3 hv h=>
  have hds':Gk σ true [x,i,j]=some [(.val vx,b1),(.val vi,b2),(.val vj,b3)]:=hds
  obtain⟨e1,e2,e3⟩:=aGm hds'
  have hx:=He ha e1
  have hi:=He ha e2
  have hj:=He ha e3
  exact aJ (hv (Y0 ha e1)) ha hdst (by simp [execOp,ho,hx,hi,hj,h]) hK
 | len ht h=>exact aQh ht h ha hds ho hdst hK
 | callV1 hv h=>subst hty; exact aBz hv h ha hds ho hdst hK
 | callV2 _ hv h=>subst hty; exact aDb hv h ha hds ho hdst hK
 | extract h=>exact Pq h ha hds ho hdst hK
 | nilP=>exact aN8 ha hds ho hdst hK
 | nilE=>exact aNo ha hds ho hdst hK
 | fieldP h ht hz=>exact aFr h ht hz ha hds ho hdst hK
 | fieldE h ht hz _=>exact aEs h ht hz ha hds ho hdst hK
 | field1 h ht hd=>exact aBv h ht hd ha hds ho hdst hK
 | fieldA h ht=>exact aFm h ht ha hds ho hdst hK
 | idxS h hj hl=>exact aMu h hj hl ha hds ho hdst hK
 | idxR h hj hl=>exact aM4 h hj hl ha hds ho hdst hK
 | idxP h hj hl=>exact aM9 h hj hl ha hds ho hdst hK
 | sliS hS hn hb hl=>rw [mP] at hds; exact aPg hS hn hb hl ha hds ho hdst hK
 | sliC hS hn hh=>exact aOa hS hn hh ha hds ho hdst hK
 | sliR hS hn hb hl=>rw [mP] at hds; exact aMe hS hn hb hl ha hds ho hdst hK
 | loadB1 ht hd=>exact aCx ht hd ha hds ho hdst hK
 | loadBA ht hl=>exact aBr ht hl ha hds ho hdst hK
 | loadR1 ht hd=>exact aCd ht hd ha hds ho hdst hK
 | loadRA ht hl=>exact aDa ht hl ha hds ho hdst hK
 | loadE1 ht hd=>exact aCy ht hd ha hds ho hdst hK
 | loadEA ht hl=>exact aBy ht hl ha hds ho hdst hK
 | storeB ht hs hi hoc=>exact aBo ht hs hi hoc ha hds ho hdst hK
 | storeR ht hs hi _ hd=>exact aEj ht hs hi hd ha hds ho hdst hK
 | alloc h=>exact aJk h ha ho hf hdst hK
 | box hoc=>exact aT8 hoc ha hds ho hf hdst hK
 | build hu hp hz hd hoc=>exact aJ9 hu hp hz hd hoc ha (by simpa [Op.operands] using hds) ho hdst hK
 | @mkI t x ty sz cs b e hu=>
  obtain⟨h0,hm,-⟩:=D8 ha (N4 (by simpa [Op.operands] using hds))
  refine Oh ha hdst (v:=.iface t (a.eval x)) ?_ ?_ (fun k hk=>by unfold men at hk; exact hk.elim) hK
  ·simp [execOp,ho,Instr.makeInterface,run_underlying,hu]
  ·unfold Dk at h0 ⊢
   unfold Ga
   exact⟨_,rfl,h0⟩
 | @makeFunc f first caps ty ds=>
  have hds':Gk σ false (first.toList ++ caps.toList)=some ds:=by
   have:(Op.makeFunc (.func f) first caps).operands.toList=first.toList ++ caps.toList:=by simp [Op.operands]
   rw [<- this]; exact hds
  obtain⟨hr,hm⟩:=Rm ha hds'
  refine Oh ha hdst (v:=.func (.func f) (first.map a.eval) (caps.map a.eval)) ?_ ?_ (fun k hk=>?_) hK
  ·simp [execOp,ho,Instr.makeFunc]
  ·unfold Dk
   refine⟨_,?_,hr⟩
   have e1:(List.map a.eval (first.toList ++ caps.toList)).take first.size=first.toList.map a.eval:=by
    rw [aUk,List.take_left' (by simp)]
   have e2:(List.map a.eval (first.toList ++ caps.toList)).drop first.size=caps.toList.map a.eval:=by
    rw [aUk,List.drop_left' (by simp)]
   rw [e1,e2]
   congr 1 <;> (rw [<- bB0,aWp])
  ·unfold men at hk
   rw [bA] at hk
   obtain⟨d,hd,hk⟩:=hk
   obtain⟨q,hq,rfl⟩:=aP8.1 hd
   exact hm q hq k hk
 | buildArr hu he hz hd hoc=>exact wF hu he hz hd hoc ha (by simpa [Op.operands] using hds) ho hdst hK
 | buildSl hS hz hlen hd _ hc hoc=>exact zC hS hz hlen hd hc hoc ha (by simpa [Op.operands] using hds) ho hf hdst hK
 | append hS ht hs hl=>exact aD1 hS ht hs hl (hnp rfl) ha hds ho hf hdst hK
 | makeSl hS hz hn hm _ hc _=>exact aFw hS hz hn hm hc ha hds ho hf hdst hK
theorem Ty.uniq {t:TypeId} {ag ag':Bool} {sz sz':Nat} (h:Ty P t ag sz) (h':Ty P t ag' sz'):ag=ag'/\sz=sz':=by
 have h1:=h.hi.symm.trans h'.hi
 have h2:=h.hu.symm.trans h'.hu
 injection h1 with h1
 injection h2 with h2
 exact⟨h2,h1⟩
theorem Jf.uniq {t e e':TypeId} {sz sz' b b':Nat} (h:Jf P t e sz b) (h':Jf P t e' sz' b'):e=e'/\sz=sz':=by
 have h1:=h.ht.symm.trans h'.ht
 injection h1 with h1
 injection h1 with h1
 subst h1
 obtain⟨i,z,a1,a2,a3,a4,a5⟩:=h.hi
 obtain⟨i',z',b1,b2,b3,b4,b5⟩:=h'.hi
 rw [a1] at b1
 injection b1 with b1
 subst b1
 exact⟨rfl,a3.symm.trans b3⟩
theorem Zt.uniq {t:TypeId} {z z':List Value} (h:Zt P t z) (h':Zt P t z'):z=z':=by
 obtain⟨v,a1,a2,-⟩:=h
 obtain⟨v',b1,b2,-⟩:=h'
 rw [a1] at b1
 injection b1 with b1
 subst b1
 exact a2.symm.trans b2
theorem Fd.uniq {s ft ft':TypeId} {f off off':Nat} (h:Fd P s f off ft) (h':Fd P s f off' ft'):off=off'/\ft=ft':=by
 obtain⟨fs,fd,a1,a2,a3,a4⟩:=h
 obtain⟨fs',fd',b1,b2,b3,b4⟩:=h'
 rw [a1] at b1
 injection b1 with b1
 injection b1 with b1
 subst b1
 rw [a2] at b2
 injection b2 with b2
 subst b2
 exact⟨a3.symm.trans b3,a4.symm.trans b4⟩
theorem kZ.uniq {k:Option Nat} {d:DV} {c c':C} (h:kZ k d c) (h':kZ k d c'):c=c':=by cases h <;> cases h' <;> rfl
theorem Mr.uniq:∀ {ks:List (Option Nat)} {ds:List DV} {cs cs':List C},Mr ks ds cs->Mr ks ds cs'->cs=cs'
 | _,_,_,_,.nil,.nil=>rfl
 | _,_,_,_,.cons h hs,.cons h' hs'=>by rw [h.uniq h',hs.uniq hs']
theorem vK.uniq {q:DV×Option LB} {sz:Nat} {cs cs':List C} (h:vK q sz cs) (h':vK q sz cs'):cs=cs':=by cases h <;> cases h' <;> rfl
theorem Tgt.uniq {q:DV×Option LB} {e sz:Nat} {cs cs':List C} {ks ks':List Nat} (h:Tgt q e sz cs ks) (h':Tgt q e sz cs' ks'):cs=cs'/\ks=ks':=by cases h <;> cases h' <;> exact⟨rfl,rfl⟩
theorem Len.uniq {q:DV×Option LB} {n n':Nat} (h:Len q n) (h':Len q n'):n=n':=by
 cases h with
 | sl hz h1=>cases h' with | sl _ h2=>exact aP7 hz (h1.symm.trans h2)
 | row hz h1=>cases h' with | row _ h2=>exact aP7 hz (h1.symm.trans h2)
 | part=>cases h'; rfl
theorem rR {n:Nat} {lo hi:Option Operand} {r:List (DV×Option LB)} {l h l' h':Nat} (a:bnd n lo hi r l h) (b:bnd n lo hi r l' h'):l=l'/\h=h':=by
 cases lo <;> cases hi <;> simp only [bnd] at a b
 ·exact⟨a.2.1.trans b.2.1.symm,a.2.2.trans b.2.2.symm⟩
 ·obtain⟨⟨b1,k1,x1,e1,f1⟩,g1⟩:=a
  obtain⟨⟨b2,k2,x2,e2,f2⟩,g2⟩:=b
  rw [e1] at e2
  simp at e2
  exact⟨by omega,by omega⟩
 ·obtain⟨⟨b1,k1,x1,e1,f1⟩,g1⟩:=a
  obtain⟨⟨b2,k2,x2,e2,f2⟩,g2⟩:=b
  rw [e1] at e2
  simp at e2
  exact⟨by omega,by omega⟩
 ·obtain⟨b1,c1,k1,l1,x1,y1,e1,f1,g1⟩:=a
  obtain⟨b2,c2,k2,l2,x2,y2,e2,f2,g2⟩:=b
  rw [e1] at e2
  simp at e2
  exact⟨by omega,by omega⟩
theorem U7 {α:Type} {s:Sem α} {v v':α} (w:World) (h:∀ w,s.run P w=.ok v w) (h':∀ w,s.run P w=.ok v' w):v=v':=by
 have:=(h w).symm.trans (h' w)
 injection this
end
end Go.Proofs.YtboglmbblmakjaaGreatDoor
namespace Go.Proofs.YtboglmbblmakjaaGreatDoor
open Go.RowKit
theorem sB.uniq {q:DV×Option LB} {sz:Nat} {cs cs':List C} (h:sB q sz cs) (h':sB q sz cs'):cs=cs':=h.src.uniq h'.src
section
variable {P:Program}
theorem U0 {s ft ft':TypeId} {f off off' sz sz':Nat} {ag ag':Bool} (h:Fd P s f off ft) (t:Ty P ft ag sz) (h':Fd P s f off' ft') (t':Ty P ft' ag' sz'):off=off'/\ag=ag'/\sz=sz':=by
 obtain⟨e1,e2⟩:=h.uniq h'
 subst e2
 exact⟨e1,t.uniq t'⟩
theorem aBt {a b sz x:Nat} (h0:0 < sz) (h:x=a * sz) (h':x=b * sz):a=b:=aP7 h0 (h.symm.trans h')
theorem Ha.func (w:World) {tk:Nat} {op:Op} {ty:TypeId} {ds:List (DV×Option LB)} {wr wr':List Nat} {e e':Q6} (h:Ha P tk op ty ds wr e) (h':Ha P tk op ty ds wr' e'):wr=wr'/\e=e':=by
 cases h with
 | move=>cases h'; exact⟨rfl,rfl⟩
 | assign=>cases h'; exact⟨rfl,rfl⟩
 | pick=>cases h'; exact⟨rfl,rfl⟩
 | nilP=>cases h'; exact⟨rfl,rfl⟩
 | nilE=>cases h'; exact⟨rfl,rfl⟩
 | storeB=>cases h'; exact⟨rfl,rfl⟩
 | box=>cases h'; exact⟨rfl,rfl⟩
 | binOpA q1 q2 _ h1=>
  cases h' with
  | binOpA q3 q4 _ h2=>
   rw [q1] at q3
   rw [q2] at q4
   injection q3 with q3
   injection q4 with q4
   subst q3 q4
   exact⟨rfl,by rw [U7 w h1 h2]⟩
 | unOp _ h1=>
  cases h' with
  | unOp _ h2=>exact⟨rfl,by rw [U7 w h1 h2]⟩
 | indexA a1 b1 c1 d1 e1=>
  cases h' with
  | indexAA a2 b2 c2 d2 e2=>(rw [a1] at a2; injection a2 with a2; injection a2 with q1 q2; subst q2; have:=(b1.uniq b2).1; cases this)
  | indexA a2 b2 c2 d2 e2=>(have e0:=aZ4 (c1.symm.trans c2); rw [e0] at e1; have:=e1.symm.trans e2; injection this with this; rw [this]; exact⟨rfl,rfl⟩)
 | indexAA a1 b1 c1 d1 e1=>
  cases h' with
  | indexA a2 b2 c2 d2 e2=>(rw [a1] at a2; injection a2 with a2; injection a2 with q1 q2; subst q2; have:=(b1.uniq b2).1; cases this)
  | indexAA a2 b2 c2 d2 e2=>(have e0:=aZ4 (c1.symm.trans c2); rw [a1] at a2; injection a2 with a2; injection a2 with q1 q2; subst q2; have e3:=(b1.uniq b2).2; subst e0; subst e3; subst e1; subst e2; exact⟨rfl,rfl⟩)
 | idxA a1 b1 c1 d1=>
  cases h' with
  | idxA a2 b2 c2 d2=>(have e0:=aZ4 (c1.symm.trans c2); rw [a1] at a2; injection a2 with a2; injection a2 with q1 q2; subst q2; have e3:=(b1.uniq b2).2; subst e0; subst e3; exact⟨rfl,rfl⟩)
 | indexS _ h1=>
  cases h' with
  | indexS _ h2=>exact⟨rfl,by rw [U7 w h1 h2]⟩
 | sliceS1 _ h1=>
  cases h' with
  | sliceS1 _ h2=>exact⟨rfl,by rw [U7 w h1 h2]⟩
 | sliceS3 _ h1=>
  cases h' with
  | sliceS3 _ h2=>exact⟨rfl,by rw [U7 w h1 h2]⟩
 | conv a1 b1 _ h1=>
  cases h' with
  | conv a2 b2 _ h2=>exact⟨rfl,by rw [U7 w h1 h2]⟩
  | convB a2 b2 c2=>(exfalso; simp [scT,b2] at b1)
 | convB a1 b1 c1=>
  cases h' with
  | conv a2 b2 _ h2=>(exfalso; simp [scT,b1] at b2)
  | convB a2 b2 c2=>exact⟨rfl,rfl⟩
 | len a1 h1=>
  cases h' with
  | len a2 h2=>exact⟨rfl,by rw [h1.uniq h2]⟩
  | callV1 _ h2=>cases h1
 | callV1 _ h1=>
  cases h' with
  | len a2 h2=>cases h2
  | callV1 _ h2=>(have:=(h1 w #[]).symm.trans (h2 w #[]); injection this with this; injection this with this; rw [this]; exact⟨rfl,rfl⟩)
 | callV2 a1 _ h1=>
  cases h' with
  | callV2 a2 _ h2=>(have:=(h1 w #[]).symm.trans (h2 w #[]); injection this with this; injection this with this; rw [this]; exact⟨rfl,rfl⟩)
  | append a2 b2 c2 d2=>exact absurd rfl a1
 | extract h1=>
  cases h' with
  | extract h2=>(have:=h1.symm.trans h2; injection this with this; rw [this]; exact⟨rfl,rfl⟩)
 | fieldP a1 b1 c1=>
  cases h' with
  | fieldP a2 b2 c2=>exact⟨rfl,by rw [(U0 a1 b1 a2 b2).1]⟩
 | fieldE a1 b1 c1 d1=>
  cases h' with
  | fieldE a2 b2 c2 d2=>exact⟨rfl,by rw [(U0 a1 b1 a2 b2).1]⟩
 | field1 a1 b1 c1=>
  cases h' with
  | field1 a2 b2 c2=>(obtain⟨e0,-,-⟩:=U0 a1 b1 a2 b2; subst e0; have:=c1.symm.trans c2; injection this with this; rw [this]; exact⟨rfl,rfl⟩)
  | fieldA a2 b2=>(have:=(U0 a1 b1 a2 b2).2.1; cases this)
 | fieldA a1 b1=>
  cases h' with
  | field1 a2 b2 c2=>(have:=(U0 a1 b1 a2 b2).2.1; cases this)
  | fieldA a2 b2=>(obtain⟨e0,-,e1⟩:=U0 a1 b1 a2 b2; subst e0; subst e1; exact⟨rfl,rfl⟩)
 | idxS a1 b1 c1=>
  cases h' with
  | idxS a2 b2 c2=>(have e0:=aZ4 (b1.symm.trans b2); rw [e0]; exact⟨rfl,rfl⟩)
 | idxR a1 b1 c1=>
  cases h' with
  | idxR a2 b2 c2=>(have e0:=aZ4 (b1.symm.trans b2); rw [e0]; exact⟨rfl,rfl⟩)
 | idxP a1 b1 c1=>
  cases h' with
  | idxP a2 b2 c2=>(have e0:=aZ4 (b1.symm.trans b2); rw [e0,(a1.uniq a2).2]; exact⟨rfl,rfl⟩)
 | sliS a1 b1 c1 d1=>
  cases h' with
  | sliS a2 b2 c2 d2=>(obtain rfl:=aBt a1.hsz b1 b2; obtain⟨rfl,rfl⟩:=rR c1 c2; exact⟨rfl,rfl⟩)
 | sliC a1 b1=>
  cases h' with
  | sliC a2 b2=>exact⟨rfl,rfl⟩
 | sliR a1 b1 c1 d1=>
  cases h' with
  | sliR a2 b2 c2 d2=>(obtain rfl:=aBt a1.hsz b1 b2; obtain⟨rfl,rfl⟩:=rR c1 c2; exact⟨rfl,rfl⟩)
 | loadB1 a1 b1=>
  cases h' with
  | loadB1 a2 b2=>(have:=b1.symm.trans b2; injection this with this; rw [this]; exact⟨rfl,rfl⟩)
  | loadBA a2 b2=>(have:=(a1.uniq a2).1; cases this)
 | loadBA a1 b1=>
  cases h' with
  | loadB1 a2 b2=>(have:=(a1.uniq a2).1; cases this)
  | loadBA a2 b2=>(rw [(a1.uniq a2).2]; exact⟨rfl,rfl⟩)
 | loadR1 a1 b1=>
  cases h' with
  | loadR1 a2 b2=>(have:=b1.symm.trans b2; injection this with this; rw [this]; exact⟨rfl,rfl⟩)
  | loadRA a2 b2=>(have:=(a1.uniq a2).1; cases this)
 | loadRA a1 b1=>
  cases h' with
  | loadR1 a2 b2=>(have:=(a1.uniq a2).1; cases this)
  | loadRA a2 b2=>(rw [(a1.uniq a2).2]; exact⟨rfl,rfl⟩)
 | loadE1 a1 b1=>
  cases h' with
  | loadE1 a2 b2=>(have:=b1.symm.trans b2; injection this with this; rw [this]; exact⟨rfl,rfl⟩)
  | loadEA a2 b2=>(have:=(a1.uniq a2).1; cases this)
 | loadEA a1 b1=>
  cases h' with
  | loadE1 a2 b2=>(have:=(a1.uniq a2).1; cases this)
  | loadEA a2 b2=>(rw [(a1.uniq a2).2]; exact⟨rfl,rfl⟩)
 | storeR a1 b1 c1 k1 d1=>
  cases h' with
  | storeR a2 b2 c2 k2 d2=>(subst k1; subst k2; rw [d1.uniq d2]; exact⟨rfl,rfl⟩)
 | alloc a1=>
  cases h' with
  | alloc a2=>(rw [a1.uniq a2]; exact⟨rfl,rfl⟩)
 | build hu hp hz hd ho=>
  cases h' with
  | buildArr hu'=>(exfalso; rw [hu] at hu'; injection hu' with h; cases h)
  | build hu' hp' hz' hd' ho'=> 
   have h1:=hu.symm.trans hu'
   injection h1 with h1
   injection h1 with h1
   subst h1
   have h2:=(List.map_inj_right fun _ _ h=>by injection h).1 (hp.symm.trans hp')
   subst h2
   have h3:=hz.uniq hz'
   subst h3
   have h4:=hd.symm.trans hd'
   injection h4 with h4
   rw [h4]
   exact⟨rfl,rfl⟩
 | buildArr hu he hz hd ho=>
  cases h' with
  | build hu' hp' hz' hd' ho'=>(exfalso; rw [hu] at hu'; injection hu' with h; cases h)
  | buildArr hu' he' hz' hd' ho'=>
   have h1:=hu.symm.trans hu'
   injection h1 with h1
   injection h1 with h1 h2
   subst h1
   subst h2
   have h2:=he.symm.trans he'
   injection h2 with h2
   subst h2
   have h3:=hz.uniq hz'
   subst h3
   have h4:=hd.symm.trans hd'
   injection h4 with h4
   rw [h4]
   exact⟨rfl,rfl⟩
 | mkI=>cases h'; exact⟨rfl,rfl⟩
 | makeFunc=>cases h'; exact⟨rfl,rfl⟩
 | buildSl hS hz hlen hd k1 hc ho=>
  cases h' with
  | buildSl hS' hz' hlen' hd' k2 hc' ho'=> 
   subst k1
   subst k2
   obtain⟨rfl,rfl⟩:=hS.uniq hS'
   have h3:=hz.uniq hz'
   subst h3
   have h4:=hd.symm.trans hd'
   injection h4 with h4
   subst h4
   rw [hc.uniq hc']
   exact⟨rfl,rfl⟩
 | append hS ht hs hl=>
  cases h' with
  | callV2 a2 h2=>exact absurd rfl a2
  | append hS' ht' hs' hl'=> 
   obtain⟨rfl,rfl⟩:=hS.uniq hS'
   obtain⟨rfl,rfl⟩:=ht.uniq ht'
   rw [hs.uniq hs']
   exact⟨rfl,rfl⟩
 | makeSl hS hz hn hm k1 hc _=>
  cases h' with
  | makeSl hS' hz' hn' hm' k2 hc' _=> 
   subst k1
   subst k2
   obtain⟨rfl,rfl⟩:=hS.uniq hS'
   have h3:=hz.uniq hz'
   subst h3
   have h4:=aZ4 (hn.symm.trans hn')
   subst h4
   rw [hc.uniq hc']
   exact⟨rfl,rfl⟩
theorem Ha.key {tk:Nat} {op:Op} {ty:TypeId} {ds:List (DV×Option LB)} {wr:List Nat} {e:Q6} (h:Ha P tk op ty ds wr e):∀ k,e.l k≠none->k∈wr\/(tk<=k/\k < tk + 8):=by
 have key1:∀ {tk k:Nat} {lb:LB} {d:DV},(Wp tk lb d).l k≠none->tk<=k/\k < tk + 8:=fun {tk k lb d} h=>by
  have h':(bif Nat.beq k tk then some (some lb) else none)≠none:=h
  cases hb:Nat.beq k tk with
  | true=>have:=aFs hb; omega
  | false=>rw [hb] at h'; exact absurd rfl h'
 have keyw:∀ {k0 k:Nat} {lb:LB},(Sn k0 lb).l k≠none->k∈[k0]:=fun {k0 k lb} h=>by
  have h':(bif Nat.beq k k0 then some (some lb) else none)≠none:=h
  cases hb:Nat.beq k k0 with
  | true=>have:=aFs hb; simp [this]
  | false=>rw [hb] at h'; exact absurd rfl h'
 intro k hk
 cases h with
 | storeB=>exact .inl (keyw hk)
 | storeR=>exact .inl (keyw hk)
 | alloc=>exact .inr (key1 hk)
 | box=>exact .inr (key1 hk)
 | buildSl=>exact .inr (key1 hk)
 | makeSl=>exact .inr (key1 hk)
 | append=>
  have h':(bif Nat.beq k tk then some (some _) else (bif wr.any (Nat.beq k) then some none else none))≠none:=hk
  cases hb:Nat.beq k tk with
  | true=>have:=aFs hb; exact .inr (by omega)
  | false=>
   rw [hb] at h'
   simp only [aE8] at h'
   cases hc:wr.any (Nat.beq k) with
   | true=>
    obtain⟨x,h1,h2⟩:=aLm.1 hc
    have:=aFs h2
    subst this
    exact .inl h1
   | false=>rw [hc] at h'; exact absurd rfl h'
 | _=>exact absurd rfl hk
theorem Ha.sub {tk:Nat} {op:Op} {ty:TypeId} {ds:List (DV×Option LB)} {wr:List Nat} {e:Q6} (h:Ha P tk op ty ds wr e):∀ k,k∈wr->Mp op=true/\k∈Ol (Po op) ds:=by
 intro k hk
 cases h with
 | storeB=>exact⟨rfl,by simpa [Ol,Q9,Po] using aF6.2 (.inl (aF2.1 hk))⟩
 | storeR=>exact⟨rfl,by simpa [Ol,Q9,Po] using aF6.2 (.inl (aF2.1 hk))⟩
 | append _ ht _ _=>
  refine⟨rfl,?_⟩
  cases ht with
  | row=>
   unfold Ol
   simp only [Q9]
   rw [aF2.1 hk]
   exact aKw ..
  | part=>
   unfold Ol
   simp only [Q9]
   rw [aF2.1 hk]
   exact aKw ..
  | nil=>simp at hk
 | _=>simp at hk
theorem Ha.sim {tk:Nat} {op:Op} {ty:TypeId} {ds ds':List (DV×Option LB)} {wr:List Nat} {e:Q6} (h:Ha P tk op ty ds wr e) (hs:iO (Po op) ds ds'):Ha P tk op ty ds' wr e:=by
 cases hb:Po op with
 | false=>rw [hb] at hs; rw [<- hs.eq]; exact h
 | true=>
  rw [hb] at hs
  cases h with
  | len ht hl=>
   match ds',hs with
   | [(d',b')],⟨h1,h2,h3⟩=>
    cases hl with
    | sl hz hc=>
     rcases h2 with h2 | ⟨-,h2⟩
     ·have h1:_=d':=h1
      have h2:_=b':=h2
      subst h1 h2
      exact .len ht (.sl hz hc)
     ·cases h2
    | row hz hc=>
     rcases h2 with h2 | ⟨-,h2⟩
     ·have h1:_=d':=h1
      have h2:_=b':=h2
      subst h1 h2
      exact .len ht (.row hz hc)
     ·cases h2
    | part=>
     have h1:_=d':=h1
     subst h1
     exact .len ht .part
  | callV1 hv h=>
   match ds',hs with
   | [(d',b')],⟨h1,h2,_⟩=>
    rcases h2 with h2 | ⟨-,h2⟩
    ·have h1:_=d':=h1
     have h2:_=b':=h2
     subst h1 h2
     exact .callV1 hv h
    ·cases h2
  | callV2 hb' hv h=>
   match ds',hs with
   | [(d',b'),(d2,b2)],⟨h1,h2,h3,h4,_⟩=>
    rcases h2 with h2 | ⟨-,h2⟩
    ·rcases h4 with h4 | ⟨-,h4⟩
     ·have h1:_=d':=h1
      have h2:_=b':=h2
      have h3:_=d2:=h3
      have h4:_=b2:=h4
      subst h1 h2 h3 h4
      exact .callV2 hb' hv h
     ·cases h4
    ·cases h2
  | _=>cases hb
end
end Go.Proofs.YtboglmbblmakjaaGreatDoor
