/- Plain texts, joined. No program is in sight here. -/
import Derived.Test.YtboglmbblmakjaaGreatDoorEF
import Derived.ChangeKeysEq
import Derived.Test.YtboglmbblmakjaaGreatDoorPU
import Derived.Test.YtboglmbblmakjaaGreatDoorEE
import Derived.RangeFuncIn
set_option linter.unusedVariables false
set_option linter.unusedSimpArgs false
set_option maxHeartbeats 200000
set_option maxHeartbeats 400000
namespace Go.Proofs.YtboglmbblmakjaaGreatDoor
section
open Go.RowKit
section
variable {P:Program} {np tk:Nat} {ty:TypeId} {env:qK} {α:Type} {f:α->List C} {t e sz bytes:Nat}
theorem qQ (hf:∀ x,(f x).length=sz) (z:α):∀ m,Ac f (List.replicate m z)=(List.replicate m (f z)).flatten
 | 0=>rfl
 | m + 1=>by
  rw [aUj,aUj,aVk,<- qQ hf z m]
  rfl
theorem yP (hf:∀ x,(f x).length=sz) (l:List α) (n:Nat):(Ac f l).drop (n * sz)=Ac f (l.drop n):=by
 induction n generalizing l with
 | zero=>simp
 | succ n ih=>
  cases l with
  | nil=>simp [Ac]
  | cons x l=>
   have:Ac f (x :: l)=f x ++ Ac f l:=rfl
   rw [this,Nat.succ_mul,List.drop_append,hf,List.drop_of_length_le (by rw [hf]; omega),aVl,Nat.add_sub_cancel]
   exact ih l
theorem aAr (hf:∀ x,(f x).length=sz) (l:List α) (n:Nat):(Ac f l).take (n * sz)=Ac f (l.take n):=by
 induction n generalizing l with
 | zero=>simp [Ac]
 | succ n ih=>
  cases l with
  | nil=>simp [Ac]
  | cons x l=>
   have e1:Ac f (x :: l)=f x ++ Ac f l:=rfl
   have e2:Ac f ((x :: l).take (n + 1))=f x ++ Ac f (l.take n):=rfl
   rw [e1,e2,Nat.succ_mul,Nat.add_comm,bDm,aKz (by rw [hf]; omega),hf,aXt,ih l]
theorem aRc {z:List Value} {ck:List (Option Nat)} {z0:α} (hz:Zt P e z) (hd:Mr ck (z.map DV.val) (f z0)):aJj P e (f z0):=⟨z,ck,hz,hd⟩
theorem aI1 {x:Operand} {k a m:Nat} {b:Option LB} {l r:List α} {z0:α} (hS:Jf P t e sz bytes) (hf:∀ x,(f x).length=sz) (hz:aJj P e (f z0)) (hL:(k,some (.row e sz (Ac f l)))∈env) (h:aIk l a m z0=some r) :
  ExtR P np tk (.call ⟨.builtin .clear,#[x],#[t]⟩) ty [(.part k (a * sz) m,b)] env [k] (fun e'=>e'=aL k (.row e sz (Ac f r)) (some (.tup []))):=by
 obtain⟨h1,rfl⟩:=aA5 h
 have:=ExtR.clearP (np:=np) (tk:=tk) (x:=x) (ty:=ty) (b:=b) (off:=a * sz) (m:=m) hS hz hL (by rw [H8 hf,<- aUs]; exact aS3 _ h1)
 have e1:Fa (Ac f l) (a * sz) (List.replicate m (f z0)).flatten=Ac f (l.take a ++ List.replicate m z0 ++ l.drop (a + m)):=by
  unfold Fa
  rw [<- qQ hf,H8 hf,aAr hf,List.length_replicate,<- aUs,yP hf,Pv,Pv]
 rwa [e1] at this
end
theorem aNj {P:Program} {t:TypeId} {k:IntKind} (h:P.underlying t=some (.int k)):uC P t (fun x:Int=>Value.int k x):=by
 refine⟨fun e x w=>?_,fun x es xs w hes=>?_,fun x=>?_⟩
 ·exact Go.MapKept.run_checkKey (k:=.int k x) h rfl e 9999
 ·have key:∀ (es:List MapEntry) (xs:List Int) (i:Nat),es.map (·.key)=xs.map (fun x=>Value.int k x)->(Instr.findNow (.int k) (.int k x) es i=some none/\x∉xs)\/∃ j e,Instr.findNow (.int k) (.int k x) es i=some (some (i + j,e.val))/\es[j]?=some e/\e.key=.int k x/\xs[j]?=some x/\∀ j',j' < j->xs[j']?≠some x:=by
   intro es
   induction es with
   | nil=>
    intro xs i h
    cases xs with
    | nil=>exact .inl ⟨rfl,by simp⟩
    | cons y ys=>simp at h
   | cons e es ih=>
    intro xs i h
    cases xs with
    | nil=>simp at h
    | cons y ys=>
     simp only [aUl,List.cons.injEq] at h
     obtain⟨h1,h2⟩:=h
     by_cases hxy:x=y
     ·subst hxy
      refine .inr ⟨0,e,?_,rfl,h1,rfl,fun j' hj'=>by omega⟩
      simp [Instr.findNow,Instr.sameNow,h1]
     ·have hf:Instr.findNow (.int k) (.int k x) (e :: es) i=Instr.findNow (.int k) (.int k x) es (i + 1):=by
       have hb:(x == y)=false:=by simpa using hxy
       simp only [Instr.findNow,Instr.sameNow,h1,if_true,hb]
      rw [hf]
      rcases ih ys (i + 1) h2 with ⟨q1,q2⟩ | ⟨j,e',q1,q2,q3,q4,q5⟩
      ·exact .inl ⟨q1,by simp [hxy,q2]⟩
      ·refine .inr ⟨j + 1,e',by rw [q1]; congr 3; omega,by simpa using q2,q3,by simpa using q4,fun j' hj'=>?_⟩
       cases j' with
       | zero=>simp; exact fun h=>hxy h.symm
       | succ j'=>simpa using q5 j' (by omega)
  rcases key es xs 0 hes with ⟨q1,q2⟩ | ⟨j,e,q1,q2,q3,q4,q5⟩
  ·exact⟨none,by simp [Instr.findKey,run_underlying h,q1],q2⟩
  ·refine⟨some (j,e.val),?_,e,q2,rfl,q3,q4,q5⟩
   rw [aNm] at q1
   simp [Instr.findKey,run_underlying h,q1]
 ·simp [Instr.sameBits]
abbrev vI (k:IntKind) (x:Int):Value:=.int k x
abbrev vB (x:Bool):Value:=.bool x
theorem aTb {P:Program} {t:TypeId} {v:Value} (h:(P.info? t).bind (·.zero)=some v) (w:World):(zeroValue t).run P w=.ok v w:=by
 cases hi:P.info? t with
 | none=>rw [hi] at h; cases h
 | some i=>
  rw [hi] at h
  have:i.zero=some v:=h
  simp [zeroValue,typeInfo,hi,this]
section
variable {P:Program} {np tk:Nat} {ty:TypeId} {env:qK} {κ ν:Type} [DecidableEq κ] {f:κ->Value} {g:ν->Value} {t kt vt k:Nat} {x i:Operand} {b bk bv:Option LB} {kd vd:DV} {l:List (κ×ν)} {key:κ} {z v:ν}
theorem aC9 (ht:P.underlying t=some (.map kt vt)) (hK:uC P kt f) (hz:∀ w,(zeroValue vt).run P w=.ok (g z) w) (hzk:G6 (g z)=true) (hk:Qv kd=some (f key)) (hm:(k,some (.map (Vj f g l)))∈env) :
  ExtR P np tk (.lookup t x i false) ty [(.row k,b),(kd,bk)] env [] (fun e=>e=v0 (.val (g (Pm l key z)))):=.lookR (ok:=false) ht hK hz hzk hm hk
theorem qP {y':Operand} (ht:P.underlying t=some (.map kt vt)) (hK:uC P kt f) (hk:Qv kd=some (f key)) (hv:Qv vd=some (g v)) (hm:(k,some (.map (Vj f g l)))∈env) :
  ExtR P np tk (.mapUpdate t x i y') ty [(.row k,b),(kd,bk),(vd,bv)] env [k] (fun e=>e=aL k (.map (Vj f g (Rc l key v))) none):=.put ht hK hm hk hv
end
end
section
open Go.RowKit
theorem aW3 {P:Program} {cx:Cx} {σ:St} {Q:Exit->St->Prop} {x:Code} {α S R:Type} {body:α->S->Option (Lp S R)} {ed:S->Option (Lp S R)} {l:List α} {s0:S} {r:R} (st:List Nat->S->St) (G:sG body ed l s0=some r) (h0:Rs cx σ (st [] s0))
  (round:∀ (s:S) (sn:List Nat),MH body ed l r sn s->Kb P cx x (thn (fun σ'=>∃ j:List Nat×S,(rest l.length j.1).length < (rest l.length sn).length/\MH body ed l r j.1 j.2/\Rs cx σ' (st j.1 j.2)) Q) (st sn s)):Kb P cx (.loop x) Q σ:=
 sX (ι:=List Nat×S) (fun q=>st q.1 q.2) (fun q=>MH body ed l r q.1 q.2) (fun q=>(rest l.length q.1).length) ([],s0) h0 (MH.init G) fun q hq=>round q.2 q.1 hq
theorem aGe {κ ν:Type} {f:κ->Value} {g:ν->Value} {l:List (κ×ν)} {i:Nat} {p:Value×Value} (h:(Vj f g l)[i]?=some p):∃ x,l[i]?=some x/\p=(f x.1,g x.2):=by
 unfold Vj at h
 rw [aKm] at h
 cases hx:l[i]? with
 | none=>rw [hx] at h; cases h
 | some x=>rw [hx] at h; injection h with h; exact⟨x,rfl,h.symm⟩
theorem aNh {κ ν:Type} {f:κ->Value} {g:ν->Value} {l:List (κ×ν)} {i:Nat} {x:κ×ν} (h:l[i]?=some x):(Vj f g l)[i]?=some (f x.1,g x.2):=by
 unfold Vj
 rw [aKm,h]
 rfl
theorem aJe {κ ν:Type} {f:κ->Value} {g:ν->Value} {l:List (κ×ν)}:(Vj f g l).length=l.length:=by simp [Vj]
theorem aCc {κ ν:Type} {f:κ->Value} {g:ν->Value} {l:List (κ×ν)} {seen:List Nat} (h:∀ i,i < (Vj f g l).length->i∈seen):∀ i,i < l.length->i∈seen:=by
 rw [aJe] at h
 exact h
theorem aG7 {j k:Nat} {l:List (Value×Value)} {n:Nat} {seen:List Nat} (hn:n=l.length):∃ e:Q6,((∀ i,i < n->i∈seen)/\e=aL j (.mit k n seen) (some (.tup [.val (.bool false)])))\/∃ i p,l[i]?=some p/\i∉seen/\e=aL j (.mit k n (seen ++ [i])) (some (.tup [.val (.bool true),.val p.1,.val p.2])):=by
 subst hn
 by_cases h:∀ i,i < l.length->i∈seen
 ·exact⟨_,.inl ⟨h,rfl⟩⟩
 ·have:∃ i,¬ (i < l.length->i∈seen):=Classical.not_forall.1 h
  obtain⟨i,hi⟩:=this
  rw [Classical.not_imp] at hi
  exact⟨_,.inr ⟨i,l[i]'hi.1,aBb hi.1,hi.2,rfl⟩⟩
end
section
open Go.RowKit
section
variable {P:Program} {cx:Cx} {ρ:Nat->Value} {σ:St} {a:Act} {w:World}
theorem Fg.rec_ (h:Fg cx ρ σ a w) {k N:Nat} {ts:List Nat} {ds:List DV} {rc:Loop} (hL:σ.L k=some (.lop ts ds N rc)) (rc':Loop) :
  ∃ b tm,ρ k=.pointer (some ⟨b,0,none⟩)/\w.heap[b]?=some (.loop { rc with tmps:=tm })/\Fg cx ρ (σ.app none (Sn k (.lop ts ds N rc'))) a (w.putObj b (.loop { rc' with tmps:=tm })):=by
 obtain⟨b,tm,q1,q2,q3,q4,q5⟩:=h.lo _ _ hL
 have hblk:Dg (ρ k)=some b:=by rw [q1]; rfl
 have hb:=(aF8.1 q2).1
 have hel:∀ j x,(Sn k (.lop ts ds N rc')).l j=some x->j=k/\x=some (.lop ts ds N rc'):=fun j x hx=>by
  unfold Sn at hx
  simp only at hx
  cases hj:Nat.beq j k with
  | false=>rw [hj] at hx; cases hx
  | true=>rw [hj] at hx; injection hx with hx; exact⟨aFs hj,hx.symm⟩
 have hkk:(Sn k (.lop ts ds N rc')).l k≠none:=by
  unfold Sn
  simp only [aXq,aHj]
  intro e; cases e
 refine⟨b,tm,q1,q2,?_⟩
 have:=h.app (w':=w.putObj b (.loop { rc' with tmps:=tm })) (dst:=none) (e:=Sn k (.lop ts ds N rc')) (v:=undef) (ρ':=ρ) ?_ (by simp) (fun t ht=>by cases ht) (fun _ _=>rfl) (fun b' hb' hn=>?_) (fun j lb b' h1 h2=>?_) (fun j j' lb lb' b' h1 h2 _ _=>?_) (fun hI _=>⟨fun j lb h1=>?_,fun d hd=>by cases hd⟩) ⟨fun j lb j' h1 h2=>?_,fun d j' hd=>by cases hd⟩ (fun j lb b' h1 h2 h3=>?_)
 ·exact this
 ·obtain⟨k1,k2,k3,k4,k5⟩:=h.kept
  refine⟨k1,k2,k3,by simpa using k4,fun b' hb' hM=>?_⟩
  rw [World.putObj_heap_other (show b'≠b by rintro rfl; exact q3.elim (fun q=>by omega) hM)]
  exact k5 b' hb' hM
 ·exact World.putObj_heap_other (fun e=>hn k _ hkk hL (by rw [e]; exact hblk))
 ·obtain⟨rfl,-⟩:=hel j _ h1
  exact .inr ⟨j,_,hkk,hL,h2⟩
 ·rw [(hel j _ h1).1,(hel j' _ h2).1]
 ·obtain⟨rfl,hx⟩:=hel j _ h1
  injection hx with hx
  subst hx
  exact⟨b,tm,q1,World.putObj_heap_same hb,q3,q4,Cj.step hI ds _ (fun _ _=>rfl) q5⟩
 ·obtain⟨rfl,hx⟩:=hel j _ h1
  injection hx with hx
  subst hx
  exact .inl ((h.usedL j _ hL).2 j' h2)
 ·obtain⟨rfl,hx⟩:=hel j _ h1
  exact h.fresh j _ b' hL h2 h3
end
def Itr (P:Program) (f kl np:Nat) (caps:List DV) (bx:List LB) (R:List LB->Prop):Prop:=
 np<=bx.length/\kl < np/\Zd P f/\∀ (ρ:Nat->Value) (I:Nat->Prop) (w:World) (vs:List Value) (l:Nat),Dg (ρ kl)=some l->
  HI ρ I w bx.length->Cj ρ I w caps vs->(∀ k lb,bx[k]?=some lb->jS ρ I w (ρ k) lb)->
  (∀ k k' b,k < bx.length->k' < bx.length->Dg (ρ k)=some b->Dg (ρ k')=some b->k=k')->
  Calls P f (.func (.yield l) #[] #[] :: vs).toArray w fun e w'=>∃ v bx',e=.returned v/\R bx'/\lT ρ I w np bx.length v (.tup []) bx' w'
theorem Itr.of {P:Program} {f kl np:Nat} {fn:Func} {c:Code} {caps:List DV} {bx:List LB} {R:List LB->Prop} (hf:P.funcs[f]?=some fn) (hb:fn.body=some c) (hn:(fn.name == "runtime.NumGoroutine")=false)
  (hchk:(Xz bx.length caps && (bx.all (ltB bx.length) && Nat.ble (caps.length + 1) fn.ntmps && Nat.ble np bx.length))=true) (hkl:Nat.blt kl np=true)
  (h:∀ w0 I ρ0 l,Dg (ρ0 kl)=some l->Kb P ⟨w0,I,ρ0,np,bx.length,fn.ntmps,none⟩ c (aJ7 P fn np fun r b=>r=.tup []/\R b) (mk (lU 0 (.val (.func (.yield l) #[] #[]) :: caps)) (ix 0 bx) bx.length)):Itr P f kl np caps bx R:=by
 have hk:kl < np:=aC1 hkl
 refine⟨?_,hk,Zd.of hf hn (by rw [hb]; rfl),fun ρ I w vs l hl hI hargs hbx hsep=>?_⟩
 ·simp only [aF5] at hchk
  exact aC1 hchk.2.2
 refine (aE9 (args:=.val (.func (.yield l) #[] #[]) :: caps) (vs:=.func (.yield l) #[] #[] :: vs) (R:=fun r b=>r=.tup []/\R b) hf hb ?_ hI ?_ hbx hsep (h w I ρ l hl)).mono (by rintro e w' ⟨v,r,bx',h1,⟨rfl,h2⟩,h3⟩; exact⟨v,bx',h1,h2,h3⟩)
 ·have:Xz bx.length (.val (.func (.yield l) #[] #[]) :: caps)=Xz bx.length caps:=by
   rw [Xz]
   show (true && _)=_
   rw [bD1]
  rw [this]
  exact hchk
 ·unfold Cj
  exact⟨_,_,rfl,by unfold Dk; exact⟨rfl,rfl⟩,hargs⟩
theorem sU:∀ (ps:List Nat) (vs:List Value) (tm:Array Value),ps.length=vs.length->ps.Nodup->(∀ t∈ps,t < tm.size)->
  ((ps.zip vs).foldl (fun tmps (p:Nat×Value)=>tmps.setIfInBounds p.1 p.2) tm).size=tm.size/\
  (∀ (i t:Nat) (v:Value),ps[i]?=some t->vs[i]?=some v->((ps.zip vs).foldl (fun tmps (p:Nat×Value)=>tmps.setIfInBounds p.1 p.2) tm).getD t undef=v)/\
  ∀ t,t∉ps->((ps.zip vs).foldl (fun tmps (p:Nat×Value)=>tmps.setIfInBounds p.1 p.2) tm).getD t undef=tm.getD t undef
 | [],vs,tm,_,_,_=>⟨rfl,fun i t v h=>by simp at h,fun _ _=>rfl⟩
 | p :: ps,[],tm,h,_,_=>by simp at h
 | p :: ps,v0 :: vs,tm,hl,hn,hs=>by
  obtain⟨n1,n2⟩:=List.nodup_cons.1 hn
  obtain⟨h1,h2,h3⟩:=sU ps vs (tm.setIfInBounds p v0) (by simpa using hl) n2 (fun t ht=>by simpa using hs t (.tail _ ht))
  have hp:(tm.setIfInBounds p v0).getD p undef=v0:=by
   have:=hs p (.head _)
   simp [aTm,this]
  refine⟨by simpa using h1,fun i t v hi hv=>?_,fun t ht=>?_⟩
  ·cases i with
   | zero=>
    simp at hi hv
    subst hi hv
    exact (h3 p n1).trans hp
   | succ i=>exact h2 i t v (by simpa using hi) (by simpa using hv)
  ·refine (h3 t (fun h=>ht (.tail _ h))).trans ?_
   have hne:p≠t:=fun e=>ht (by rw [e]; exact .head _)
   simp [aTm,hne]
def Rnd (P:Program) (ts:List Nat) (ds:List DV) (N:Nat) (rc:Loop) (kl np:Nat) (args:List DV) (bx:List LB) (R:Bool->List LB->Prop):Prop:=
 np<=bx.length/\kl < np/\bx[kl]?=some (.lop ts ds N rc)/\∀ (m:Nat) (ρ:Nat->Value) (I:Nat->Prop) (w:World) (vs:List Value) (l:Nat),Dg (ρ kl)=some l->
  HI ρ I w bx.length->Cj ρ I w args vs->(∀ k lb,bx[k]?=some lb->jS ρ I w (ρ k) lb)->
  (∀ k k' b,k < bx.length->k' < bx.length->Dg (ρ k)=some b->Dg (ρ k')=some b->k=k')->
  ∃ fn tmps assign body,(Instr.yield l vs.toArray).run P w=.ok (.round l fn tmps assign body) w/\
   RoundIn (FW none) m P l fn tmps assign body w fun e w'=>∃ b bx',e=.returned (.bool b)/\R b bx'/\lT ρ I w np bx.length (.bool b) (.val (.bool b)) bx' w'
def Loop.to (rc:Loop) (st:LoopState) (j:Option Code):Loop:={ rc with state:=st,pending:=j }
def wD (np kl N:Nat) (rc:Loop) (R:Bool->List LB->Prop) (j:Option Code) (σ:St):Prop:=
 ∃ ts ds bx' θ,σ.L kl=some (.lop ts ds N { rc with state:=.busy })/\R j.isNone bx'/\
  oN (σ.app none (Sn kl (.lop ts ds N { rc with state:=if j.isNone then .ready else .done,pending:=j }))) (G1 θ) (ix 0 bx')/\oG [(0,.val (.bool j.isNone))] (ix 0 bx') bx'.length θ=true/\lJ θ bx'.length np=true/\Nat.ble np bx'.length=true/\Nat.ble bx'.length (np + 8)=true
def aJ8 (np kl N:Nat) (rc:Loop) (R:Bool->List LB->Prop):Exit->St->Prop
 | .normal,σ=>wD np kl N rc R none σ
 | .ret,σ=>wD np kl N rc R (some .ret) σ
 | .exit id,σ=>wD np kl N rc R (some (.exit id)) σ
 | _,_=>False
def aR7 (P:Program) (cx:Cx) (np kl N:Nat) (rc:Loop) (R:Bool->List LB->Prop):Exit->St->Prop
 | .normal,σ=>∃ ts ds,σ.L kl=some (.lop ts ds N rc)/\Kb P cx rc.body (aJ8 np kl N rc R) (σ.app none (Sn kl (.lop ts ds N { rc with state:=.busy })))
 | _,_=>False
theorem Rnd.of {P:Program} {ts:List Nat} {ds:List DV} {N kl np:Nat} {rc:Loop} {args:List DV} {bx:List LB} {R:Bool->List LB->Prop} (hrc:rc.state=.ready) (hL:bx[kl]?=some (.lop ts ds N rc))
  (hchk:(Xz bx.length args && (bx.all (ltB bx.length) && (Nat.ble np bx.length && (Nat.blt kl np && (Nat.beq args.length rc.params.size && (decide rc.params.toList.Nodup && (rc.params.toList.all (fun t=>Nat.blt t N) && (ts.all (fun t=>!rc.params.toList.contains t) && Nat.beq ts.length ds.length))))))))=true)
  (h:∀ w0 I ρ0 l,Dg (ρ0 kl)=some l->Kb P ⟨w0,I,ρ0,np,bx.length,N,some l⟩ rc.assign (aR7 P ⟨w0,I,ρ0,np,bx.length,N,some l⟩ np kl N rc R) (mk (rc.params.toList.zip args ++ ts.zip ds) (ix 0 bx) bx.length)):Rnd P ts ds N rc kl np args bx R:=by
 simp only [aF5,aGo] at hchk
 obtain⟨c1,c2,c3,c4,c5,c6,c7,c8,c9⟩:=hchk
 have c3:=aC1 c3
 have c4:kl < np:=aC1 c4
 have c5:=aFs c5
 have c6:=aDm c6
 have c9:=aFs c9
 refine⟨c3,c4,hL,fun m ρ I w vs l hl hI hargs hbx hsep=>?_⟩
 obtain⟨b,tm,q1,q2,q3,q4⟩:=hbx kl _ hL
 have hbl:b=l:=by rw [q1] at hl; injection hl
 subst hbl
 have hlen:=hargs.length
 have hy:=run_yield (P:=P) (args:=vs.toArray) q2 (by show vs.length=rc.params.size; omega)
 refine⟨_,_,_,_,hy,roundIn_of_wpIn trivial ?_⟩
 have hpl:rc.params.toList.length=vs.length:=by simp; omega
 obtain⟨f1,f2,f3⟩:=sU rc.params.toList vs tm hpl c6 (fun t ht=>by rw [q3]; exact aC1 (c7 t ht))
 have hfold:((rc.params.zip vs.toArray).foldl (fun tmps (x:Nat×Value)=>match x with | (t,a)=>tmps.setIfInBounds t a) tm)=((rc.params.toList.zip vs).foldl (fun tmps (p:Nat×Value)=>tmps.setIfInBounds p.1 p.2) tm):=by
  rw [<- Array.foldl_toList]
  simp [Array.toList_zip]
 have hA:Fg ⟨w,I,ρ,np,bx.length,N,some b⟩ ρ (mk (rc.params.toList.zip args ++ ts.zip ds) (ix 0 bx) bx.length) { tmps:=((rc.params.toList.zip vs).foldl (fun tmps (p:Nat×Value)=>tmps.setIfInBounds p.1 p.2) tm),defers:=[] } w:=by
  refine sV c2 c3 (f1.trans q3) hI (fun t d hd=>?_) hbx hsep
  rcases aKi.1 (Jn hd) with hm | hm
  ·obtain⟨i,hi⟩:=aNn.1 hm
   obtain⟨i1,i2⟩:=List.getElem?_zip_eq_some.1 hi
   obtain⟨v,hv,hr⟩:=hargs.at_ i2
   exact⟨by show Dk ρ I w d (_:Value); rw [f2 i t v i1 hv]; exact hr,fun k hk=>O3 c1 k (Pq.menL_at i2 hk)⟩
  ·obtain⟨i,hi⟩:=aNn.1 hm
   obtain⟨i1,i2⟩:=List.getElem?_zip_eq_some.1 hi
   obtain⟨v,hv,hr⟩:=q4.at_ i2
   have i1':ts[i]?=some t:=i1
   rw [aKm,i1'] at hv
   injection hv with hv
   subst hv
   have hnt:t∉rc.params.toList:=fun hc=>by
    have:=c8 t (aIm i1')
    rw [List.contains_iff_mem.2 hc] at this
    cases this
   exact⟨by show Dk ρ I w d (_:Value); rw [f3 t hnt]; exact hr,fun k hk=>O3 (c2 _ (aIm hL)) k (Pq.menL_at i2 hk)⟩
 have pinb:∀ {ρ':Nat->Value} {b':Nat},ρ' kl=ρ kl->ρ' kl=.pointer (some ⟨b',0,none⟩)->b'=b:=fun h1 h2=>by
  rw [h1,q1] at h2
  injection h2 with h2
  injection h2 with h2
  injection h2 with h2
  exact h2.symm
 show rc.assign.wpIn (FW (some b)) m P _ _ w
 have hw:=h w I ρ b hl m _ w ⟨ρ,hA⟩
 rw [<- hfold] at hw
 refine Code.wpIn_mono ?_ hw
 rintro e a1 w1 ⟨σ1,hq,ρ1,hA1⟩
 cases e with
 | normal=>
  obtain⟨ts1,ds1,hL1,hbody⟩:=hq
  obtain⟨b1,tm1,r1,r2,r3⟩:=hA1.rec_ hL1 { rc with state:=.busy }
  have:=pinb (hA1.pin kl c4).1 r1
  subst this
  refine⟨_,run_beginRound r2 hrc,?_⟩
  refine Code.wpIn_mono ?_ (hbody m _ _ ⟨ρ1,r3⟩)
  rintro e a2 w2 ⟨σ2,hq2,ρ2,hA2⟩
  have fin:∀ j,wD np kl N rc R j σ2->∃ v w',(Instr.endRound b1 j).run P w2=.ok v w'/\∃ bb bx',Ending.returned v=.returned (.bool bb)/\R bb bx'/\lT ρ I w np bx.length (.bool bb) (.val (.bool bb)) bx' w':=by
   rintro j ⟨ts2,ds2,bx',θ,e1,e2,e3,e4,e5,e6,e7⟩
   obtain⟨b2,tm2,s1,s2,s3⟩:=hA2.rec_ e1 { rc with state:=if j.isNone then .ready else .done,pending:=j }
   have:=pinb (hA2.pin kl c4).1 s1
   subst this
   exact⟨_,_,run_endRound j s2,_,bx',rfl,e2,yL s3 c3 (by unfold Dk; exact⟨rfl,rfl⟩) (.val _) e3 e4 e5 e6 e7⟩
  cases e with
  | normal=>exact fin none hq2
  | ret=>exact fin (some .ret) hq2
  | exit id=>exact fin (some (.exit id)) hq2
  | _=>exact hq2.elim
 | _=>exact hq.elim
section
variable {P:Program} {cx:Cx} {σ:St} {ops:Array Oper} {Q:Exit->St->Prop}
theorem P5.yield {o:Oper} {l':List Oper} {tk t kl N l:Nat} {xs:Array Operand} {tys:Array TypeId} {b:Option LB} {dsA:List (DV×Option LB)} {ps gs el ts:List Nat} {ds args:List DV} {bx:List LB} {rc:Loop} {R:Bool->List LB->Prop} (fl:Bool) (hrr:cx.rr=none)
  (ho:o.op=.call ⟨.value (.tmp t),xs,tys⟩) (G:Ly ops σ o=some true) (hds:Gk σ true (.tmp t :: xs.toList)=some ((.val (.func (.yield l) #[] #[]),b) :: dsA)) (hF:Rnd P ts ds N rc kl ps.length args bx R)
  (hA:H1 fl (ps ++ gs) (Kz σ el) (dsA.map (·.1)) args) (hB:Zv fl (ps ++ gs) (Kz σ el) (ps ++ gs) bx) (hh:O5 cx.np ps gs=true) (hfl:fl=true->∀ bb bx',R bb bx'->∀ lb∈bx',Pr lb) (B:∀ j,j < 8->σ.U (tk + j)=false) (hdst:∀ t,o.dst=some t->t < cx.N)
  (hkl:∃ j,ps[kl]?=some j/\j < cx.np/\Dg (cx.ρ0 j)=some l)
  (k:∀ bb bx',R bb bx'->ps.length<=bx'.length->bx'.length<=ps.length + 8->P5 P cx ops Q l' (σ.app o.dst (P3 ps gs tk (.val (.bool bb)) bx'))):P5 P cx ops Q (o :: l') σ:=by
 rintro n a w ⟨ρ,ha⟩
 obtain⟨e0,e2⟩:=S7 hds
 have hv:=He ha e0
 obtain⟨c1,c2,c3,c4⟩:=iY rfl hA (Rm ha e2).1 hB hh ha
 obtain⟨j,j1,j2,j3⟩:=hkl
 have hwr:(ps ++ gs)[kl]?=some j:=by
  rw [aF7 (aBe.1 j1).1]; exact j1
 have hlk:Dg (ρ (In (ps ++ gs) 0 kl))=some l:=by
  unfold In
  rw [hwr]
  show Dg (ρ j)=some l
  rw [(ha.pin j j2).1]
  exact j3
 obtain⟨fn,tmps,assign,body,hy,hR⟩:=hF.2.2.2 (n - 1) (fun k=>ρ (In (ps ++ gs) 0 k)) (fun b=>O1 cx σ ρ w b\/sI fl (ps ++ gs) σ ρ b) w (xs.toList.map a.eval) l hlk c1 c2 c3 c4
 have e1:(xs.toList.map a.eval).toArray=xs.map a.eval:=by rw [<- bB0,aWp]
 rw [e1] at hy
 have hrun:(execOp a.eval o).run P w=.ok (.round l fn tmps assign body) w:=by
  have e3:(#[] ++ Array.map a.eval xs:Array Value)=Array.map a.eval xs:=by simp
  simp only [execOp,ho,resolve,hv,Deferred.ofValue,Sem.run_bind,Sem.run_pure,Result.andThen_ok,invoke,e3]
  exact hy
 unfold wpListIn
 rw [if_pos (Yi ha G)]
 unfold Oper.wpIn
 refine⟨fun _ _=>trivial,?_⟩
 have hs:o.semAt (FW cx.rr).round a.eval=execOp a.eval o:=by rw [hrr]; rfl
 rw [hs,hrun,Oper.uponIn_round,hrr]
 refine⟨fun h=>by simp [FW,Fence.wide] at h,hR.mono ?_⟩
 rintro e w' ⟨bb,bx',rfl,hb,hback⟩
 have:=(dT (dst:=o.dst) (tk:=tk) rfl hB hh (fun h=>⟨by unfold Kl; trivial,hfl h bb bx' hb⟩) ha B hdst hback).imp fun _ h=>h.1
 have hk:=k bb bx' hb hback.le.1 hback.le.2 n _ _ this
 rw [hrr] at hk
 exact hk
end
section
variable {P:Program} {cx:Cx} {ρ:Nat->Value} {σ:St} {a:Act} {w:World}
theorem xV {I:Nat->Prop} {g:Nat->Value}:∀ (ts:List Nat) (ds:List DV),ts.length=ds.length->(∀ (i t:Nat) (d:DV),ts[i]?=some t->ds[i]?=some d->Dk ρ I w d (g t))->Cj ρ I w ds (ts.map g)
 | [],[],_,_=>by unfold Cj; rfl
 | [],d :: ds,h,_=>by simp at h
 | t :: ts,[],h,_=>by simp at h
 | t :: ts,d :: ds,h,hr=>by
  unfold Cj
  exact⟨g t,ts.map g,rfl,hr 0 t d rfl rfl,xV ts ds (by simpa using h) fun i t' d' h1 h2=>hr (i + 1) t' d' (by simpa using h1) (by simpa using h2)⟩
theorem xQ {j:Nat}:∀ {ds:List DV},G9 ds j->∃ (i:Nat) (d:DV),ds[i]?=some d/\men d j
 | [],h=>by unfold G9 at h; exact h.elim
 | d :: ds,h=>by
  unfold G9 at h
  rcases h with h | h
  ·exact⟨0,d,rfl,h⟩
  ·obtain⟨i,d',h1,h2⟩:=xQ h
   exact⟨i + 1,d',by simpa using h1,h2⟩
theorem Fg.enter (h:Fg cx ρ σ a w) {tk:Nat} {ts:List Nat} {ds:List DV} {rc:Loop} (B:σ.U tk=false) (hlen:ts.length=ds.length) (hts:∀ (i t:Nat) (d:DV),ts[i]?=some t->ds[i]?=some d->σ.F t=some d) :
  Fg cx (fun k=>if k=tk then .pointer (some ⟨w.heap.size + 1,0,none⟩) else ρ k) (σ.app none (Sn tk (.lop ts ds cx.N rc))) { a with defers:={ target:=.collected w.heap.size,args:=#[] } :: a.defers }
   ((w.alloc (.deferred (some []))).alloc (.loop { rc with tmps:=a.tmps })):=by
 have hel:∀ j x,(Sn tk (.lop ts ds cx.N rc)).l j=some x->j=tk/\x=some (.lop ts ds cx.N rc):=fun j x hx=>by
  unfold Sn at hx
  simp only at hx
  cases hj:Nat.beq j tk with
  | false=>rw [hj] at hx; cases hx
  | true=>rw [hj] at hx; injection hx with hx; exact⟨aFs hj,hx.symm⟩
 have hne:∀ k,σ.U k=true->k≠tk:=fun k hk e=>by rw [e,B] at hk; cases hk
 have hold:∀ b,b < w.heap.size->((w.alloc (.deferred (some []))).alloc (.loop { rc with tmps:=a.tmps })).heap[b]?=w.heap[b]?:=fun b hb=>by
  rw [Below.heap_alloc _ _ _ (by simp; omega),Below.heap_alloc _ _ _ hb]
 have hsz:((w.alloc (.deferred (some []))).alloc (.loop { rc with tmps:=a.tmps })).heap.size=w.heap.size + 2:=by simp
 have hD:((w.alloc (.deferred (some []))).alloc (.loop { rc with tmps:=a.tmps })).heap[w.heap.size]?=some (.deferred (some [])):=(Below.heap_alloc _ _ _ (by simp)).trans (World.alloc_heap_new w _)
 have hR:((w.alloc (.deferred (some []))).alloc (.loop { rc with tmps:=a.tmps })).heap[w.heap.size + 1]?=some (.loop { rc with tmps:=a.tmps }):=by
  have:=World.alloc_heap_new (w.alloc (.deferred (some []))) (.loop { rc with tmps:=a.tmps }); rwa [World.size_alloc] at this
 generalize hW:(w.alloc (.deferred (some []))).alloc (.loop { rc with tmps:=a.tmps })=W at *
 have hos:W.os=w.os/\W.tape=w.tape/\W.output=w.output:=by rw [<- hW]; exact⟨rfl,rfl,rfl⟩
 have hA:=h.app (w':=W) (dst:=none) (e:=Sn tk (.lop ts ds cx.N rc)) (v:=undef) (ρ':=fun k=>if k=tk then .pointer (some ⟨w.heap.size + 1,0,none⟩) else ρ k) ?_ (by omega) (fun t ht=>by cases ht) (fun k hk=>if_neg (hne k hk)) (fun b' hb' hn=>hold b' hb') (fun j lb b' h1 h2=>?_) (fun j j' lb lb' b' h1 h2 _ _=>?_) (fun hI _=>⟨fun j lb h1=>?_,fun d hd=>by cases hd⟩) ⟨fun j lb j' h1 h2=>?_,fun d j' hd=>by cases hd⟩ (fun j lb b' h1 h2 h3=>?_)
 ·have hw0:=h.kept.2.2.2.1
  refine⟨⟨?_,fun d hd=>?_⟩,hA.size,hA.kept,hA.fr,hA.lo,hA.sep,hA.usedF,hA.usedL,hA.pin,hA.fresh,hA.glo⟩
  ·refine aYn.2 ⟨fun d hd=>?_,h.defers.1⟩
   obtain⟨D,rfl,q1,-,-⟩:=h.defers.2 d hd
   intro e
   injection e with e
   injection e with e
   have:=q1.1
   omega
  ·rcases aF6.1 hd with rfl | hd
   ·refine⟨w.heap.size,rfl,⟨by omega,?_,fun hlt=>by omega⟩,by omega,hD⟩
    rintro⟨k,lb,h1,h2⟩
    dsimp only at h2
    by_cases hk:k=tk
    ·rw [if_pos hk] at h2
     simp [Dg] at h2
    ·rw [if_neg hk] at h2
     have hL:σ.L k=some lb:=by
      have:=h1
      unfold St.app at this
      simp only at this
      cases he:(Sn tk (.lop ts ds cx.N rc)).l k with
      | none=>rw [he] at this; exact this
      | some x=>exact (hk (hel k x he).1).elim
     have:=((h.lo k lb hL).blk h2).1
     omega
   ·exact hA.defers.2 d hd
 ·obtain⟨k1,k2,k3,k4,k5⟩:=h.kept
  exact⟨hos.1.trans k1,hos.2.1.trans k2,hos.2.2.trans k3,by omega,fun b' hb' hM=>(hold b' (by omega)).trans (k5 b' hb' hM)⟩
 ·obtain⟨rfl,-⟩:=hel j _ h1
  simp [Dg] at h2
  exact .inl (by omega)
 ·rw [(hel j _ h1).1,(hel j' _ h2).1]
 ·obtain⟨rfl,hx⟩:=hel j _ h1
  injection hx with hx
  subst hx
  have hw0:=h.kept.2.2.2.1
  refine⟨w.heap.size + 1,a.tmps,by simp,hR,.inl (by omega),h.size,xV ts ds hlen fun i t d h1 h2=>?_⟩
  have hF:=hts i t d h1 h2
  exact Dk.step hI d _ (fun k hk=>if_neg (hne k (h.usedF t d k hF hk))) (h.fr t d hF)
 ·obtain⟨rfl,hx⟩:=hel j _ h1
  injection hx with hx
  subst hx
  have h2:G9 ds j':=h2
  obtain⟨i,d,h3,h4⟩:=xQ h2
  have hi:=(aBe.1 h3).1
  exact .inl (h.usedF _ d j' (hts i _ d (aBb (by omega)) h3) h4)
 ·obtain⟨rfl,hx⟩:=hel j _ h1
  simp [Dg] at h3
  have hw0:=h.kept.2.2.2.1
  exact .inl (by omega)
def eP (pr:Array Tmp) (assign body:Code) (fn D:Nat):Loop:={ state:=.ready,pending:=none,fn:=fn,tmps:=#[],params:=pr,assign:=assign,body:=body,defers:=D }
def aEw (Q:Exit->St->Prop):Option Code->St->Prop
 | none,σ=>Q .normal σ
 | some .ret,σ=>Q .ret σ
 | some (.exit id),σ=>Q (.exit id) σ
 | _,_=>False
theorem aHr {Q:Exit->St->Prop} {n:Nat} (h:Fg cx ρ σ a w) {j:Option Code}:aEw Q j σ->(match j with
  | none=>Uk cx Q .normal a w
  | some c=>c.wpIn (FW none) n P (Uk cx Q) a w):=by
 intro hq
 cases j with
 | none=>exact⟨_,hq,ρ,h⟩
 | some c=>
  cases c with
  | ret=>exact wpIn_ret ⟨_,hq,ρ,h⟩
  | exit id=>exact wpIn_exit ⟨_,hq,ρ,h⟩
  | _=>exact hq.elim
theorem zZ {Q:Exit->St->Prop} {g:Operand} {pr:Array Tmp} {assign body:Code} {tk gf kl:Nat} {cs caps:List DV} {b:Nat->Nat->Option LB} {ps gs el ts:List Nat} {ds:List DV} {bx:Nat->Nat->List LB} {R:Nat->Nat->List LB->Prop} (fl:Bool) (hrr:cx.rr=none)
  (hev:∀ fn D,ev (σ.app none (Sn tk (.lop ts ds cx.N (eP pr assign body fn D)))) true g=some (.clo gf 0 cs,b fn D)) (B:∀ j,j < 16->σ.U (tk + j)=false) (hlen:ts.length=ds.length) (hts:∀ (i t:Nat) (d:DV),ts[i]?=some t->ds[i]?=some d->σ.F t=some d)
  (hI:∀ fn D,Itr P gf kl ps.length caps (bx fn D) (R fn D)) (hA:∀ fn D,H1 fl (ps ++ gs) (Kz (σ.app none (Sn tk (.lop ts ds cx.N (eP pr assign body fn D)))) el) cs caps)
  (hB:∀ fn D,Zv fl (ps ++ gs) (Kz (σ.app none (Sn tk (.lop ts ds cx.N (eP pr assign body fn D)))) el) (ps ++ gs) (bx fn D)) (hh:O5 cx.np ps gs=true) (hfl:fl=true->∀ fn D bx',R fn D bx'->∀ lb∈bx',Pr lb) (hkl:ps[kl]?=some tk)
  (k:∀ fn D bx',R fn D bx'->ps.length<=bx'.length->bx'.length<=ps.length + 8->∃ ts' ds' N' rc',((σ.app none (Sn tk (.lop ts ds cx.N (eP pr assign body fn D)))).app none (P3 ps gs (tk + 8) (.tup []) bx')).L tk=some (.lop ts' ds' N' rc')/\rc'.state≠.busy/\
   aEw Q rc'.pending (((σ.app none (Sn tk (.lop ts ds cx.N (eP pr assign body fn D)))).app none (P3 ps gs (tk + 8) (.tup []) bx')).app none (Sn tk (.lop ts' ds' N' { rc' with state:=.exhausted })))):Kb P cx (.rangeFunc g pr assign body) Q σ:=by
 rintro n a w ⟨ρ,ha⟩
 rw [hrr]
 refine wpIn_rangeFunc fun fn _=>?_
 have hU0:σ.U tk=false:=B 0 (by omega)
 have hE:=ha.enter (rc:=eP pr assign body fn w.heap.size) hU0 hlen hts
 obtain⟨W1,hW1⟩:∃ W1,(w.alloc (.deferred (some []))).alloc (.loop { eP pr assign body fn w.heap.size with tmps:=a.tmps })=W1:=⟨_,rfl⟩
 rw [hW1] at hE
 have hen:(Instr.enterLoop fn a.tmps pr assign body none).run P w=.ok (w.heap.size + 1,[{ target:=.collected w.heap.size,args:=#[] }]) W1:=by
  rw [<- hW1]; exact run_enterLoop_outer _ _ _ _ _
 clear hW1
 obtain⟨h0,-,-⟩:=D8 hE (hev fn w.heap.size)
 unfold Dk at h0
 obtain⟨vs,hv,hr⟩:=h0
 have hv:a.eval g=.func (.func gf) #[] vs.toArray:=by
  have hv':a.eval g=.func (.func gf) (vs.take 0).toArray (vs.drop 0).toArray:=hv
  simpa using hv'
 have hUt:(σ.app none (Sn tk (.lop ts ds cx.N (eP pr assign body fn w.heap.size)))).U tk=true:=by
  unfold St.app Sn
  simp
 have hU8:∀ j,j < 8->(σ.app none (Sn tk (.lop ts ds cx.N (eP pr assign body fn w.heap.size)))).U (tk + 8 + j)=false:=fun j hj=>by
  have h1:=B (8 + j) (by omega)
  rw [<- Nat.add_assoc] at h1
  have h2:Nat.beq (tk + 8 + j) tk=false:=by
   cases h:Nat.beq (tk + 8 + j) tk with
   | false=>rfl
   | true=>have:=aFs h; omega
  unfold St.app Sn
  simp only [h1,h2,aE8,bB6]
  rfl
 obtain⟨c1,c2,c3,c4⟩:=iY rfl (hA fn w.heap.size) hr (hB fn w.heap.size) hh hE
 obtain⟨i1,i2,i3,i4⟩:=hI fn w.heap.size
 have hwr:(ps ++ gs)[kl]?=some tk:=by
  rw [aF7 (aBe.1 hkl).1]; exact hkl
 have hl:Dg ((fun k=>if k=tk then .pointer (some ⟨w.heap.size + 1,0,none⟩) else ρ k) (In (ps ++ gs) 0 kl))=some (w.heap.size + 1):=by
  have:In (ps ++ gs) 0 kl=tk:=by unfold In; rw [hwr]
  rw [this]
  dsimp only
  rw [if_pos rfl]
  rfl
 have hcall:=i4 _ _ _ vs (w.heap.size + 1) hl c1 c2 c3 c4
 have eargs:(Value.func (.yield (w.heap.size + 1)) #[] #[] :: vs).toArray=#[.func (.yield (w.heap.size + 1)) #[] #[]] ++ vs.toArray:=by
  apply Array.toList_inj.1
  simp
 rw [eargs] at hcall
 have hres:(resolve a.eval (rangeCall g (w.heap.size + 1)) 0).run P W1=.ok { target:=.fn (.func gf) vs.toArray,args:=#[.func (.yield (w.heap.size + 1)) #[] #[]] } W1:=by
  simp only [resolve,hv]
  simp [go_sem]
 have hinv:(invoke (.fn (.func gf) vs.toArray) #[.func (.yield (w.heap.size + 1)) #[] #[]]).run P W1=.ok (.enter gf (#[.func (.yield (w.heap.size + 1)) #[] #[]] ++ vs.toArray)) W1:=by
  simp only [invoke]
  exact i3 _ _
 have hend:CallsIn (FW none) (n - 1) P gf (#[.func (.yield (w.heap.size + 1)) #[] #[]] ++ vs.toArray) W1 (rangePost (FW none) n P (w.heap.size + 1) (Uk cx Q) { a with defers:=[{ target:=.collected w.heap.size,args:=#[] }] ++ a.defers }):=by
  refine Zy.2 (hcall.mono ?_)
  rintro e w3 ⟨v,bx',rfl,hR,hback⟩
  obtain⟨ρ3,h3,hρ3⟩:=dT (dst:=none) (tk:=tk + 8) rfl (hB fn w.heap.size) hh (fun h=>⟨by unfold Kl Nm; trivial,hfl h _ _ bx' hR⟩) hE hU8 (fun t ht=>by cases ht) hback
  obtain⟨ts',ds',N',rc',hL,hst,hq⟩:=k fn w.heap.size bx' hR hback.le.1 hback.le.2
  obtain⟨b3,tm3,r1,r2,r3⟩:=h3.rec_ hL { rc' with state:=.exhausted }
  have hb3:b3=w.heap.size + 1:=by
   have:=hρ3 tk hUt
   rw [if_pos rfl,r1] at this
   injection this with this
   injection this with this
   injection this
  subst hb3
  have hrl:=run_endLoop (P:=P) r2 hst
  have r4:Fg cx ρ3 _ { a with defers:=[{ target:=.collected w.heap.size,args:=#[] }] ++ a.defers } _:=r3
  exact⟨rc'.pending,_,hrl,aHr (n:=n) r4 hq⟩
 have hld:∀ f',Target.leads P W1 (.fn (.func gf) vs.toArray) #[.func (.yield (w.heap.size + 1)) #[] #[]]=some f'->(FW none).fn f':=fun _ _=>trivial
 have hdp:(FW none).depth.isSome=true->1<=n:=fun h=>by simp [FW,Fence.wide] at h
 exact⟨w.heap.size + 1,_,W1,_,W1,gf,_,W1,hen,hres,hld,hinv,hdp,hend⟩
end
end
section
open Go.RowKit
def jmp:Nat->Option Code
 | 0=>none
 | 1=>some .ret
 | k + 2=>some (.exit k)
def Oi (rc:Loop) (c:Nat):Loop:={ rc with state:=if (jmp c).isNone then .ready else .done,pending:=jmp c }
theorem aAj {rc:Loop} {c:Nat}:(Oi rc c).state≠.busy:=by
 unfold Oi
 dsimp only
 split <;> simp
section
variable {P:Program} {cx:Cx} {σ:St} {Q:Exit->St->Prop}
theorem aFa {k nb:Nat} {lb:LB} (B:∀ j,nb<=j->σ.U j=false) (hk:Nat.blt k nb=true):∀ j,nb<=j->(σ.app none (Sn k lb)).U j=false:=fun j hj=>by
 unfold St.app Sn
 have h1:Nat.beq j k=false:=by
  cases h:Nat.beq j k with
  | false=>rfl
  | true=>
   have:=aFs h
   have hk:k + 1<=nb:=aC1 hk
   omega
 simp only [B j hj,h1,aE8,bB6]
 rfl
theorem aKv {ps gs:List Nat} {tk nb:Nat} {r:DV} {bx:List LB} {dst:Option Tmp} (B:∀ j,tk<=j->σ.U j=false) (G:∀ j∈ps ++ gs,j < tk) (hb:bx.length<=ps.length + 8) (hn:tk + 8<=nb) :
  ∀ j,nb<=j->(σ.app dst (P3 ps gs tk r bx)).U j=false:=fun j hj=>by
 have h0:=B j (by omega)
 have hl:(P3 ps gs tk r bx).l j=none:=by
  show (match G1 (Yo ps tk 0 bx) j with | some lb=>some (some lb) | none=>bif gs.any (Nat.beq j) then some none else none)=none
  cases hk:G1 (Yo ps tk 0 bx) j with
  | some lb=>
   obtain⟨i,x,h1,h2,-⟩:=X6 hk
   exfalso
   unfold In at h2
   have hi:=(aBe.1 h1).1
   cases hp:ps[0 + i]? with
   | some k=>
    rw [hp] at h2
    have:=G k (aPy _ (aIm hp))
    simp at h2
    omega
   | none=>
    rw [hp] at h2
    simp at h2
    omega
  | none=>
   have:gs.any (Nat.beq j)=false:=by
    cases ha:gs.any (Nat.beq j) with
    | false=>rfl
    | true=>
     obtain⟨k,h1,h2⟩:=aLm.1 ha
     have:=G k (aQo _ h1)
     have:=aFs h2
     omega
   rw [this]
   rfl
 unfold St.app
 simp only [h0,hl]
 rfl
theorem ag_ {np kl N nb:Nat} {rc:Loop} {R:Bool->List LB->Prop} {ts:List Nat} {ds:List DV} (B:∀ j,nb<=j->σ.U j=false) (hL:σ.L kl=some (.lop ts ds N rc)) (hk:Nat.blt kl nb=true)
  (h:∀ rb,rb={ rc with state:=.busy }->(∀ j,nb<=j->(σ.app none (Sn kl (.lop ts ds N rb))).U j=false)->Kb P cx rc.body (aJ8 np kl N rc R) (σ.app none (Sn kl (.lop ts ds N rb)))):aR7 P cx np kl N rc R .normal σ:=
 ⟨ts,ds,hL,h _ rfl (aFa B hk)⟩
theorem rf_ {np kl N:Nat} {rc rb:Loop} {R:Bool->List LB->Prop} {ts:List Nat} {ds:List DV} {bx:List LB} (c:Nat) (hrb:rb={ Oi rc 0 with state:=.busy }) (θ:List (Nat×Nat)) (hL:σ.L kl=some (.lop ts ds N rb)) (hR:R (jmp c).isNone bx)
  (h3:oN (σ.app none (Sn kl (.lop ts ds N (Oi rc c)))) (G1 θ) (ix 0 bx):=by
   repeat' first
    | exact trivial
    | refine⟨.inl ⟨_,_,rfl,rfl,⟨rfl,rfl,rfl⟩⟩,?_⟩
    | refine⟨.inl ⟨_,_,rfl,rfl,⟨⟨rfl,rfl,rfl⟩,?_⟩⟩,?_⟩
    | refine⟨.inl ⟨_,_,rfl,rfl,rfl⟩,?_⟩
    | refine⟨.inl ⟨_,_,rfl,rfl,⟨rfl,?_⟩⟩,?_⟩
    | refine⟨.inr ⟨rfl,_,_,rfl⟩,?_⟩
    | exact Cv.val _
    | exact Cv.sl _ _
    | exact Cv.slc _ _
    | exact Cv.ptr rfl
    | exact Cv.row rfl
    | exact Cv.nil rfl
    | exact Cv.nils _
    | exact Cv.elt _
    | exact Cv.mp _
    | exact Cv.imm _
    | exact Cv.nilI
    | refine Cv.clo _ _ ?_
    | refine Cv.agg ?_
    | exact U5.nil
    | refine U5.cons ?_ ?_
    | exact Cv.frz rfl (H3 rfl))
  (h4:oG [(0,.val (.bool (jmp c).isNone))] (ix 0 bx) bx.length θ=true:=by rfl) (h5:lJ θ bx.length np=true:=by rfl) (h6:Nat.ble np bx.length=true:=by rfl) (h7:Nat.ble bx.length (np + 8)=true:=by rfl):wD np kl N (Oi rc 0) R (jmp c) σ:=by
 subst hrb
 exact⟨ts,ds,bx,θ,hL,hR,h3,h4,h5,h6,h7⟩
theorem rn_ {np kl N:Nat} {rc:Loop} {R:Bool->List LB->Prop} (h:wD np kl N rc R (jmp 0) σ):aJ8 np kl N rc R .normal σ:=h
theorem rr_ {np kl N:Nat} {rc:Loop} {R:Bool->List LB->Prop} (h:wD np kl N rc R (jmp 1) σ):aJ8 np kl N rc R .ret σ:=h
def aNc (σ:St):List Nat->List DV->Prop
 | [],[]=>True
 | t :: ts,d :: ds=>σ.F t=some d/\aNc σ ts ds
 | _,_=>False
theorem lY:∀ {ts:List Nat} {ds:List DV},aNc σ ts ds->ts.length=ds.length/\∀ (i t:Nat) (d:DV),ts[i]?=some t->ds[i]?=some d->σ.F t=some d
 | [],[],_=>⟨rfl,fun i t d h=>by simp at h⟩
 | t :: ts,d :: ds,h=>by
  obtain⟨h1,h2⟩:=lY h.2
  refine⟨by simp [h1],fun i t' d' h3 h4=>?_⟩
  cases i with
  | zero=>simp at h3 h4; rw [<- h3,<- h4]; exact h.1
  | succ i=>exact h2 i t' d' (by simpa using h3) (by simpa using h4)
 | [],d :: ds,h=>h.elim
 | t :: ts,[],h=>h.elim
theorem rk0 {c:Nat} (h:c=0) (hq:Q .normal σ):aEw Q (jmp c) σ:=by subst h; exact hq
theorem rk1 {c:Nat} (h:c=1) (hq:Q .ret σ):aEw Q (jmp c) σ:=by subst h; exact hq
theorem aGp {g:Operand} {pr:Array Tmp} {assign body:Code} {gf kl c N2:Nat} {cs caps:List DV} {b:Nat->Nat->Option LB} {ts:List Nat} {ds ds2:List DV} {bx bx':Loop->List LB} {X:Loop->Prop} (tk:Nat) (ps gs el:List Nat) (fl:Bool)
  (B:∀ j,tk<=j->σ.U j=false) (hI:∀ rc,X rc->Itr P gf kl ps.length caps (bx rc) (fun b'=>b'=bx' rc)) (hts:aNc σ ts ds)
  (hA:∀ fn D,H1 fl (ps ++ gs) (Kz (σ.app none (Sn tk (.lop ts ds cx.N (eP pr assign body fn D)))) el) cs caps)
  (hB:∀ fn D,Zv fl (ps ++ gs) (Kz (σ.app none (Sn tk (.lop ts ds cx.N (eP pr assign body fn D)))) el) (ps ++ gs) (bx (eP pr assign body fn D)))
  (hX:∀ fn D,X (eP pr assign body fn D))
  (k:∀ fn D,(∀ j,tk + 16<=j->(((σ.app none (Sn tk (.lop ts ds cx.N (eP pr assign body fn D)))).app none (P3 ps gs (tk + 8) (.tup []) (bx' (eP pr assign body fn D)))).app none (Sn tk (.lop ts ds2 N2 { Oi (eP pr assign body fn D) c with state:=.exhausted }))).U j=false)->
   aEw Q (jmp c) (((σ.app none (Sn tk (.lop ts ds cx.N (eP pr assign body fn D)))).app none (P3 ps gs (tk + 8) (.tup []) (bx' (eP pr assign body fn D)))).app none (Sn tk (.lop ts ds2 N2 { Oi (eP pr assign body fn D) c with state:=.exhausted }))))
  (hev:∀ fn D,ev (σ.app none (Sn tk (.lop ts ds cx.N (eP pr assign body fn D)))) true g=some (.clo gf 0 cs,b fn D):=by exact fun _ _=>rfl)
  (hL:∀ fn D,((σ.app none (Sn tk (.lop ts ds cx.N (eP pr assign body fn D)))).app none (P3 ps gs (tk + 8) (.tup []) (bx' (eP pr assign body fn D)))).L tk=some (.lop ts ds2 N2 (Oi (eP pr assign body fn D) c)):=by exact fun _ _=>rfl)
  (hfl:fl=true->∀ rc,∀ lb∈bx' rc,Pr lb:=by intro h; cases h) (hh:O5 cx.np ps gs=true:=by rfl) (hkl:ps[kl]?=some tk:=by rfl) (hlt:(ps ++ gs).all (fun j=>Nat.blt j (tk + 8))=true:=by rfl) (hrr:cx.rr=none:=by rfl):Kb P cx (.rangeFunc g pr assign body) Q σ:=by
 obtain⟨h1,h2⟩:=lY hts
 have G:∀ j∈ps ++ gs,j < tk + 8:=fun j hj=>aC1 (aGo.1 hlt j hj)
 refine zZ (R:=fun fn D b'=>b'=bx' (eP pr assign body fn D)) fl hrr hev (fun j _=>B _ (by omega)) h1 h2 (fun fn D=>hI _ (hX fn D)) hA hB hh (fun h fn D b' hb'=>by subst hb'; exact hfl h _) hkl ?_
 rintro fn D b' rfl h3 h4
 refine⟨ts,ds2,N2,Oi (eP pr assign body fn D) c,hL fn D,aAj,k fn D ?_⟩
 have hU1:∀ j,tk + 8<=j->(σ.app none (Sn tk (.lop ts ds cx.N (eP pr assign body fn D)))).U j=false:=aFa (fun j hj=>B j (by omega)) (aUg (by omega))
 exact aFa (aKv hU1 G h4 (aKp _)) (aUg (by omega))
end
section
variable {P:Program} {cx:Cx} {σ:St} {ops:Array Oper} {Q:Exit->St->Prop}
theorem yl_ {l':List Oper} {dst:Option Tmp} {t kl N l j:Nat} {xs:Array Operand} {tys:Array TypeId} {ty:TypeId} {pos:String} {af:Array Edge} {gd:Option (Nat×Bool)} {b:Option LB} {dsA:List (DV×Option LB)} {ts:List Nat} {ds args:List DV} {bx bx':List LB} {bb:Bool} {rc:Loop} (tk:Nat) (ps gs el:List Nat) (fl:Bool)
  (B:∀ j,tk<=j->σ.U j=false) (hl:Dg (cx.ρ0 j)=some l) (hF:Rnd P ts ds N (Oi rc 0) kl ps.length args bx (fun b1 b2=>b1=bb/\b2=bx'))
  (hA:H1 fl (ps ++ gs) (Kz σ el) (dsA.map (·.1)) args) (hB:Zv fl (ps ++ gs) (Kz σ el) (ps ++ gs) bx)
  (k:(∀ j,tk + 8<=j->(σ.app dst (P3 ps gs tk (.val (.bool bb)) bx')).U j=false)->P5 P cx ops Q l' (σ.app dst (P3 ps gs tk (.val (.bool bb)) bx')))
  (hds:Gk σ true (.tmp t :: xs.toList)=some ((.val (.func (.yield l) #[] #[]),b) :: dsA):=by rfl) (G:Ly ops σ ⟨dst,.call ⟨.value (.tmp t),xs,tys⟩,ty,pos,af,gd⟩=some true:=by rfl)
  (hh:O5 cx.np ps gs=true:=by rfl) (hfl:fl=true->∀ lb∈bx',Pr lb:=by intro h; cases h) (hdst:(match dst with | some t=>Nat.blt t cx.N | none=>true)=true:=by rfl)
  (hkl:ps[kl]?=some j:=by rfl) (hj:Nat.blt j cx.np=true:=by rfl) (hlt:(ps ++ gs).all (fun j=>Nat.blt j tk)=true:=by rfl) (hrr:cx.rr=none:=by rfl):P5 P cx ops Q (⟨dst,.call ⟨.value (.tmp t),xs,tys⟩,ty,pos,af,gd⟩ :: l') σ:=by
 have hg':∀ j∈ps ++ gs,j < tk:=fun j hj=>aC1 (aGo.1 hlt j hj)
 refine P5.yield (o:=⟨dst,.call ⟨.value (.tmp t),xs,tys⟩,ty,pos,af,gd⟩) (tk:=tk) fl hrr rfl G hds hF hA hB hh (fun h b1 b2 hb=>by rw [hb.2]; exact hfl h) (fun j _=>B _ (by omega)) (fun t ht=>by
  have ht:dst=some t:=ht
  subst ht
  exact aC1 hdst) ⟨j,hkl,aC1 hj,hl⟩ ?_
 rintro b1 b2 ⟨rfl,rfl⟩ h3 h4
 exact k (aKv B hg' h4 (aKp _))
end
end
end Go.Proofs.YtboglmbblmakjaaGreatDoor
