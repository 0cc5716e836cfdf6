import Derived.Test.YtkoflhimdenjaaaGreatEP
import Derived.Test.YtkoflhimdenjaaaGreatCH
set_option autoImplicit false
set_option linter.unusedVariables false
set_option linter.unusedSimpArgs false
namespace Go.Proofs.YtkoflhimdenjaaaGreat
open Go
theorem nY {l:List Int} (h:l.Nodup) (hr:∀ x∈l,vK x) (i:Nat):nX l i:=fun x hx=>by
 refine⟨hr x (Ff hx),fun hm=>?_⟩
 obtain⟨j,hj,he⟩:=aKv.1 hm
 rw [List.nodup_iff_pairwise_ne,aJ9] at h
 have hi:=Jo hx
 have:=h j i (by omega) hi (by omega)
 rw [aA9 hi] at hx
 exact this (by rw [he]; exact (oi_ hx).symm)
structure IdM (x:Am):Prop where
 key:uE x.Key
 id:0<=x.KeyId/\x.KeyId<=1000
 len:x.Chain.length<=3
 chain:∀ c∈x.Chain,G2 c=true/\S3 c
 head:Vn x.Key x.KeyId x.Chain=true
theorem IdM.shows {x:Am} (h:IdM x):O8 x.Key x.KeyId x.Chain=true:=gX h.key.2 (by have:=h.id; omega) (by have:=h.len; omega) (fun c hc=>(h.chain c hc).1) h.head
def zD:List (List Int):=[[1,2],[1,2],[1],[2,11],[]]
def wV:List (List Int):=[[1,2,3,4],[2,3,4],[3,4]]
structure EpM (name:ByteArray) (e:Af):Prop where
 name:e.Name=name
 least:1<=e.Least
 most:e.Least<=e.Most
 most4:e.Most<=4
 sn:e.Suites.length<=10
 suites:∀ i,nX e.Suites i
 idn:e.Identities.length<=3
 ids:∀ x∈e.Identities,IdM x
 anchors:e.Anchors∈zD
 hashes:e.Hashes∈wV
theorem mT {l:List Int} (h:(List.range l.length).all (fun i=>decide (i=0) || decide (l.getD (i - 1) 0 < l.getD i 0))=true) (i:Nat):VA (fun x y:Int=>x < y) l i:=fun x y h0 hx hy=>by
 have hi:=Jo hy
 have:=aHi.1 h i (aKe.2 hi)
 rw [aAy (by omega),aLf,R4 hx,R4 hy] at this
 exact aBs this
theorem EpM.fit {name:ByteArray} (hn:name.size<=32) {e:Af} (h:EpM name e):Ze e:=by
 have h1:=h.sn
 have h2:=h.idn
 refine⟨by rw [h.name]; omega,by unfold Lo; omega,by unfold Lo; omega,?_,?_,fun x hx c hc=>((h.ids x hx).chain c hc).2.w⟩
 ·have:=h.anchors
  unfold zD at this
  simp only [aDv,aFr,aJh] at this
  rcases this with e | e | e | e | e <;> rw [e] <;> (unfold Lo; decide)
 ·have:=h.hashes
  unfold wV at this
  simp only [aDv,aFr,aJh] at this
  rcases this with e | e | e <;> rw [e] <;> (unfold Lo; decide)
theorem EpM.valid {name:ByteArray} (hw:X2 name=true) {e:Af} (h:EpM name e):nO e:=by
 have hi:=h.idn
 have ha:=h.anchors
 have hh:=h.hashes
 unfold zD at ha
 unfold wV at hh
 simp only [aDv,aFr,aJh] at ha hh
 refine⟨by rw [h.name]; exact hw,h.least,h.most,h.most4,h.suites,by omega,?_,?_,?_,fun x hx=>(h.ids x hx).shows,?_,?_⟩
 ·rcases ha with e | e | e | e | e <;> rw [e] <;> decide
 ·rcases ha with e | e | e | e | e <;> rw [e] <;> exact mT (by decide)
 ·rcases hh with e | e | e <;> rw [e] <;> exact mT (by decide)
 ·rcases ha with e | e | e | e | e <;> rw [e] <;> decide
 ·rcases hh with e | e | e <;> rw [e] <;> decide +kernel
theorem yH {n:Int} (h:0<=n/\n<=100000):Sm n:=h
theorem LkV.snoc {l:List Co} {a:Co} (h:∀ i,LkV l i) (hr:0 < Pw a.Use/\0<=a.Day/\a.Day<=40000) (hd:∀ b∈l,b.Day < a.Day) (i:Nat):LkV (l ++ [a]) i:=by
 refine⟨fun x y h0 hx hy=>?_,fun b hb=>?_⟩
 ·have hi:=Jo hy
  rw [aEm,aEz] at hi
  rw [aHo (by omega)] at hx
  by_cases hl:i < l.length
  ·rw [aHo hl] at hy
   exact (h i).1 x y h0 hx hy
  ·rw [aIy (by omega),show i - l.length=0 by omega] at hy
   cases hy
   exact hd x (Ff hx)
 ·by_cases hl:i < l.length
  ·rw [aHo hl] at hb
   exact (h i).2 b hb
  ·rw [aIy (by omega)] at hb
   have:=aHn hb
   rw [aEo] at this
   subst this
   exact hr
structure ItM (x:Cf):Prop where
 ok:ItV x
 fit:qB x
theorem sA {d:Ah} (h:V9 d) {name:ByteArray} (hn:F8 name=true):Ok (G6 d name) (fun y=>ItM y.1/\V9 y.2):=by
 have hns:=Od hn
 unfold G6
 refine Ok.bind (Fh h 2 (by omega) (by omega)) fun y1 h1=>?_
 refine Ok.bind (Fh h1.2 4 (by omega) (by omega)) fun y2 h2=>?_
 refine Ok.bind (Fh h2.2 20 (by omega) (by omega)) fun y3 h3=>?_
 refine Ok.bind (Fh h3.2 3 (by omega) (by omega)) fun y4 h4=>?_
 have b1:=h1.1
 have b2:=h2.1
 have b3:=h3.1
 have b4:=h4.1
 rw [Ex (x:=1 + y4.1) (by omega)]
 refine Ok.loop (fun s:Int×Int×Ah×List Co=>0<=s.2.1/\s.2.1 + (s.2.2.2.length:Int)=1 + y4.1/\V9 s.2.2.1/\(0<=s.1/\s.1<=20 + 101 * (s.2.2.2.length:Int))/\(∀ i,LkV s.2.2.2 i)/\∀ b∈s.2.2.2,b.Day < s.1/\b.Day<=1000) (fun s=>s.2.1.toNat) ?_ ⟨by show 0<=1 + y4.1; omega,by show 1 + y4.1 + ((([]:List Co).length:Nat):Int)=_; simp,h4.2,⟨b3.1,by show y3.1<=20 + 101 * ((([]:List Co).length:Nat):Int); simp; omega⟩,fun i=>⟨fun x y _ hx=>(by cases hx),fun a ha=>(by cases ha)⟩,fun b hb=>(by cases hb)⟩
 rintro⟨day,i,d1,l⟩ ⟨a1,a2,a3,a4,a5,a6⟩
 dsimp only at a1 a2 a3 a4 a5 a6
 show Ok (G6.l1 name y1 y2 day i d1 l) _
 unfold G6.l1
 refine Ok.cond (fun hb=>?_) fun hb=>?_
 ·have hb:=aBs hb
  refine Ok.bind (Fh a3 6 (by omega) (by omega)) fun y5 h5=>?_
  have b5:=h5.1
  refine Ok.bind (Tq (by omega) (by show y5.1 < (6:Int); omega)) fun e he=>?_
  refine Ok.bind (Tb (by rw [aEz]; omega)) fun l' hl'=>?_
  subst hl'
  refine Ok.bind (qT h5.2 _ (by decide) (by decide)) fun y6 h6=>?_
  have b6:0<=y6.1/\y6.1<=100:=by
   have:=h6.1
   simp only [aDv,aFr,aJh] at this
   omega
  have he0:0 < Pw e:=by
   simp only [aDv,aFr,aJh] at he
   rcases he with rfl | rfl | rfl | rfl | rfl | rfl <;> decide +kernel
  rw [Ex (x:=day + 1) (by omega),Ex (x:=day + 1 + y6.1) (by omega),Ex (x:=i - 1) (by omega)]
  refine Ok.ret ⟨⟨by show 0<=i - 1; omega,?_,h6.2,⟨by show 0<=day + 1 + y6.1; omega,?_⟩,LkV.snoc a5 ⟨he0,by show 0<=day; omega,by show day<=40000; omega⟩ fun b hb=>(a6 b hb).1,fun b hb=>?_⟩,by show (i - 1).toNat < i.toNat; omega⟩
  ·show i - 1 + ((l ++ [Co.mk e day]).length:Int)=1 + y4.1
   rw [aEm,aEz]; omega
  ·show day + 1 + y6.1<=20 + 101 * ((l ++ [Co.mk e day]).length:Int)
   rw [aEm,aEz]; omega
  ·show b.Day < day + 1 + y6.1/\_
   rcases aHm.1 hb with hb | hb
   ·have:=a6 b hb
    omega
   ·rw [aEo] at hb
    subst hb
    show day < day + 1 + y6.1/\day<=1000
    omega
 ·have hb:=aDm hb
  have hl1:1<=l.length:=by omega
  obtain⟨a,ha⟩:∃ a,l[0]?=some a:=⟨_,aA9 (by omega)⟩
  refine Ok.up ?_
  rw [aL,ha,aAf]
  refine Ok.bind (qT a3 _ (by decide) (by decide)) fun y7 h7=>?_
  have b7:0<=y7.1/\y7.1<=3000:=by
   have:=h7.1
   simp only [aDv,aFr,aJh] at this
   omega
  have hd:=a6 a (Ff ha)
  have hd0:=((a5 0).2 a ha).2
  rw [Ex (x:=1 + y1.1) (by omega),Ex (x:=1 + y2.1) (by omega),Ex (x:=a.Day + y7.1) (by omega)]
  refine Ok.ret ⟨⟨⟨hn,by show 1 + y1.1=1\/1 + y1.1=2; omega,by show 1<=1 + y2.1/\1 + y2.1<=4; omega,by show 1<=l.length/\l.length<=8; omega,fun i=>(a5 i).1,fun b hb=>?_,fun b hb=>?_,by show a.Day + y7.1<=40000; omega,fun b hb=>?_⟩,⟨by show name.size<=_; omega,by show l.length < _; omega⟩⟩,h7.2⟩
  ·obtain⟨j,hj⟩:=aJe.1 hb
   exact ((a5 j).2 b hj).1
  ·obtain⟨j,hj⟩:=aJe.1 hb
   exact ((a5 j).2 b hj).2
  ·have hb:l[0]?=some b:=hb
   rw [ha] at hb
   cases hb
   show a.Day<=a.Day + y7.1
   omega
def nmE:List ByteArray:=[⟨#[97,112,112]⟩,⟨#[100,98]⟩,⟨#[109,97,105,108]⟩,⟨#[119,101,98]⟩]
theorem uR {n:ByteArray} (h:n∈nmE):F8 n=true/\n.size<=31/\X2 n=true:=by
 unfold nmE at h
 simp only [aDv,aFr,aJh] at h
 rcases h with rfl | rfl | rfl | rfl <;> exact⟨by decide +kernel,by decide,by decide +kernel⟩
theorem wC:∀ i:Fin 4,0 < i.val->L4 (Iv (nmE.getD (i.val - 1) ⟨#[]⟩)) (Iv (nmE.getD i.val ⟨#[]⟩))=true:=by decide +kernel
structure EsM (e:Bb):Prop where
 n:2<=e.Endpoints.length/\e.Endpoints.length<=4
 ep:∀ (i:Nat) x,e.Endpoints[i]?=some x->EpM (nmE.getD i ⟨#[]⟩) x
 edges:e.Edges.length<=16/\∀ i,zL (e.Endpoints.length:Int) e.Edges i
 items:e.Items.length<=2/\∀ x∈e.Items,ItM x
theorem mM {i:Nat} (h:i < 4):nmE.getD i ⟨#[]⟩∈nmE:=by
 rcases i with _ | _ | _ | _ | i
 ·exact .head _
 ·exact .tail _ (.head _)
 ·exact .tail _ (.tail _ (.head _))
 ·exact .tail _ (.tail _ (.tail _ (.head _)))
 ·omega
theorem EsM.fit {e:Bb} (h:EsM e):uD e:=by
 have h1:=h.n
 have h2:=h.edges.1
 have h3:=h.items.1
 refine⟨by unfold Lo; omega,by unfold Lo; omega,by unfold Lo; omega,fun x hx=>?_,fun x hx=>(h.items.2 x hx).fit⟩
 obtain⟨i,hi⟩:=aJe.1 hx
 have:=uR (mM (i:=i) (by have:=Jo hi; omega))
 exact (h.ep i x hi).fit (by omega)
theorem EsM.valid {e:Bb} (h:EsM e):EsV e:=by
 have h1:=h.n
 have h2:=h.edges.1
 have h3:=h.items.1
 refine⟨fun x hx=>?_,fun i x y h0 hx hy=>?_,by omega,fun x hx=>(h.items.2 x hx).ok,by omega,by omega,h.edges.2⟩
 ·obtain⟨i,hi⟩:=aJe.1 hx
  exact (h.ep i x hi).valid (uR (mM (i:=i) (by have:=Jo hi; omega))).2.2
 ·have hi:=Jo hy
  show L4 (Iv x.Name) (Iv y.Name)=true
  rw [(h.ep _ x hx).name,(h.ep _ y hy).name]
  exact wC ⟨i,by omega⟩ h0
end Go.Proofs.YtkoflhimdenjaaaGreat
