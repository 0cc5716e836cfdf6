import Derived.Test.YtkoflhimdenjaaaGreatME
set_option autoImplicit false
set_option linter.unusedVariables false
set_option linter.unusedSimpArgs false
namespace Go.Proofs.YtkoflhimdenjaaaGreat
open Go
def nmL:List ByteArray:=[⟨#[97,112,112]⟩,⟨#[100,98]⟩,⟨#[119,101,98]⟩]
def Sr (i:Nat):ByteArray:=nmL.getD i ⟨#[]⟩
theorem Zg {i:Nat} (h:i < 3):F8 (Sr i)=true/\(Sr i).size<=31/\X2 (Sr i)=true:=by
 rcases i with _ | _ | _ | i
 ·exact⟨by decide +kernel,by decide,by decide +kernel⟩
 ·exact⟨by decide +kernel,by decide,by decide +kernel⟩
 ·exact⟨by decide +kernel,by decide,by decide +kernel⟩
 ·omega
structure LfM (name:ByteArray) (key:Ar) (id:Int) (x:Am):Prop where
 key_:x.Key=key
 id_:x.KeyId=id
 len:x.Chain.length=1
 chain:∀ c∈x.Chain,G2 c=true/\S3 c
 head:Vn key id x.Chain=true
theorem aE6:F8 ⟨#[114,111,111,116]⟩=true:=by decide +kernel
theorem aF5:Q7 (Ar.mk 3 0) 1=true:=by decide +kernel
theorem va1:∀ i,VA (fun x y:Int=>x < y) [1] i:=mT (by decide)
theorem aHr:∀ i,VA (fun x y:Int=>x < y) [2,3] i:=mT (by decide)
theorem jK {name:ByteArray} {key:Ar} {id a to:Int} (hn:F8 name=true) (hk:uE key) (hid:0<=id/\id<=1000000) (ha:0<=a/\a<=2147483648) (hto:0<=to/\to<=40000):Ok (Kn name key id a to) (LfM name key id):=by
 have hns:=Od hn
 generalize hc:Ae.mk id (⟨#[114,111,111,116]⟩:ByteArray) name key id (Ar.mk 3 0) 0 to false 0 ([name]:List ByteArray) (Er.mk 0 0)=c
 have hf:S3 c:=by
  subst hc
  exact sL (by show (1:Nat) < 1000000000; omega) (fun s hs=>by rw [aEo.1 hs]; omega) (by show (4:Nat)<=_; omega) (by show name.size<=_; omega) (show Sg id by unfold Sg; omega) hk.1.1.i64 hk.1.2.i64 (show Sg id by unfold Sg; omega) (show Sg 3 by unfold Sg; omega) aS aS (show Sg to by unfold Sg; omega) aS aS aS
 have hv:G2 c=true:=by
  subst hc
  rw [dM]
  exact⟨⟨hid.1,by dsimp only; omega⟩,aE6,hn,uN hn,by show (1:Int)<=8; omega,hk.2,⟨hid.1,by dsimp only; omega⟩,aF5,aHx,aIq,⟨by show (0:Int)<=0; omega,hto.1,hto.2⟩,⟨by show (0:Int)<=0; omega,by show (0:Int)<=8; omega⟩,.inr rfl⟩
 have hu:bJ c=c:=by subst hc; rfl
 have hr:=lI (P7 c).1
 have hsg:nK c a=(aG c ⟨a,fK (P7 c).1⟩,0):=by
  unfold nK
  rw [hu,hv,aAv ha.1,aAv ha.2]; rfl
 unfold Kn
 rw [hc]
 refine Ok.bindE (tD _ hf a) ?_
 rw [hsg]
 refine Ok.ret ⟨rfl,rfl,rfl,fun x hx=>?_,?_⟩
 ·rw [aEo.1 hx]
  exact⟨fZ (by rw [hu]; exact hv) ha hr,Zl hf (show Sg a by unfold Sg; omega) (qO _)⟩
 ·subst hc
  show (decide (key=key) && decide (id=id))=true
  rw [aAv rfl,aAv rfl]; rfl
theorem yQ:uE (Ar.mk 5 2048):=⟨⟨yH (by decide),yH (by decide)⟩,by decide +kernel⟩
theorem ecU:uE (Ar.mk 7 256):=⟨⟨yH (by decide),yH (by decide)⟩,by decide +kernel⟩
theorem wE {i:Nat} (h:i < 3):Ok (Kn (Sr i) (Ar.mk 5 2048) (W (100 + (i:Int))) 1 901) (LfM (Sr i) (Ar.mk 5 2048) (100 + (i:Int))):=by
 rw [Ex (by omega)]
 exact jK (Zg h).1 yQ (by omega) (by omega) (by omega)
def Xg:List (Int×List Int):=[(3,[10,8,2]),(3,[8,2]),(3,[2,10,8,3]),(4,[14,10,8,2]),(4,[14,8,2]),(4,[14,2,10,8,3])]
def M3 (i:Nat) (e:Af):Prop:=∃ c∈Xg,∃ own fall x,LfM (Sr i) (Ar.mk 5 2048) (100 + (i:Int)) x/\e=Af.mk (Sr i) 1 c.1 c.2 own [x] [1] [2,3] fall
theorem M4 {c:Int×List Int} (h:c∈Xg):(3<=c.1/\c.1<=4)/\c.2.length<=5/\c.2≠[]/\(c.2.Nodup/\∀ x∈c.2,vK x):=by
 unfold Xg at h
 simp only [aDv,aFr,aJh] at h
 rcases h with rfl | rfl | rfl | rfl | rfl | rfl <;> exact⟨by decide,by decide,by decide,by decide,by unfold vK; decide⟩
theorem fM {i:Nat} {e:Af} (hi:i < 3) (h:M3 i e):Ze e:=by
 obtain⟨c,hc,own,fall,x,hx,rfl⟩:=h
 obtain⟨h1,h2,h3,h4⟩:=M4 hc
 have hn:=(Zg hi).2.1
 refine⟨by show (Sr i).size<=_; omega,by show c.2.length < _; omega,by show (1:Nat) < _; omega,by show (1:Nat) < _; omega,by show (2:Nat) < _; omega,fun y hy d hd=>?_⟩
 rw [aEo.1 hy] at hd
 exact (hx.chain d hd).2.w
theorem Z4 {i:Nat} {e:Af} (hi:i < 3) (h:M3 i e):nO e:=by
 obtain⟨c,hc,own,fall,x,hx,rfl⟩:=h
 obtain⟨h1,h2,h3,h4,h5⟩:=M4 hc
 refine⟨(Zg hi).2.2,by show (1:Int)<=1; omega,by show (1:Int)<=c.1; omega,by show c.1<=4; omega,nY h4 h5,by show (1:Nat)<=4; omega,by show (1:Nat)<=16; omega,va1,aHr,fun y hy=>?_,fun n hn=>?_,fun n hn=>?_⟩
 ·rw [aEo.1 hy,hx.key_,hx.id_]
  exact gX yQ.2 (by omega) (by rw [hx.len]; omega) (fun c hc=>(hx.chain c hc).1) hx.head
 ·rw [aEo.1 hn]; omega
 ·simp only [aDv,aFr,aJh] at hn
  rcases hn with rfl | rfl <;> decide +kernel
theorem Tu {i:Nat} {e:Af} (h:M3 i e):e.Name=Sr i:=by
 obtain⟨c,hc,own,fall,x,hx,rfl⟩:=h
 rfl
theorem pX {i:Nat} (h:i + 1 < 3):L4 (Iv (Sr i)) (Iv (Sr (i + 1)))=true:=by
 rcases i with _ | _ | i
 ·decide +kernel
 ·decide +kernel
 ·omega
structure P4 (n:Nat) (l:List Bq):Prop where
 len:l.length<=3
 rng:∀ e∈l,(0<=e.Client/\e.Client < (n:Int))/\(0<=e.Server/\e.Server < (n:Int))/\e.Client≠e.Server
 asc:∀ (j:Nat) x y,l[j]?=some x->l[j + 1]?=some y->x.Client < y.Client\/(x.Client=y.Client/\x.Server < y.Server)
def bD (i k:Int) (l:List Bq):Prop:=∀ e∈l,e.Client < i\/(e.Client=i/\e.Server < k)
theorem P4.v {n:Nat} {l:List Bq} (h:P4 n l) (i:Nat):zL (n:Int) l i:=by
 refine⟨fun x y h0 hx hy=>?_,fun x hx=>h.rng x (Ff hx)⟩
 obtain⟨j,rfl⟩:∃ j,i=j + 1:=⟨i - 1,by omega⟩
 exact h.asc j x y hx hy
structure Rl (s:Bb):Prop where
 n2:2<=s.Endpoints.length/\s.Endpoints.length<=3
 eps:∀ (j:Nat) e,s.Endpoints[j]?=some e->M3 j e
 edges:P4 s.Endpoints.length s.Edges
 items:s.Items.length<=2/\∀ x∈s.Items,ItM x
theorem Rl.fit {s:Bb} (h:Rl s):uD s:=by
 have h1:=h.n2
 have h2:=h.edges.len
 have h3:=h.items.1
 refine⟨by unfold Lo; omega,by unfold Lo; omega,by unfold Lo; omega,fun x hx=>?_,fun x hx=>(h.items.2 x hx).fit⟩
 obtain⟨i,hi⟩:=aJe.1 hx
 exact fM (by have:=Jo hi; omega) (h.eps i x hi)
theorem Rl.valid {s:Bb} (h:Rl s):EsV s:=by
 have h1:=h.n2
 have h2:=h.edges.len
 have h3:=h.items.1
 refine⟨fun x hx=>?_,fun i x y h0 hx hy=>?_,by omega,fun x hx=>(h.items.2 x hx).ok,by omega,by omega,h.edges.v⟩
 ·obtain⟨i,hi⟩:=aJe.1 hx
  exact Z4 (by have:=Jo hi; omega) (h.eps i x hi)
 ·have hi:=Jo hy
  obtain⟨j,rfl⟩:∃ j,i=j + 1:=⟨i - 1,by omega⟩
  show L4 (Iv x.Name) (Iv y.Name)=true
  rw [Tu (h.eps _ x hx),Tu (h.eps _ y hy)]
  exact pX (by omega)
theorem bR {s:Bb} (h:Rl s):Bd s=some 0:=Dc.zero (aO h.fit) h.valid
theorem rY {n:Nat} {l:List Bq} {i k:Int} (h:P4 n l) (ha:bD i k l) (h3:l.length < 3) (hi:0<=i/\i < (n:Int)) (hk:0<=k/\k < (n:Int)) (hne:i≠k):P4 n (l ++ [Bq.mk i k])/\bD i (k + 1) (l ++ [Bq.mk i k]):=by
 refine⟨⟨by rw [aEm,aEz]; omega,fun e he=>?_,fun j x y hx hy=>?_⟩,fun e he=>?_⟩
 ·rcases aHm.1 he with he | he
  ·exact h.rng e he
  ·rw [aEo.1 he]; exact⟨hi,hk,hne⟩
 ·have hj:=Jo hy
  rw [aEm,aEz] at hj
  rw [aHo (by omega)] at hx
  by_cases hj2:j + 1 < l.length
  ·rw [aHo hj2] at hy
   exact h.asc j x y hx hy
  ·rw [aIy (by omega),show j + 1 - l.length=0 by omega] at hy
   injection hy with hy
   subst hy
   exact ha x (Ff hx)
 ·rcases aHm.1 he with he | he
  ·rcases ha e he with h1 | ⟨h1,h2⟩
   ·exact .inl h1
   ·exact .inr ⟨h1,by omega⟩
  ·rw [aEo.1 he]
   exact .inr ⟨rfl,by show k < k + 1; omega⟩
theorem kK {l:List Bq} {i k:Int} (h:bD i k l):bD i (k + 1) l:=fun e he=>by
 rcases h e he with h1 | ⟨h1,h2⟩
 ·exact .inl h1
 ·exact .inr ⟨h1,by omega⟩
theorem oM {l:List Bq} {i k:Int} (h:bD i k l):bD (i + 1) 0 l:=fun e he=>by
 rcases h e he with h1 | ⟨h1,h2⟩
 ·exact .inl (by omega)
 ·exact .inl (by omega)
theorem tL {y:Int×Ah} {n:Nat} (hn:2 + y.1=(n:Int)) (h:n<=3):((((W (2 + y.1):Int).toNat - (0:Int).toNat):Nat):Int)=(n:Int):=by
 rw [hn,Ex (by omega),aId]
 show ((n - 0:Nat):Int)=_
 rw [Nat.sub_zero]
def EQ (n:Nat) (i k:Int) (d:Ah) (l:List Bq):Prop:=V9 d/\P4 n l/\bD i k l
theorem qY {y:Int×Ah} {n:Nat} (hn:2 + y.1=(n:Int)) (h3:n<=3) {i:Int} (hi:0<=i/\i < (n:Int)) {d:Ah} {l:List Bq} (h:EQ n i 0 d l) :
  Ok (Cp (fun q'=>Bh.l7 y i q'.1 q'.2.1 q'.2.2) (0,d,l)) (fun o=>∃ d' l',o=.next (i + 1,d',l')/\EQ n (i + 1) 0 d' l'):=by
 refine Ok.loop (fun s:Int×Ah×List Bq=>(0<=s.1/\s.1<=(n:Int))/\EQ n i s.1 s.2.1 s.2.2) (fun s=>((n:Int) - s.1).toNat) (fun s hs=>?_) ⟨⟨aK0 _,by show (0:Int)<=(n:Int); omega⟩,h⟩
 obtain⟨k,d1,l1⟩:=s
 obtain⟨hk,hd,he,ha⟩:=hs
 dsimp only at hk hd he ha
 have hl3:=he.len
 show Ok (Bh.l7 y i k d1 l1) _
 unfold Bh.l7
 rw [tL hn h3]
 refine Ok.cond (fun hb=>?_) fun hb=>?_
 ·have hb:=aBs hb
  have hw:W (k + 1)=k + 1:=Ex (by omega)
  have J8:∀ (d':Ah) (b:Bool),V9 d'->(b=true->l1.length < 3/\i≠k)->Ok (Bh.j8 i k l1 b d') (pY (fun s:Int×Ah×List Bq=>((0<=s.1/\s.1<=(n:Int))/\EQ n i s.1 s.2.1 s.2.2)/\((n:Int) - s.1).toNat < ((n:Int) - k).toNat) (fun o=>∃ d' l',o=.next (i + 1,d',l')/\EQ n (i + 1) 0 d' l')):=fun d' b hd' hb'=>by
   unfold Bh.j8 Bh.j9
   rw [hw]
   refine Ok.cond (fun hbt=>?_) fun _=>?_
   ·obtain⟨c1,c2⟩:=hb' hbt
    refine Ok.bind (Tb (by rw [aEz]; omega)) fun l' hl'=>?_
    subst hl'
    obtain⟨e1,e2⟩:=rY he ha c1 hi ⟨hk.1,hb⟩ c2
    exact Ok.ret ⟨⟨⟨by show 0<=k + 1; omega,by show k + 1<=(n:Int); omega⟩,hd',e1,e2⟩,by show ((n:Int) - (k + 1)).toNat < ((n:Int) - k).toNat; omega⟩
   ·exact Ok.ret ⟨⟨⟨by show 0<=k + 1; omega,by show k + 1<=(n:Int); omega⟩,hd',he,kK ha⟩,by show ((n:Int) - (k + 1)).toNat < ((n:Int) - k).toNat; omega⟩
  clear hw
  refine Ok.cond (fun hne=>?_) fun _=>J8 d1 false hd (fun h=>by cases h)
  have hne':i≠k:=fun e=>by rw [aAv e] at hne; cases hne
  refine Ok.bind (Fh hd 3 (by omega) (by omega)) fun y8 h8=>?_
  refine Ok.cond (fun _=>J8 y8.2 _ h8.2 fun h=>⟨by have:=aBs h; omega,hne'⟩) fun _=>J8 y8.2 false h8.2 (fun h=>by cases h)
 ·refine Ok.up ?_
  rw [Ex (by omega)]
  exact Ok.ret ⟨d1,l1,rfl,hd,he,oM ha⟩
def fE (s:Bb):Prop:=Rl s/\s.Edges≠[]
theorem cG {E:List Af} {L:List Bq} {n:Nat} (h2:2<=n/\n<=3) (hE:E.length=n) (hep:∀ (j:Nat) e,E[j]?=some e->M3 j e) (hL:P4 n L) (hne:L≠[]) {d:Ah} (hd:V9 d):Ok (Bh.j10 E d L) (fun y=>fE y.1/\V9 y.2):=by
 unfold Bh.j10
 refine Ok.bind (Fh hd 3 (by omega) (by omega)) fun y9 h9=>?_
 have b9:=h9.1
 refine Ok.loop (fun s:Int×Ah×List Cf=>(0<=s.1/\s.1 + (s.2.2.length:Int)<=2)/\V9 s.2.1/\∀ x∈s.2.2,ItM x) (fun s=>s.1.toNat) (fun s hs=>?_) ⟨⟨b9.1,by show y9.1 + ((([]:List Cf).length:Nat):Int)<=2; simp; omega⟩,h9.2,fun x hx=>(by cases hx)⟩
 obtain⟨i,d1,l⟩:=s
 obtain⟨⟨a1,a2⟩,a3,a4⟩:=hs
 dsimp only at a1 a2 a3 a4
 show Ok (Bh.l11 E L i d1 l) _
 unfold Bh.l11
 refine Ok.cond (fun hb=>?_) fun hb=>?_
 ·have hb:=aBs hb
  refine Ok.bind (zG a3 _ (by decide) (by decide)) fun y10 h10=>?_
  have hnm:F8 y10.1=true:=by
   have:=h10.1
   simp only [aDv,aFr,aJh] at this
   rcases this with h | h <;> rw [h] <;> decide +kernel
  refine Ok.bind (sA h10.2 hnm) fun y11 h11=>?_
  refine Ok.bind (Tb (by rw [aEz]; omega)) fun l' hl'=>?_
  subst hl'
  rw [Ex (by omega)]
  refine Ok.ret ⟨⟨⟨by show 0<=i - 1; omega,?_⟩,h11.2,fun x hx=>?_⟩,by show (i - 1).toNat < i.toNat; omega⟩
  ·show i - 1 + ((l ++ [y11.1]).length:Int)<=2
   rw [aEm,aEz]; omega
  ·rcases aHm.1 hx with hx | hx
   ·exact a4 x hx
   ·rw [aEo.1 hx]; exact h11.1
 ·exact Ok.up (Ok.ret ⟨⟨⟨by show 2<=E.length/\E.length<=3; omega,hep,by show P4 E.length L; rw [hE]; exact hL,by show l.length<=2; omega,a4⟩,hne⟩,a3⟩)
theorem rW {y:Int×Ah} {n:Nat} (hn:2 + y.1=(n:Int)) (h2:2<=n/\n<=3) {E:List Af} (hE:E.length=n) (hep:∀ (j:Nat) e,E[j]?=some e->M3 j e) {d:Ah} (hd:V9 d) :
  Ok (Cp (fun q'=>Bh.l6 y E q'.1 q'.2.1 q'.2.2) (0,d,([]:List Bq))) (fun y=>fE y.1/\V9 y.2):=by
 refine Ok.loop (fun s:Int×Ah×List Bq=>(0<=s.1/\s.1<=(n:Int))/\EQ n s.1 0 s.2.1 s.2.2) (fun s=>((n:Int) - s.1).toNat) (fun s hs=>?_) ⟨⟨aK0 _,by show (0:Int)<=(n:Int); omega⟩,hd,⟨aI3 _,fun x hx=>(by cases hx),fun j x y hx=>(by cases hx)⟩,fun x hx=>(by cases hx)⟩
 obtain⟨i,d1,l1⟩:=s
 obtain⟨hk,hq⟩:=hs
 dsimp only at hk hq
 show Ok (Bh.l6 y E i d1 l1) _
 unfold Bh.l6
 rw [tL hn h2.2]
 refine Ok.cond (fun hb=>?_) fun hb=>?_
 ·have hb:=aBs hb
  refine (qY hn h2.2 ⟨hk.1,hb⟩ hq).mono fun o ho=>?_
  obtain⟨d',l',rfl,ho⟩:=ho
  exact⟨⟨⟨by show 0<=i + 1; omega,by show i + 1<=(n:Int); omega⟩,ho⟩,by show ((n:Int) - (i + 1)).toNat < ((n:Int) - i).toNat; omega⟩
 ·refine Ok.up (Ok.cond (fun _=>?_) fun hl0=>cG h2 hE hep hq.2.1 (fun e0=>by rw [e0] at hl0; exact absurd rfl (aDm hl0)) hq.1)
  refine cG h2 hE hep ⟨by decide,fun e he=>?_,fun j x y hx hy=>?_⟩ (by simp) hq.1
  ·rw [aEo.1 he]
   exact⟨⟨by show (0:Int)<=0; omega,by show (0:Int) < (n:Int); omega⟩,⟨by show (0:Int)<=1; omega,by show (1:Int) < (n:Int); omega⟩,by show (0:Int)≠1; omega⟩
  ·have:=Jo hy
   rw [aEz] at this
   omega
theorem pL {d:Ah} (h:V9 d):Ok (Bh d) (fun y=>fE y.1/\V9 y.2):=by
 unfold Bh
 refine Ok.bind (Fh h 2 (by omega) (by omega)) fun y hy=>?_
 have by1:=hy.1
 obtain⟨n,hn⟩:∃ n:Nat,2 + y.1=(n:Int):=⟨(2 + y.1).toNat,by omega⟩
 have h2:2<=n/\n<=3:=by omega
 have hw:W (2 + y.1)=(n:Int):=by rw [hn,Ex (by omega)]
 refine Ok.bind (eW ⟨by omega,by rw [hw]; omega,by rw [hw]; show (n:Int)<=3; omega⟩) fun l hl=>?_
 clear hl
 refine Ok.loop (fun s:Int×Ah×List Af=>(0<=s.1/\s.1<=(n:Int))/\V9 s.2.1/\(s.2.2.length:Int)=s.1/\∀ (j:Nat) e,s.2.2[j]?=some e->M3 j e) (fun s=>((n:Int) - s.1).toNat) (fun s hs=>?_) ⟨⟨aK0 _,by show (0:Int)<=(n:Int); omega⟩,hy.2,rfl,fun j e he=>(by cases he)⟩
 obtain⟨i,d1,E⟩:=s
 obtain⟨hk,hd,hlen,hep⟩:=hs
 dsimp only at hk hd hlen hep
 show Ok (Bh.l1 y i d1 E) _
 unfold Bh.l1
 rw [tL hn h2.2]
 refine Ok.cond (fun hb=>?_) fun hb=>?_
 ·have hb:=aBs hb
  have hnm:B5 ((([(⟨#[97,112,112]⟩:ByteArray),(⟨#[100,98]⟩:ByteArray),(⟨#[119,101,98]⟩:ByteArray)]:List ByteArray).drop ((0:Int).toNat)).take ((W (2 + y.1):Int).toNat - (0:Int).toNat)) i=some (Sr E.length):=by
   rw [hw,aId,<- hlen,Hx]
   show ((nmL.drop 0).take (n - 0))[E.length]?=_
   rw [aLa,Nat.sub_zero,aH4,if_pos (by omega)]
   unfold Sr
   rw [aKt,aA9 (show E.length < nmL.length by show E.length < 3; omega)]
   rfl
  refine Ok.bindE hnm ?_
  refine Ok.bind (qT hd _ (by decide) (by decide)) fun y2 k2=>?_
  refine Ok.bind (Fh k2.2 3 (by omega) (by omega)) fun y3 k3=>?_
  have b3:=k3.1
  refine Ok.bind (Tq (by omega) (by show y3.1 < (3:Int); omega)) fun S hS=>?_
  refine Ok.bind (fF k3.2 2 (by omega) (by omega)) fun y4 k4=>?_
  refine Ok.bind (fF k4 3 (by omega) (by omega)) fun y5 k5=>?_
  have hm:y2.1=3\/y2.1=4:=by
   have:=k2.1
   simp only [aDv,aFr,aJh] at this
   omega
  simp only [aDv,aFr,aJh] at hS
  have J:∀ x,(y2.1,x)∈Xg->Ok (Bh.j2 i E (Sr E.length) y2 y4 y5 x) (pY (fun s:Int×Ah×List Af=>((0<=s.1/\s.1<=(n:Int))/\V9 s.2.1/\(s.2.2.length:Int)=s.1/\∀ (j:Nat) e,s.2.2[j]?=some e->M3 j e)/\((n:Int) - s.1).toNat < ((n:Int) - i).toNat) (fun y=>fE y.1/\V9 y.2)):=fun x hx=>by
   unfold Bh.j2 Ol
   rw [aAf,<- hlen]
   refine Ok.bind (wE (i:=E.length) (by omega)) fun lf hlf=>?_
   refine Ok.bind (Tb (by rw [aEz]; omega)) fun l' hl'=>?_
   subst hl'
   rw [Ex (by omega)]
   refine Ok.ret ⟨⟨⟨by show 0<=(E.length:Int) + 1; omega,by show (E.length:Int) + 1<=(n:Int); omega⟩,k5,?_,fun j e he=>?_⟩,by show ((n:Int) - ((E.length:Int) + 1)).toNat < ((n:Int) - (E.length:Int)).toNat; omega⟩
   ·show ((E ++ [_]).length:Int)=(E.length:Int) + 1
    rw [aEm,aEz]; omega
   ·have he:(E ++ [_])[j]?=some e:=he
    rw [aLd] at he
    split at he
    ·exact hep j e he
    ·have hj0:j - E.length=0:=by
      have:=Jo he
      rw [aEz] at this
      omega
     rw [hj0] at he
     injection he with he
     subst he
     rw [show j=E.length by omega]
     exact⟨(y2.1,x),hx,_,_,lf,hlf,rfl⟩
  rcases hm with hm | hm
  ·rw [hm,aAy (by omega),aDk]
   refine J S ?_
   rw [hm]
   unfold Xg
   rcases hS with rfl | rfl | rfl <;> simp
  ·rw [hm,aAv rfl,aEn]
   refine Ok.bind (Tb (by rcases hS with rfl | rfl | rfl <;> decide)) fun l' hl'=>?_
   subst hl'
   refine J _ ?_
   rw [hm]
   unfold Xg
   rcases hS with rfl | rfl | rfl <;> simp
 ·have hb:=aDm hb
  exact Ok.up (rW hn h2 (by omega) hep hd)
theorem rH {d:Ah} (h:V9 d):Ok (Bh d) (fun y=>Rl y.1/\V9 y.2):=(pL h).mono fun _ h=>⟨h.1.1,h.2⟩
end Go.Proofs.YtkoflhimdenjaaaGreat
