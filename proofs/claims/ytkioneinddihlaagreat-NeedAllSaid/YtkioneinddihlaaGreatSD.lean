import Derived.Test.YtkioneinddihlaaGreatME
set_option autoImplicit false
set_option linter.unusedVariables false
set_option linter.unusedSimpArgs false
namespace Go.Proofs.YtkioneinddihlaaGreat
open Go
def nmL:List ByteArray:=[⟨#[97,112,112]⟩,⟨#[100,98]⟩,⟨#[119,101,98]⟩]
def mM (i:Nat):ByteArray:=nmL.getD i ⟨#[]⟩
theorem Y8 {i:Nat} (h:i < 3):Fm (mM i)=true/\(mM i).size<=31/\Zl (mM i)=true:=by
 rcases i with _ | _ | _ | i
 ·exact⟨by decide +kernel,by decide,by decide +kernel⟩
 ·exact⟨by decide +kernel,by decide,by decide +kernel⟩
 ·exact⟨by decide +kernel,by decide,by decide +kernel⟩
 ·omega
structure LfM (name:ByteArray) (key:Av) (id:Int) (x:A4):Prop where
 key_:x.Key=key
 id_:x.KeyId=id
 len:x.Chain.length=1
 chain:∀ c∈x.Chain,Ge c=true/\Px c
 head:U3 key id x.Chain=true
theorem aFl:Fm ⟨#[114,111,111,116]⟩=true:=by decide +kernel
theorem aE6:M7 (Av.mk 3 0) 1=true:=by decide +kernel
theorem Uv {name:ByteArray} {key:Av} {id a to:Int} (hn:Fm name=true) (hk:Xp key) (hid:0<=id/\id<=1000000) (ha:0<=a/\a<=2147483648) (hto:0<=to/\to<=40000):Ok (Hr name key id a to) (LfM name key id):=by
 have hns:=L7 hn
 generalize hc:Ah.mk id (⟨#[114,111,111,116]⟩:ByteArray) name key id (Av.mk 3 0) 0 to false 0 ([name]:List ByteArray) (Eb.mk 0 0)=c
 have hf:Px c:=by
  subst hc
  exact kF (by show (1:Nat) < 1000000000; omega) (fun s hs=>by rw [aEp.1 hs]; omega) (by show (4:Nat)<=_; omega) (by show name.size<=_; omega) (show Og id by unfold Og; omega) hk.1.1.i64 hk.1.2.i64 (show Og id by unfold Og; omega) (show Og 3 by unfold Og; omega) S9 S9 (show Og to by unfold Og; omega) S9 S9 S9
 have hv:Ge c=true:=by
  subst hc
  rw [Vo]
  exact⟨⟨hid.1,by dsimp only; omega⟩,aFl,hn,jI hn,by show (1:Int)<=8; omega,hk.2,⟨hid.1,by dsimp only; omega⟩,aE6,aG9,aFv,⟨by show (0:Int)<=0; omega,hto.1,hto.2⟩,⟨by show (0:Int)<=0; omega,by show (0:Int)<=8; omega⟩,.inr rfl⟩
 have hu:V1 c=c:=by subst hc; rfl
 have hr:=Yl (Mc c).1
 have hsg:cD c a=(Wl c ⟨a,Zm (Mc c).1⟩,0):=by
  unfold cD
  rw [hu,hv,aAg ha.1,aAg ha.2]; rfl
 unfold Hr
 rw [hc]
 refine Ok.bindE (jG _ hf a) ?_
 rw [hsg]
 refine Ok.ret ⟨rfl,rfl,rfl,fun x hx=>?_,?_⟩
 ·rw [aEp.1 hx]
  exact⟨T1 (by rw [hu]; exact hv) ha hr,Ts hf (show Og a by unfold Og; omega) (iE _)⟩
 ·subst hc
  show (decide (key=key) && decide (id=id))=true
  rw [aAg rfl,aAg rfl]; rfl
theorem aAx:Xp (Av.mk 5 2048):=⟨⟨nO (by decide),nO (by decide)⟩,by decide +kernel⟩
theorem ecU:Xp (Av.mk 7 256):=⟨⟨nO (by decide),nO (by decide)⟩,by decide +kernel⟩
theorem yG {i:Nat} (h:i < 3):Ok (Hr (mM i) (Av.mk 5 2048) (W (100 + (i:Int))) 1 901) (LfM (mM i) (Av.mk 5 2048) (100 + (i:Int))):=by
 rw [Db (by omega)]
 exact Uv (Y8 h).1 aAx (by omega) (by omega) (by omega)
def We:List (Int×List Int):=[(3,[10,8,2]),(3,[8,2]),(3,[2,10,8,3]),(4,[14,10,8,2]),(4,[14,8,2]),(4,[14,2,10,8,3])]
def aW (i:Nat) (e:Al):Prop:=∃ c∈We,∃ own fall x,LfM (mM i) (Av.mk 5 2048) (100 + (i:Int)) x/\e=Al.mk (mM i) 1 c.1 c.2 own [x] [1] [2,3] fall
theorem Zf {c:Int×List Int} (h:c∈We):(3<=c.1/\c.1<=4)/\c.2.length<=5/\c.2≠[]/\(c.2.Nodup/\∀ x∈c.2,yN x):=by
 unfold We at h
 simp only [aE7,aHp,aLl] at h
 rcases h with rfl | rfl | rfl | rfl | rfl | rfl <;> exact⟨by decide,by decide,by decide,by decide,by unfold yN; decide⟩
theorem aCf {i:Nat} {e:Al} (hi:i < 3) (h:aW i e):iL e:=by
 obtain⟨c,hc,own,fall,x,hx,rfl⟩:=h
 obtain⟨h1,h2,h3,h4⟩:=Zf hc
 have hn:=(Y8 hi).2.1
 refine⟨by show (mM i).size<=_; omega,by show c.2.length < _; omega,by show (1:Nat) < _; omega,by show (1:Nat) < _; omega,by show (2:Nat) < _; omega,fun y hy d hd=>?_⟩
 rw [aEp.1 hy] at hd
 exact (hx.chain d hd).2.w
theorem lO {i:Nat} {e:Al} (h:aW i e):e.Name=mM i:=by
 obtain⟨c,hc,own,fall,x,hx,rfl⟩:=h
 rfl
structure Ol (n:Nat) (l:List Aw):Prop where
 len:l.length<=3
 rng:∀ e∈l,(0<=e.Client/\e.Client < (n:Int))/\(0<=e.Server/\e.Server < (n:Int))/\e.Client≠e.Server
 asc:∀ (j:Nat) x y,l[j]?=some x->l[j + 1]?=some y->x.Client < y.Client\/(x.Client=y.Client/\x.Server < y.Server)
def Zg (i k:Int) (l:List Aw):Prop:=∀ e∈l,e.Client < i\/(e.Client=i/\e.Server < k)
theorem Ol.v {n:Nat} {l:List Aw} (h:Ol n l) (i:Nat):cC (n:Int) l i:=by
 refine⟨fun x y h0 hx hy=>?_,fun x hx=>h.rng x (Eg hx)⟩
 obtain⟨j,rfl⟩:∃ j,i=j + 1:=⟨i - 1,by omega⟩
 exact h.asc j x y hx hy
structure Z5 (s:An):Prop where
 n2:2<=s.Endpoints.length/\s.Endpoints.length<=3
 eps:∀ (j:Nat) e,s.Endpoints[j]?=some e->aW j e
 edges:Ol s.Endpoints.length s.Edges
 items:s.Items.length<=2/\∀ x∈s.Items,ItM x
theorem Z5.fit {s:An} (h:Z5 s):Wu s:=by
 have h1:=h.n2
 have h2:=h.edges.len
 have h3:=h.items.1
 refine⟨by unfold Lo; omega,by unfold Lo; omega,by unfold Lo; omega,fun x hx=>?_,fun x hx=>(h.items.2 x hx).fit⟩
 obtain⟨i,hi⟩:=aOn.1 hx
 exact aCf (by have:=I9 hi; omega) (h.eps i x hi)
theorem rI {n:Nat} {l:List Aw} {i k:Int} (h:Ol n l) (ha:Zg i k l) (h3:l.length < 3) (hi:0<=i/\i < (n:Int)) (hk:0<=k/\k < (n:Int)) (hne:i≠k):Ol n (l ++ [Aw.mk i k])/\Zg i (k + 1) (l ++ [Aw.mk i k]):=by
 refine⟨⟨by rw [aEq,aF2]; omega,fun e he=>?_,fun j x y hx hy=>?_⟩,fun e he=>?_⟩
 ·rcases aH5.1 he with he | he
  ·exact h.rng e he
  ·rw [aEp.1 he]; exact⟨hi,hk,hne⟩
 ·have hj:=I9 hy
  rw [aEq,aF2] at hj
  rw [aFm (by omega)] at hx
  by_cases hj2:j + 1 < l.length
  ·rw [aFm hj2] at hy
   exact h.asc j x y hx hy
  ·rw [aF4 (by omega),show j + 1 - l.length=0 by omega] at hy
   injection hy with hy
   subst hy
   exact ha x (Eg hx)
 ·rcases aH5.1 he with he | he
  ·rcases ha e he with h1 | ⟨h1,h2⟩
   ·exact .inl h1
   ·exact .inr ⟨h1,by omega⟩
  ·rw [aEp.1 he]
   exact .inr ⟨rfl,by show k < k + 1; omega⟩
theorem kC {l:List Aw} {i k:Int} (h:Zg i k l):Zg i (k + 1) l:=fun e he=>by
 rcases h e he with h1 | ⟨h1,h2⟩
 ·exact .inl h1
 ·exact .inr ⟨h1,by omega⟩
theorem pK {l:List Aw} {i k:Int} (h:Zg i k l):Zg (i + 1) 0 l:=fun e he=>by
 rcases h e he with h1 | ⟨h1,h2⟩
 ·exact .inl (by omega)
 ·exact .inl (by omega)
theorem rD {y:Int×Ab} {n:Nat} (hn:2 + y.1=(n:Int)) (h:n<=3):((((W (2 + y.1):Int).toNat - (0:Int).toNat):Nat):Int)=(n:Int):=by
 rw [hn,Db (by omega),aIm]
 show ((n - 0:Nat):Int)=_
 rw [Nat.sub_zero]
def EQ (n:Nat) (i k:Int) (d:Ab) (l:List Aw):Prop:=Hj d/\Ol n l/\Zg i k l
theorem qY {y:Int×Ab} {n:Nat} (hn:2 + y.1=(n:Int)) (h3:n<=3) {i:Int} (hi:0<=i/\i < (n:Int)) {d:Ab} {l:List Aw} (h:EQ n i 0 d l) :
  Ok (B1 (fun q'=>Bk.l7 y i q'.1 q'.2.1 q'.2.2) (0,d,l)) (fun o=>∃ d' l',o=.next (i + 1,d',l')/\EQ n (i + 1) 0 d' l'):=by
 refine Ok.loop (fun s:Int×Ab×List Aw=>(0<=s.1/\s.1<=(n:Int))/\EQ n i s.1 s.2.1 s.2.2) (fun s=>((n:Int) - s.1).toNat) (fun s hs=>?_) ⟨⟨aO5 _,by show (0:Int)<=(n:Int); omega⟩,h⟩
 obtain⟨k,d1,l1⟩:=s
 obtain⟨hk,hd,he,ha⟩:=hs
 dsimp only at hk hd he ha
 have hl3:=he.len
 show Ok (Bk.l7 y i k d1 l1) _
 unfold Bk.l7
 rw [rD hn h3]
 refine Ok.cond (fun hb=>?_) fun hb=>?_
 ·have hb:=aCe hb
  have hw:W (k + 1)=k + 1:=Db (by omega)
  have J8:∀ (d':Ab) (b:Bool),Hj d'->(b=true->l1.length < 3/\i≠k)->Ok (Bk.j8 i k l1 b d') (S6 (fun s:Int×Ab×List Aw=>((0<=s.1/\s.1<=(n:Int))/\EQ n i s.1 s.2.1 s.2.2)/\((n:Int) - s.1).toNat < ((n:Int) - k).toNat) (fun o=>∃ d' l',o=.next (i + 1,d',l')/\EQ n (i + 1) 0 d' l')):=fun d' b hd' hb'=>by
   unfold Bk.j8 Bk.j9
   rw [hw]
   refine Ok.cond (fun hbt=>?_) fun _=>?_
   ·obtain⟨c1,c2⟩:=hb' hbt
    refine Ok.bind (E6 (by rw [aF2]; omega)) fun l' hl'=>?_
    subst hl'
    obtain⟨e1,e2⟩:=rI he ha c1 hi ⟨hk.1,hb⟩ c2
    exact Ok.ret ⟨⟨⟨by show 0<=k + 1; omega,by show k + 1<=(n:Int); omega⟩,hd',e1,e2⟩,by show ((n:Int) - (k + 1)).toNat < ((n:Int) - k).toNat; omega⟩
   ·exact Ok.ret ⟨⟨⟨by show 0<=k + 1; omega,by show k + 1<=(n:Int); omega⟩,hd',he,kC ha⟩,by show ((n:Int) - (k + 1)).toNat < ((n:Int) - k).toNat; omega⟩
  clear hw
  refine Ok.cond (fun hne=>?_) fun _=>J8 d1 false hd (fun h=>by cases h)
  have hne':i≠k:=fun e=>by rw [aAg e] at hne; cases hne
  refine Ok.bind (D4 hd 3 (by omega) (by omega)) fun y8 h8=>?_
  refine Ok.cond (fun _=>J8 y8.2 _ h8.2 fun h=>⟨by have:=aCe h; omega,hne'⟩) fun _=>J8 y8.2 false h8.2 (fun h=>by cases h)
 ·refine Ok.up ?_
  rw [Db (by omega)]
  exact Ok.ret ⟨d1,l1,rfl,hd,he,pK ha⟩
def dK (s:An):Prop:=Z5 s/\s.Edges≠[]
theorem cJ {E:List Al} {L:List Aw} {n:Nat} (h2:2<=n/\n<=3) (hE:E.length=n) (hep:∀ (j:Nat) e,E[j]?=some e->aW j e) (hL:Ol n L) (hne:L≠[]) {d:Ab} (hd:Hj d):Ok (Bk.j10 E d L) (fun y=>dK y.1/\Hj y.2):=by
 unfold Bk.j10
 refine Ok.bind (D4 hd 3 (by omega) (by omega)) fun y9 h9=>?_
 have b9:=h9.1
 refine Ok.loop (fun s:Int×Ab×List Bp=>(0<=s.1/\s.1 + (s.2.2.length:Int)<=2)/\Hj s.2.1/\∀ x∈s.2.2,ItM x) (fun s=>s.1.toNat) (fun s hs=>?_) ⟨⟨b9.1,by show y9.1 + ((([]:List Bp).length:Nat):Int)<=2; simp; omega⟩,h9.2,fun x hx=>(by cases hx)⟩
 obtain⟨i,d1,l⟩:=s
 obtain⟨⟨a1,a2⟩,a3,a4⟩:=hs
 dsimp only at a1 a2 a3 a4
 show Ok (Bk.l11 E L i d1 l) _
 unfold Bk.l11
 refine Ok.cond (fun hb=>?_) fun hb=>?_
 ·have hb:=aCe hb
  refine Ok.bind (nF a3 _ (by decide) (by decide)) fun y10 h10=>?_
  have hnm:Fm y10.1=true:=by
   have:=h10.1
   simp only [aE7,aHp,aLl] at this
   rcases this with h | h <;> rw [h] <;> decide +kernel
  refine Ok.bind (iV h10.2 hnm) fun y11 h11=>?_
  refine Ok.bind (E6 (by rw [aF2]; omega)) fun l' hl'=>?_
  subst hl'
  rw [Db (by omega)]
  refine Ok.ret ⟨⟨⟨by show 0<=i - 1; omega,?_⟩,h11.2,fun x hx=>?_⟩,by show (i - 1).toNat < i.toNat; omega⟩
  ·show i - 1 + ((l ++ [y11.1]).length:Int)<=2
   rw [aEq,aF2]; omega
  ·rcases aH5.1 hx with hx | hx
   ·exact a4 x hx
   ·rw [aEp.1 hx]; exact h11.1
 ·exact Ok.up (Ok.ret ⟨⟨⟨by show 2<=E.length/\E.length<=3; omega,hep,by show Ol E.length L; rw [hE]; exact hL,by show l.length<=2; omega,a4⟩,hne⟩,a3⟩)
theorem rH {y:Int×Ab} {n:Nat} (hn:2 + y.1=(n:Int)) (h2:2<=n/\n<=3) {E:List Al} (hE:E.length=n) (hep:∀ (j:Nat) e,E[j]?=some e->aW j e) {d:Ab} (hd:Hj d) :
  Ok (B1 (fun q'=>Bk.l6 y E q'.1 q'.2.1 q'.2.2) (0,d,([]:List Aw))) (fun y=>dK y.1/\Hj y.2):=by
 refine Ok.loop (fun s:Int×Ab×List Aw=>(0<=s.1/\s.1<=(n:Int))/\EQ n s.1 0 s.2.1 s.2.2) (fun s=>((n:Int) - s.1).toNat) (fun s hs=>?_) ⟨⟨aO5 _,by show (0:Int)<=(n:Int); omega⟩,hd,⟨aFf _,fun x hx=>(by cases hx),fun j x y hx=>(by cases hx)⟩,fun x hx=>(by cases hx)⟩
 obtain⟨i,d1,l1⟩:=s
 obtain⟨hk,hq⟩:=hs
 dsimp only at hk hq
 show Ok (Bk.l6 y E i d1 l1) _
 unfold Bk.l6
 rw [rD hn h2.2]
 refine Ok.cond (fun hb=>?_) fun hb=>?_
 ·have hb:=aCe hb
  refine (qY hn h2.2 ⟨hk.1,hb⟩ hq).mono fun o ho=>?_
  obtain⟨d',l',rfl,ho⟩:=ho
  exact⟨⟨⟨by show 0<=i + 1; omega,by show i + 1<=(n:Int); omega⟩,ho⟩,by show ((n:Int) - (i + 1)).toNat < ((n:Int) - i).toNat; omega⟩
 ·refine Ok.up (Ok.cond (fun _=>?_) fun hl0=>cJ h2 hE hep hq.2.1 (fun e0=>by rw [e0] at hl0; exact absurd rfl (aDs hl0)) hq.1)
  refine cJ h2 hE hep ⟨by decide,fun e he=>?_,fun j x y hx hy=>?_⟩ (by simp) hq.1
  ·rw [aEp.1 he]
   exact⟨⟨by show (0:Int)<=0; omega,by show (0:Int) < (n:Int); omega⟩,⟨by show (0:Int)<=1; omega,by show (1:Int) < (n:Int); omega⟩,by show (0:Int)≠1; omega⟩
  ·have:=I9 hy
   rw [aF2] at this
   omega
theorem nW {d:Ab} (h:Hj d):Ok (Bk d) (fun y=>dK y.1/\Hj y.2):=by
 unfold Bk
 refine Ok.bind (D4 h 2 (by omega) (by omega)) fun y hy=>?_
 have by1:=hy.1
 obtain⟨n,hn⟩:∃ n:Nat,2 + y.1=(n:Int):=⟨(2 + y.1).toNat,by omega⟩
 have h2:2<=n/\n<=3:=by omega
 have hw:W (2 + y.1)=(n:Int):=by rw [hn,Db (by omega)]
 refine Ok.bind (Ro ⟨by omega,by rw [hw]; omega,by rw [hw]; show (n:Int)<=3; omega⟩) fun l hl=>?_
 clear hl
 refine Ok.loop (fun s:Int×Ab×List Al=>(0<=s.1/\s.1<=(n:Int))/\Hj s.2.1/\(s.2.2.length:Int)=s.1/\∀ (j:Nat) e,s.2.2[j]?=some e->aW j e) (fun s=>((n:Int) - s.1).toNat) (fun s hs=>?_) ⟨⟨aO5 _,by show (0:Int)<=(n:Int); omega⟩,hy.2,rfl,fun j e he=>(by cases he)⟩
 obtain⟨i,d1,E⟩:=s
 obtain⟨hk,hd,hlen,hep⟩:=hs
 dsimp only at hk hd hlen hep
 show Ok (Bk.l1 y i d1 E) _
 unfold Bk.l1
 rw [rD hn h2.2]
 refine Ok.cond (fun hb=>?_) fun hb=>?_
 ·have hb:=aCe hb
  have hnm:Bo ((([(⟨#[97,112,112]⟩:ByteArray),(⟨#[100,98]⟩:ByteArray),(⟨#[119,101,98]⟩:ByteArray)]:List ByteArray).drop ((0:Int).toNat)).take ((W (2 + y.1):Int).toNat - (0:Int).toNat)) i=some (mM E.length):=by
   rw [hw,aIm,<- hlen,Cr]
   show ((nmL.drop 0).take (n - 0))[E.length]?=_
   rw [aPx,Nat.sub_zero,aH3,if_pos (by omega)]
   unfold mM
   rw [aK8,aAy (show E.length < nmL.length by show E.length < 3; omega)]
   rfl
  refine Ok.bindE hnm ?_
  refine Ok.bind (Ks hd _ (by decide) (by decide)) fun y2 k2=>?_
  refine Ok.bind (D4 k2.2 3 (by omega) (by omega)) fun y3 k3=>?_
  have b3:=k3.1
  refine Ok.bind (Gr (by omega) (by show y3.1 < (3:Int); omega)) fun S hS=>?_
  refine Ok.bind (O7 k3.2 2 (by omega) (by omega)) fun y4 k4=>?_
  refine Ok.bind (O7 k4 3 (by omega) (by omega)) fun y5 k5=>?_
  have hm:y2.1=3\/y2.1=4:=by
   have:=k2.1
   simp only [aE7,aHp,aLl] at this
   omega
  simp only [aE7,aHp,aLl] at hS
  have J:∀ x,(y2.1,x)∈We->Ok (Bk.j2 i E (mM E.length) y2 y4 y5 x) (S6 (fun s:Int×Ab×List Al=>((0<=s.1/\s.1<=(n:Int))/\Hj s.2.1/\(s.2.2.length:Int)=s.1/\∀ (j:Nat) e,s.2.2[j]?=some e->aW j e)/\((n:Int) - s.1).toNat < ((n:Int) - i).toNat) (fun y=>dK y.1/\Hj y.2)):=fun x hx=>by
   unfold Bk.j2 Jx
   rw [aAc,<- hlen]
   refine Ok.bind (yG (i:=E.length) (by omega)) fun lf hlf=>?_
   refine Ok.bind (E6 (by rw [aF2]; omega)) fun l' hl'=>?_
   subst hl'
   rw [Db (by omega)]
   refine Ok.ret ⟨⟨⟨by show 0<=(E.length:Int) + 1; omega,by show (E.length:Int) + 1<=(n:Int); omega⟩,k5,?_,fun j e he=>?_⟩,by show ((n:Int) - ((E.length:Int) + 1)).toNat < ((n:Int) - (E.length:Int)).toNat; omega⟩
   ·show ((E ++ [_]).length:Int)=(E.length:Int) + 1
    rw [aEq,aF2]; omega
   ·have he:(E ++ [_])[j]?=some e:=he
    rw [aP6] at he
    split at he
    ·exact hep j e he
    ·have hj0:j - E.length=0:=by
      have:=I9 he
      rw [aF2] at this
      omega
     rw [hj0] at he
     injection he with he
     subst he
     rw [show j=E.length by omega]
     exact⟨(y2.1,x),hx,_,_,lf,hlf,rfl⟩
  rcases hm with hm | hm
  ·rw [hm,aAk (by omega),aD6]
   refine J S ?_
   rw [hm]
   unfold We
   rcases hS with rfl | rfl | rfl <;> simp
  ·rw [hm,aAg rfl,aEw]
   refine Ok.bind (E6 (by rcases hS with rfl | rfl | rfl <;> decide)) fun l' hl'=>?_
   subst hl'
   refine J _ ?_
   rw [hm]
   unfold We
   rcases hS with rfl | rfl | rfl <;> simp
 ·have hb:=aDs hb
  exact Ok.up (rH hn h2 (by omega) hep hd)
theorem rW {d:Ab} (h:Hj d):Ok (Bk d) (fun y=>Z5 y.1/\Hj y.2):=(nW h).mono fun _ h=>⟨h.1.1,h.2⟩
end Go.Proofs.YtkioneinddihlaaGreat
