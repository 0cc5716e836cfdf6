import Derived.Test.YtbpchmikjiinpaaGreatME
set_option autoImplicit false
set_option linter.unusedVariables false
set_option linter.unusedSimpArgs false
namespace Go.Proofs.YtbpchmikjiinpaaGreat
open Go
def nmL:List ByteArray:=[⟨#[97,112,112]⟩,⟨#[100,98]⟩,⟨#[119,101,98]⟩]
def tE (i:Nat):ByteArray:=nmL.getD i ⟨#[]⟩
theorem oA {i:Nat} (h:i < 3):Es (tE i)=true/\(tE i).size<=31/\bM (tE i)=true:=by
 rcases i with _ | _ | _ | i
 ·exact⟨by decide +kernel,by decide,by decide +kernel⟩
 ·exact⟨by decide +kernel,by decide,by decide +kernel⟩
 ·exact⟨by decide +kernel,by decide,by decide +kernel⟩
 ·omega
structure LfM (name:ByteArray) (key:Aq) (id:Int) (x:Am):Prop where
 key_:x.Key=key
 id_:x.KeyId=id
 len:x.Chain.length=1
 chain:∀ c∈x.Chain,Gu c=true/\Rc c
 head:Wo key id x.Chain=true
theorem aI9:Es ⟨#[114,111,111,116]⟩=true:=by decide +kernel
theorem aH8:O7 (Aq.mk 3 0) 1=true:=by decide +kernel
theorem xR {name:ByteArray} {key:Aq} {id a to:Int} (hn:Es name=true) (hk:bP key) (hid:0<=id/\id<=1000000) (ha:0<=a/\a<=2147483648) (hto:0<=to/\to<=40000):Ok (Mt name key id a to) (LfM name key id):=by
 have hns:=Nu hn
 generalize hc:Ah.mk id (⟨#[114,111,111,116]⟩:ByteArray) name key id (Aq.mk 3 0) 0 to false 0 ([name]:List ByteArray) (Dy.mk 0 0)=c
 have hf:Rc c:=by
  subst hc
  exact nA (by show (1:Nat) < 1000000000; omega) (fun s hs=>by rw [aDi.1 hs]; omega) (by show (4:Nat)<=_; omega) (by show name.size<=_; omega) (show Qq id by unfold Qq; omega) hk.1.1.i64 hk.1.2.i64 (show Qq id by unfold Qq; omega) (show Qq 3 by unfold Qq; omega) Vs Vs (show Qq to by unfold Qq; omega) Vs Vs Vs
 have hv:Gu c=true:=by
  subst hc
  rw [Y1]
  exact⟨⟨hid.1,by dsimp only; omega⟩,aI9,hn,lX hn,by show (1:Int)<=8; omega,hk.2,⟨hid.1,by dsimp only; omega⟩,aH8,aI7,aIm,⟨by show (0:Int)<=0; omega,hto.1,hto.2⟩,⟨by show (0:Int)<=0; omega,by show (0:Int)<=8; omega⟩,.inr rfl⟩
 have hu:X0 c=c:=by subst hc; rfl
 have hr:=cQ (N1 c).1
 have hsg:fS c a=(Yp c ⟨a,cE (N1 c).1⟩,0):=by
  unfold fS
  rw [hu,hv,aBe ha.1,aBe ha.2]; rfl
 unfold Mt
 rw [hc]
 refine Ok.bindE (kY _ hf a) ?_
 rw [hsg]
 refine Ok.ret ⟨rfl,rfl,rfl,fun x hx=>?_,?_⟩
 ·rw [aDi.1 hx]
  exact⟨W3 (by rw [hu]; exact hv) ha hr,V8 hf (show Qq a by unfold Qq; omega) (mA _)⟩
 ·subst hc
  show (decide (key=key) && decide (id=id))=true
  rw [aBe rfl,aBe rfl]; rfl
theorem aM1:bP (Aq.mk 5 2048):=⟨⟨zO (by decide),zO (by decide)⟩,by decide +kernel⟩
theorem aBp {i:Nat} (h:i < 3):Ok (Mt (tE i) (Aq.mk 5 2048) (W (100 + (i:Int))) 1 901) (LfM (tE i) (Aq.mk 5 2048) (100 + (i:Int))):=by
 rw [Dz (by omega)]
 exact xR (oA h).1 aM1 (by omega) (by omega) (by omega)
def Yw:List (Int×List Int):=[(3,[10,8,2]),(3,[8,2]),(3,[2,10,8,3]),(4,[14,10,8,2]),(4,[14,8,2]),(4,[14,2,10,8,3])]
def Z5 (i:Nat) (e:Ad):Prop:=∃ c∈Yw,∃ own fall x,LfM (tE i) (Aq.mk 5 2048) (100 + (i:Int)) x/\e=Ad.mk (tE i) 1 c.1 c.2 own [x] [1] [2,3] fall
theorem Ws {c:Int×List Int} (h:c∈Yw):(3<=c.1/\c.1<=4)/\c.2.length<=5/\c.2≠[]/\(c.2.Nodup/\∀ x∈c.2,SuC x):=by
 unfold Yw at h
 simp only [aC6,aD5,aLd] at h
 rcases h with rfl | rfl | rfl | rfl | rfl | rfl <;> exact⟨by decide,by decide,by decide,by decide,by unfold SuC; decide⟩
theorem aGo {i:Nat} {e:Ad} (hi:i < 3) (h:Z5 i e):Mu e:=by
 obtain⟨c,hc,own,fall,x,hx,rfl⟩:=h
 obtain⟨h1,h2,h3,h4⟩:=Ws hc
 have hn:=(oA hi).2.1
 refine⟨by show (tE i).size<=_; omega,by show c.2.length < _; omega,by show (1:Nat) < _; omega,by show (1:Nat) < _; omega,by show (2:Nat) < _; omega,fun y hy d hd=>?_⟩
 rw [aDi.1 hy] at hd
 exact (hx.chain d hd).2.w
theorem aB5 {i:Nat} {e:Ad} (h:Z5 i e):e.Name=tE i:=by
 obtain⟨c,hc,own,fall,x,hx,rfl⟩:=h
 rfl
structure Q0 (n:Nat) (l:List A3):Prop where
 len:l.length<=3
 rng:∀ e∈l,(0<=e.Client/\e.Client < (n:Int))/\(0<=e.Server/\e.Server < (n:Int))/\e.Client≠e.Server
 asc:∀ (j:Nat) x y,l[j]?=some x->l[j + 1]?=some y->x.Client < y.Client\/(x.Client=y.Client/\x.Server < y.Server)
def cY (i k:Int) (l:List A3):Prop:=∀ e∈l,e.Client < i\/(e.Client=i/\e.Server < k)
theorem Q0.v {n:Nat} {l:List A3} (h:Q0 n l) (i:Nat):fC (n:Int) l i:=by
 refine⟨fun x y h0 hx hy=>?_,fun x hx=>h.rng x (Dv hx)⟩
 obtain⟨j,rfl⟩:∃ j,i=j + 1:=⟨i - 1,by omega⟩
 exact h.asc j x y hx hy
structure Xz (s:Ap):Prop where
 n2:2<=s.Endpoints.length/\s.Endpoints.length<=3
 eps:∀ (j:Nat) e,s.Endpoints[j]?=some e->Z5 j e
 edges:Q0 s.Endpoints.length s.Edges
 items:s.Items.length<=2/\∀ x∈s.Items,ItM x
theorem Xz.fit {s:Ap} (h:Xz s):Ui s:=by
 have h1:=h.n2
 have h2:=h.edges.len
 have h3:=h.items.1
 refine⟨by unfold Lo; omega,by unfold Lo; omega,by unfold Lo; omega,fun x hx=>?_,fun x hx=>(h.items.2 x hx).fit⟩
 obtain⟨i,hi⟩:=aMo.1 hx
 exact aGo (by have:=Il hi; omega) (h.eps i x hi)
theorem uM {n:Nat} {l:List A3} {i k:Int} (h:Q0 n l) (ha:cY i k l) (h3:l.length < 3) (hi:0<=i/\i < (n:Int)) (hk:0<=k/\k < (n:Int)) (hne:i≠k):Q0 n (l ++ [A3.mk i k])/\cY i (k + 1) (l ++ [A3.mk i k]):=by
 refine⟨⟨by rw [aDd,aDc]; omega,fun e he=>?_,fun j x y hx hy=>?_⟩,fun e he=>?_⟩
 ·rcases aHz.1 he with he | he
  ·exact h.rng e he
  ·rw [aDi.1 he]; exact⟨hi,hk,hne⟩
 ·have hj:=Il hy
  rw [aDd,aDc] at hj
  rw [aHv (by omega)] at hx
  by_cases hj2:j + 1 < l.length
  ·rw [aHv hj2] at hy
   exact h.asc j x y hx hy
  ·rw [aKw (by omega),show j + 1 - l.length=0 by omega] at hy
   injection hy with hy
   subst hy
   exact ha x (Dv hx)
 ·rcases aHz.1 he with he | he
  ·rcases ha e he with h1 | ⟨h1,h2⟩
   ·exact .inl h1
   ·exact .inr ⟨h1,by omega⟩
  ·rw [aDi.1 he]
   exact .inr ⟨rfl,by show k < k + 1; omega⟩
theorem nT {l:List A3} {i k:Int} (h:cY i k l):cY i (k + 1) l:=fun e he=>by
 rcases h e he with h1 | ⟨h1,h2⟩
 ·exact .inl h1
 ·exact .inr ⟨h1,by omega⟩
theorem sJ {l:List A3} {i k:Int} (h:cY i k l):cY (i + 1) 0 l:=fun e he=>by
 rcases h e he with h1 | ⟨h1,h2⟩
 ·exact .inl (by omega)
 ·exact .inl (by omega)
theorem yO {y:Int×Ab} {n:Nat} (hn:2 + y.1=(n:Int)) (h:n<=3):((((W (2 + y.1):Int).toNat - (0:Int).toNat):Nat):Int)=(n:Int):=by
 rw [hn,Dz (by omega),aK9]
 show ((n - 0:Nat):Int)=_
 rw [Nat.sub_zero]
def EQ (n:Nat) (i k:Int) (d:Ab) (l:List A3):Prop:=Jw d/\Q0 n l/\cY i k l
theorem uL {y:Int×Ab} {n:Nat} (hn:2 + y.1=(n:Int)) (h3:n<=3) {i:Int} (hi:0<=i/\i < (n:Int)) {d:Ab} {l:List A3} (h:EQ n i 0 d l) :
  Ok (B2 (fun q'=>Bk.l7 y i q'.1 q'.2.1 q'.2.2) (0,d,l)) (fun o=>∃ d' l',o=.next (i + 1,d',l')/\EQ n (i + 1) 0 d' l'):=by
 refine Ok.loop (fun s:Int×Ab×List A3=>(0<=s.1/\s.1<=(n:Int))/\EQ n i s.1 s.2.1 s.2.2) (fun s=>((n:Int) - s.1).toNat) (fun s hs=>?_) ⟨⟨aR9 _,by show (0:Int)<=(n:Int); omega⟩,h⟩
 obtain⟨k,d1,l1⟩:=s
 obtain⟨hk,hd,he,ha⟩:=hs
 dsimp only at hk hd he ha
 have hl3:=he.len
 show Ok (Bk.l7 y i k d1 l1) _
 unfold Bk.l7
 rw [yO hn h3]
 refine Ok.cond (fun hb=>?_) fun hb=>?_
 ·have hb:=aCm hb
  have hw:W (k + 1)=k + 1:=Dz (by omega)
  have J8:∀ (d':Ab) (b:Bool),Jw d'->(b=true->l1.length < 3/\i≠k)->Ok (Bk.j8 i k l1 b d') (jV (fun s:Int×Ab×List A3=>((0<=s.1/\s.1<=(n:Int))/\EQ n i s.1 s.2.1 s.2.2)/\((n:Int) - s.1).toNat < ((n:Int) - k).toNat) (fun o=>∃ d' l',o=.next (i + 1,d',l')/\EQ n (i + 1) 0 d' l')):=fun d' b hd' hb'=>by
   unfold Bk.j8 Bk.j9
   rw [hw]
   refine Ok.cond (fun hbt=>?_) fun _=>?_
   ·obtain⟨c1,c2⟩:=hb' hbt
    refine Ok.bind (Ho (by rw [aDc]; omega)) fun l' hl'=>?_
    subst hl'
    obtain⟨e1,e2⟩:=uM he ha c1 hi ⟨hk.1,hb⟩ c2
    exact Ok.ret ⟨⟨⟨by show 0<=k + 1; omega,by show k + 1<=(n:Int); omega⟩,hd',e1,e2⟩,by show ((n:Int) - (k + 1)).toNat < ((n:Int) - k).toNat; omega⟩
   ·exact Ok.ret ⟨⟨⟨by show 0<=k + 1; omega,by show k + 1<=(n:Int); omega⟩,hd',he,nT ha⟩,by show ((n:Int) - (k + 1)).toNat < ((n:Int) - k).toNat; omega⟩
  clear hw
  refine Ok.cond (fun hne=>?_) fun _=>J8 d1 false hd (fun h=>by cases h)
  have hne':i≠k:=fun e=>by rw [aBe e] at hne; cases hne
  refine Ok.bind (Ej hd 3 (by omega) (by omega)) fun y8 h8=>?_
  refine Ok.cond (fun _=>J8 y8.2 _ h8.2 fun h=>⟨by have:=aCm h; omega,hne'⟩) fun _=>J8 y8.2 false h8.2 (fun h=>by cases h)
 ·refine Ok.up ?_
  rw [Dz (by omega)]
  exact Ok.ret ⟨d1,l1,rfl,hd,he,sJ ha⟩
def gZ (s:Ap):Prop:=Xz s/\s.Edges≠[]
theorem gC {E:List Ad} {L:List A3} {n:Nat} (h2:2<=n/\n<=3) (hE:E.length=n) (hep:∀ (j:Nat) e,E[j]?=some e->Z5 j e) (hL:Q0 n L) (hne:L≠[]) {d:Ab} (hd:Jw d):Ok (Bk.j10 E d L) (fun y=>gZ y.1/\Jw y.2):=by
 unfold Bk.j10
 refine Ok.bind (Ej hd 3 (by omega) (by omega)) fun y9 h9=>?_
 have b9:=h9.1
 refine Ok.loop (fun s:Int×Ab×List Bf=>(0<=s.1/\s.1 + (s.2.2.length:Int)<=2)/\Jw s.2.1/\∀ x∈s.2.2,ItM x) (fun s=>s.1.toNat) (fun s hs=>?_) ⟨⟨b9.1,by show y9.1 + ((([]:List Bf).length:Nat):Int)<=2; simp; omega⟩,h9.2,fun x hx=>(by cases hx)⟩
 obtain⟨i,d1,l⟩:=s
 obtain⟨⟨a1,a2⟩,a3,a4⟩:=hs
 dsimp only at a1 a2 a3 a4
 show Ok (Bk.l11 E L i d1 l) _
 unfold Bk.l11
 refine Ok.cond (fun hb=>?_) fun hb=>?_
 ·have hb:=aCm hb
  refine Ok.bind (Uw a3 _ (by decide) (by decide)) fun y10 h10=>?_
  have hnm:Es y10.1=true:=by
   have:=h10.1
   simp only [aC6,aD5,aLd] at this
   rcases this with h | h <;> rw [h] <;> decide +kernel
  refine Ok.bind (lQ h10.2 hnm) fun y11 h11=>?_
  refine Ok.bind (Ho (by rw [aDc]; omega)) fun l' hl'=>?_
  subst hl'
  rw [Dz (by omega)]
  refine Ok.ret ⟨⟨⟨by show 0<=i - 1; omega,?_⟩,h11.2,fun x hx=>?_⟩,by show (i - 1).toNat < i.toNat; omega⟩
  ·show i - 1 + ((l ++ [y11.1]).length:Int)<=2
   rw [aDd,aDc]; omega
  ·rcases aHz.1 hx with hx | hx
   ·exact a4 x hx
   ·rw [aDi.1 hx]; exact h11.1
 ·exact Ok.up (Ok.ret ⟨⟨⟨by show 2<=E.length/\E.length<=3; omega,hep,by show Q0 E.length L; rw [hE]; exact hL,by show l.length<=2; omega,a4⟩,hne⟩,a3⟩)
theorem wD {y:Int×Ab} {n:Nat} (hn:2 + y.1=(n:Int)) (h2:2<=n/\n<=3) {E:List Ad} (hE:E.length=n) (hep:∀ (j:Nat) e,E[j]?=some e->Z5 j e) {d:Ab} (hd:Jw d) :
  Ok (B2 (fun q'=>Bk.l6 y E q'.1 q'.2.1 q'.2.2) (0,d,([]:List A3))) (fun y=>gZ y.1/\Jw y.2):=by
 refine Ok.loop (fun s:Int×Ab×List A3=>(0<=s.1/\s.1<=(n:Int))/\EQ n s.1 0 s.2.1 s.2.2) (fun s=>((n:Int) - s.1).toNat) (fun s hs=>?_) ⟨⟨aR9 _,by show (0:Int)<=(n:Int); omega⟩,hd,⟨aI3 _,fun x hx=>(by cases hx),fun j x y hx=>(by cases hx)⟩,fun x hx=>(by cases hx)⟩
 obtain⟨i,d1,l1⟩:=s
 obtain⟨hk,hq⟩:=hs
 dsimp only at hk hq
 show Ok (Bk.l6 y E i d1 l1) _
 unfold Bk.l6
 rw [yO hn h2.2]
 refine Ok.cond (fun hb=>?_) fun hb=>?_
 ·have hb:=aCm hb
  refine (uL hn h2.2 ⟨hk.1,hb⟩ hq).mono fun o ho=>?_
  obtain⟨d',l',rfl,ho⟩:=ho
  exact⟨⟨⟨by show 0<=i + 1; omega,by show i + 1<=(n:Int); omega⟩,ho⟩,by show ((n:Int) - (i + 1)).toNat < ((n:Int) - i).toNat; omega⟩
 ·refine Ok.up (Ok.cond (fun _=>?_) fun hl0=>gC h2 hE hep hq.2.1 (fun e0=>by rw [e0] at hl0; exact absurd rfl (aCn hl0)) hq.1)
  refine gC h2 hE hep ⟨by decide,fun e he=>?_,fun j x y hx hy=>?_⟩ (by simp) hq.1
  ·rw [aDi.1 he]
   exact⟨⟨by show (0:Int)<=0; omega,by show (0:Int) < (n:Int); omega⟩,⟨by show (0:Int)<=1; omega,by show (1:Int) < (n:Int); omega⟩,by show (0:Int)≠1; omega⟩
  ·have:=Il hy
   rw [aDc] at this
   omega
theorem sH {d:Ab} (h:Jw d):Ok (Bk d) (fun y=>gZ y.1/\Jw y.2):=by
 unfold Bk
 refine Ok.bind (Ej h 2 (by omega) (by omega)) fun y hy=>?_
 have by1:=hy.1
 obtain⟨n,hn⟩:∃ n:Nat,2 + y.1=(n:Int):=⟨(2 + y.1).toNat,by omega⟩
 have h2:2<=n/\n<=3:=by omega
 have hw:W (2 + y.1)=(n:Int):=by rw [hn,Dz (by omega)]
 refine Ok.bind (Wf ⟨by omega,by rw [hw]; omega,by rw [hw]; show (n:Int)<=3; omega⟩) fun l hl=>?_
 clear hl
 refine Ok.loop (fun s:Int×Ab×List Ad=>(0<=s.1/\s.1<=(n:Int))/\Jw s.2.1/\(s.2.2.length:Int)=s.1/\∀ (j:Nat) e,s.2.2[j]?=some e->Z5 j e) (fun s=>((n:Int) - s.1).toNat) (fun s hs=>?_) ⟨⟨aR9 _,by show (0:Int)<=(n:Int); omega⟩,hy.2,rfl,fun j e he=>(by cases he)⟩
 obtain⟨i,d1,E⟩:=s
 obtain⟨hk,hd,hlen,hep⟩:=hs
 dsimp only at hk hd hlen hep
 show Ok (Bk.l1 y i d1 E) _
 unfold Bk.l1
 rw [yO hn h2.2]
 refine Ok.cond (fun hb=>?_) fun hb=>?_
 ·have hb:=aCm hb
  have hnm:Bu ((([(⟨#[97,112,112]⟩:ByteArray),(⟨#[100,98]⟩:ByteArray),(⟨#[119,101,98]⟩:ByteArray)]:List ByteArray).drop ((0:Int).toNat)).take ((W (2 + y.1):Int).toNat - (0:Int).toNat)) i=some (tE E.length):=by
   rw [hw,aK9,<- hlen,Dr]
   show ((nmL.drop 0).take (n - 0))[E.length]?=_
   rw [aS7,Nat.sub_zero,aK6,if_pos (by omega)]
   unfold tE
   rw [aP4,aBx (show E.length < nmL.length by show E.length < 3; omega)]
   rfl
  refine Ok.bindE hnm ?_
  refine Ok.bind (Kt hd _ (by decide) (by decide)) fun y2 k2=>?_
  refine Ok.bind (Ej k2.2 3 (by omega) (by omega)) fun y3 k3=>?_
  have b3:=k3.1
  refine Ok.bind (M4 (by omega) (by show y3.1 < (3:Int); omega)) fun S hS=>?_
  refine Ok.bind (Uk k3.2 2 (by omega) (by omega)) fun y4 k4=>?_
  refine Ok.bind (Uk k4 3 (by omega) (by omega)) fun y5 k5=>?_
  have hm:y2.1=3\/y2.1=4:=by
   have:=k2.1
   simp only [aC6,aD5,aLd] at this
   omega
  simp only [aC6,aD5,aLd] at hS
  have J:∀ x,(y2.1,x)∈Yw->Ok (Bk.j2 i E (tE E.length) y2 y4 y5 x) (jV (fun s:Int×Ab×List Ad=>((0<=s.1/\s.1<=(n:Int))/\Jw s.2.1/\(s.2.2.length:Int)=s.1/\∀ (j:Nat) e,s.2.2[j]?=some e->Z5 j e)/\((n:Int) - s.1).toNat < ((n:Int) - i).toNat) (fun y=>gZ y.1/\Jw y.2)):=fun x hx=>by
   unfold Bk.j2 Sz
   rw [aAc,<- hlen]
   refine Ok.bind (aBp (i:=E.length) (by omega)) fun lf hlf=>?_
   refine Ok.bind (Ho (by rw [aDc]; omega)) fun l' hl'=>?_
   subst hl'
   rw [Dz (by omega)]
   refine Ok.ret ⟨⟨⟨by show 0<=(E.length:Int) + 1; omega,by show (E.length:Int) + 1<=(n:Int); omega⟩,k5,?_,fun j e he=>?_⟩,by show ((n:Int) - ((E.length:Int) + 1)).toNat < ((n:Int) - (E.length:Int)).toNat; omega⟩
   ·show ((E ++ [_]).length:Int)=(E.length:Int) + 1
    rw [aDd,aDc]; omega
   ·have he:(E ++ [_])[j]?=some e:=he
    rw [aTc] at he
    split at he
    ·exact hep j e he
    ·have hj0:j - E.length=0:=by
      have:=Il he
      rw [aDc] at this
      omega
     rw [hj0] at he
     injection he with he
     subst he
     rw [show j=E.length by omega]
     exact⟨(y2.1,x),hx,_,_,lf,hlf,rfl⟩
  rcases hm with hm | hm
  ·rw [hm,aBv (by omega),aCv]
   refine J S ?_
   rw [hm]
   unfold Yw
   rcases hS with rfl | rfl | rfl <;> simp
  ·rw [hm,aBe rfl,aDb]
   refine Ok.bind (Ho (by rcases hS with rfl | rfl | rfl <;> decide)) fun l' hl'=>?_
   subst hl'
   refine J _ ?_
   rw [hm]
   unfold Yw
   rcases hS with rfl | rfl | rfl <;> simp
 ·have hb:=aCn hb
  exact Ok.up (wD hn h2 (by omega) hep hd)
theorem yP {d:Ab} (h:Jw d):Ok (Bk d) (fun y=>Xz y.1/\Jw y.2):=(sH h).mono fun _ h=>⟨h.1.1,h.2⟩
end Go.Proofs.YtbpchmikjiinpaaGreat
