/- Plain texts, joined. No program is in sight here. -/
import Derived.Test.YtbpchmikjiinpaaGreatM1
import Derived.Test.YtbpchmikjiinpaaGreatS0
set_option linter.unusedVariables false
set_option linter.unusedSimpArgs false
set_option maxRecDepth 100000
namespace Go.Proofs.YtbpchmikjiinpaaGreat
section
open Go
theorem nM (c:Ah) (h:bA c):Ic c=some (bif Gu c then 0 else 9):=by
 unfold Ic
 rw [nL c h,aAc]
 cases Gu c <;> rfl
def aCo (id:Int):Bool:=decide (id < 0) || decide (2147483648 < id)
def Wo (key:Aq) (id:Int):List Ah->Bool
 | []=>true
 | c :: _=>decide (c.Key=key) && decide (c.KeyId=id)
def Wa (key:Aq) (id:Int) (l:List Ah):Bool:=O7 key 2 && (!aCo id && (!decide (8 < (l.length:Int)) && (!l.any (fun c=>!Gu c) && Wo key id l)))
theorem lU (key:Aq) (id:Int) (l:List Ah) :
  (cond (decide ((l.length:Int)=0)) (some true) ((Bu l 0).bind fun e_2=>cond (decide (e_2.Key=key)) (some (decide (e_2.KeyId=id))) (some false)))=some (Wo key id l):=by
 cases l with
 | nil=>rfl
 | cons c l=>
  rw [aBv (by simp only [aLg]; omega),aCv]
  show cond (decide (c.Key=key)) (some (decide (c.KeyId=id))) (some false)=some (decide (c.Key=key) && decide (c.KeyId=id))
  cases decide (c.Key=key) <;> rfl
theorem qW (key:Aq) (id:Int) (l:List Ah) (hf:∀ c∈l,bA c):Cl key id l=some (Wa key id l):=by
 unfold Cl Wa O7
 rw [Pb,aAc,Tw,aAc,aK,aAc]
 have h1:Cl.j1 key id l true=some false:=rfl
 have h0:¬ (8 < (l.length:Int))->Cl.j1 key id l false=some (!l.any (fun c=>!Gu c) && Wo key id l):=fun h8=>by
  unfold Cl.j1
  rw [aCv]
  refine (M2 l (fun c=>!Gu c) false (Wo key id l) (Ks (by omega)) (fun i c hc=>?_) ?_).trans ?_
  ·show Cl.l2 key id l (i:Int)=_
   unfold Cl.l2
   rw [Er hc,nM c (hf c (Dv hc)),aAc]
   cases Gu c <;> rfl
  ·show Cl.l2 key id l (l.length:Int)=_
   unfold Cl.l2
   rw [De,lU]
   rfl
  ·cases l.any (fun c=>!Gu c) <;> rfl
 cases decide (0 < N9 key) with
 | false=>rw [aR7,aDb,h1]; rfl
 | true=>
  rw [aLb,aCv]
  cases decide (Oi key.Alg=2) with
  | false=>rw [aR7,aDb,h1]; rfl
  | true=>
   rw [aLb,aCv]
   show cond (!!aCo id) _ _=_
   cases aCo id with
   | true=>rw [Bool.not_not,aDb,h1]; rfl
   | false=>
    rw [Bool.not_not,aCv]
    by_cases h8:8 < (l.length:Int)
    ·rw [aBe h8,h1]; rfl
    ·rw [aBv h8,h0 h8]; rfl
theorem rV (key:Aq) (id:Int) (l:List Ah) (hf:∀ c∈l,bA c):Da key id l=some (Wa key id l):=by
 unfold Da Wa aCo
 rw [Vu,aAc]
 have h1:Da.j1 key id l true=some false:=rfl
 have h0:¬ (8 < (l.length:Int))->Da.j1 key id l false=some (!l.any (fun c=>!Gu c) && Wo key id l):=fun h8=>by
  unfold Da.j1
  rw [aCv]
  refine (M2 l (fun c=>!Gu c) false (Wo key id l) (Ks (by omega)) (fun i c hc=>?_) ?_).trans ?_
  ·show Da.l2 key id l (i:Int)=_
   unfold Da.l2
   rw [Er hc,cU c (hf c (Dv hc)),aAc]
   cases Gu c <;> rfl
  ·show Da.l2 key id l (l.length:Int)=_
   unfold Da.l2
   rw [De,lU]
   rfl
  ·cases l.any (fun c=>!Gu c) <;> rfl
 cases O7 key 2 with
 | false=>rw [aR7,aDb,h1]; rfl
 | true=>
  rw [aLb,aCv]
  cases decide (id < 0) with
  | true=>rw [aDb,h1]; rfl
  | false=>
   rw [aCv]
   cases decide (2147483648 < id) with
   | true=>rw [aDb,h1]; rfl
   | false=>
    rw [aCv]
    by_cases h8:8 < (l.length:Int)
    ·rw [aBe h8,h1]; rfl
    ·rw [aBv h8,h0 h8]; rfl
end
section
open Go
theorem dF {a:Int} {l:List Int} (h:l.all (fun b=>O7 ⟨a,b⟩ 2)=true) {b:Int} (hb:b∈l):O7 ⟨a,b⟩ 2=true:=aG8.1 h b hb
def bP (u:Aq):Prop:=SmU u/\O7 u 2=true
theorem aBg {d:Ab} (h:Jw d):Ok (P1 d) (fun y=>bP y.1/\Jw y.2):=by
 unfold P1
 refine Ok.bind (Kt h _ (by decide) (by decide)) fun y hy=>?_
 obtain⟨a,d1⟩:=y
 obtain⟨ha,hd⟩:=hy
 have hsz:=aBu hd a
 have hsa:Sm a:=Zg (by decide) ha
 have O:∀ l:List Int,1<=l.length->l.length<=1000->l.all (fun b=>O7 ⟨a,b⟩ 2)=true->Ok ((B3 d1 l).bind fun y=>some (y.1,y.2)) (fun y=>O7 ⟨a,y.1⟩ 2=true):=fun l h1 h2 h3=>
  Ok.bind (Kt hd l h1 h2) fun y hy=>Ok.ret (dF h3 hy.1)
 have key:Ok (Cs d1 a) (fun y=>O7 ⟨a,y.1⟩ 2=true):=by
  simp only [aC6,aD5,aLd] at ha
  rcases ha with rfl | rfl | rfl | rfl | rfl | rfl
  ·exact O [2048,1024,512,3072,1023,4096,16384] (by decide) (by decide) (by decide)
  ·exact O [256,160,224,384,521] (by decide) (by decide) (by decide)
  ·exact O [2048,1024,512,3072,1023,4096,16384] (by decide) (by decide) (by decide)
  ·exact O [2048,1024,512,3072,1023,4096,16384] (by decide) (by decide) (by decide)
  ·exact Ok.ret (a:=((0:Int),d1)) (show O7 ⟨8,0⟩ 2=true by decide)
  ·exact O [65,44,87] (by decide) (by decide) (by decide)
 refine Ok.bind (hsz.and key) fun z hz=>Ok.ret ⟨⟨⟨hsa,hz.1.1⟩,hz.2⟩,hz.1.2⟩
theorem bE (a b:ByteArray):Hq (a ++ b)=Hq a ++ Hq b:=by
 unfold Hq
 rw [ByteArray.data_append,Array.toList_append]
theorem bW:∀ (a:List UInt8) (x:UInt8) (b:List UInt8),Mc a (a ++ x :: b)=true
 | [],_,_=>rfl
 | y :: a,x,b=>by
  show (decide (y < y) || (y == y && Mc a (a ++ x :: b)))=true
  rw [bW a x b]; simp
theorem aAn {s:ByteArray} (h:Es s=true) (hs:s.size<=31):Es (s ++ ⟨#[120]⟩)=true:=by
 unfold Es at *
 rw [bE,aS9,List.any_append]
 have h1:(⟨#[120]⟩:ByteArray).size=1:=rfl
 simp only [aFx,aN6,aQ0] at h ⊢
 refine⟨⟨by omega,by omega⟩,?_⟩
 rw [h.2]
 decide
theorem lX {s:ByteArray} (h:Es s=true):M8 [s]=true:=by
 have e:M8 [s]=!(!Es s || false || false):=rfl
 rw [e,h]; rfl
theorem vH {s t:ByteArray} (h:Es s=true) (h2:Es t=true) (h3:Mc (Hq s) (Hq t)=true):M8 [s,t]=true:=by
 have e:M8 [s,t]=!((!Es s || false) || ((!Es t || (true && !Mc (Hq s) (Hq t))) || false)):=rfl
 rw [e,h,h2,h3]; rfl
theorem Y1 {c:Ah}:Gu c=true↔((0<=c.Serial/\c.Serial<=1099511627776)/\Es c.Issuer=true/\Es c.Subject=true/\M8 c.Names=true/\(c.Names.length:Int)<=8/\O7 c.Key 2=true/\(0<=c.KeyId/\c.KeyId<=2147483648)/\O7 c.Hash 1=true/\(0<=c.Seal.Key/\c.Seal.Key<=2147483648)/\(0<=c.Seal.Sum/\c.Seal.Sum < 4294967296)/\(0<=c.From/\c.From<=c.To/\c.To<=40000)/\(0<=c.Path/\c.Path<=8)/\(c.Authority=true\/c.Path=0)):=by
 unfold Gu Wy
 simp only [aR2,aTf,id,aQ0,Bool.or_eq_false_iff,decide_eq_false_iff_not,Bool.not_eq_false',Bool.and_eq_false_iff,aN6,Bool.or_false]
 constructor
 ·rintro⟨h1,h2,h3,h4,h5,h6,h7,h8,h9,h10,h11,h12,h13,h14,h15,h16,h17,h18,h19,h20⟩
  exact⟨⟨by omega,by omega⟩,h3,h4,h5,by omega,h7,⟨by omega,by omega⟩,h10,⟨by omega,by omega⟩,⟨by omega,by omega⟩,⟨by omega,by omega,by omega⟩,⟨by omega,by omega⟩,h20⟩
 ·rintro⟨⟨h1,h2⟩,h3,h4,h5,h6,h7,⟨h8,h9⟩,h10,⟨h11,h12⟩,⟨h13,h14⟩,⟨h15,h16,h17⟩,⟨h18,h19⟩,h20⟩
  exact⟨by omega,by omega,h3,h4,h5,by omega,h7,by omega,by omega,h10,by omega,by omega,by omega,by omega,by omega,by omega,by omega,by omega,by omega,h20⟩
theorem W3 {c:Ah} (h:Gu (X0 c)=true) {s:Dy} (h1:0<=s.Key/\s.Key<=2147483648) (h2:0<=s.Sum/\s.Sum < 4294967296):Gu (Yp c s)=true:=by
 rw [Y1] at h ⊢
 obtain⟨a1,a2,a3,a4,a5,a6,a7,a8,-,-,a11,a12,a13⟩:=h
 exact⟨a1,a2,a3,a4,a5,a6,a7,a8,h1,h2,a11,a12,a13⟩
theorem aI7:(0:Int)<=0/\(0:Int)<=2147483648:=by omega
theorem aIm:(0:Int)<=0/\(0:Int) < 4294967296:=by omega
structure vG (issuer subject:ByteArray) (key:Aq) (id signer:Int) (authority:Bool) (c:Ah):Prop where
 fit:Rc c
 ok:Gu c=true
 serial:0<=c.Serial/\c.Serial < 1000
 issuer_:c.Issuer=issuer
 subject_:c.Subject=subject
 key_:c.Key=key
 id_:c.KeyId=id
 hash:c.Hash.Alg∈([3,2,4,1]:List Int)/\c.Hash.Bits=0
 from_:c.From∈([0,5,10]:List Int)
 to_:c.To∈([1000,100,50,20]:List Int)
 auth:c.Authority=authority
 path:c.Path∈([3,0,1]:List Int)/\(authority=false->c.Path=0)
 names:c.Names=[subject]\/c.Names=[subject,subject ++ ⟨#[120]⟩]
 seal_:c.Seal=⟨signer,cE (N1 (X0 c)).1⟩
theorem kF {d:Ab} (h:Jw d) {issuer subject:ByteArray} {key:Aq} {id signer:Int} (authority:Bool) (hi:Es issuer=true) (hs:Es subject=true) (hs31:subject.size<=31) (hk:bP key) (hid:0<=id/\id<=2147483648) (hsg:0<=signer/\signer<=2147483648):Ok (Ci d issuer subject key id signer authority) (fun y=>vG issuer subject key id signer authority y.1/\Jw y.2):=by
 have hi32:=Nu hi
 unfold Ci
 refine Ok.bind (Ej h 1000 (by omega) (by omega)) fun y1 h1=>?_
 refine Ok.bind (Kt h1.2 _ (by decide) (by decide)) fun y2 h2=>?_
 refine Ok.bind (Kt h2.2 _ (by decide) (by decide)) fun y3 h3=>?_
 refine Ok.bind (Kt h3.2 _ (by decide) (by decide)) fun y4 h4=>?_
 have i2:=(Zg (by decide) h2.1).i64
 have i3:=(Zg (by decide) h3.1).i64
 have i4:=(Zg (by decide) h4.1).i64
 have i1:Qq y1.1:=by have:=h1.1; unfold Qq; omega
 have hx1:(⟨#[120]⟩:ByteArray).size=1:=rfl
 have j2:∀ (p:Int) (d':Ab) (l:List ByteArray),p∈([3,0,1]:List Int)->(authority=false->p=0)->Jw d'->(l=[subject]\/l=[subject,subject ++ ⟨#[120]⟩])->Ok (Ci.j2 issuer subject key id signer authority y1 y2 y3 y4 p d' l) (fun y=>vG issuer subject key id signer authority y.1/\Jw y.2):=by
  intro p d' l hp hp0 hd hl
  have ip:Qq p:=(Zg (by decide) hp).i64
  have ll:l.length<=2:=by rcases hl with rfl | rfl <;> simp
  have ln:∀ s∈l,s.size<=2000:=by
   rcases hl with rfl | rfl
   ·intro s hs; rw [aDi.1 hs]; omega
   ·intro s hs
    simp only [aC6,aD5,aLd] at hs
    rcases hs with rfl | rfl
    ·omega
    ·rw [aS9]; omega
  unfold Ci.j2
  have hf:Rc (Ah.mk y1.1 issuer subject key id (Aq.mk y2.1 0) y3.1 y4.1 authority p l (Dy.mk 0 0)):=nA (by show l.length < 1000000000; omega) (fun s hs=>by have:=ln s hs; omega) (by show issuer.size<=_; omega) (by show subject.size<=_; omega) i1 hk.1.1.i64 hk.1.2.i64 (show Qq id by unfold Qq; omega) i2 Vs i3 i4 ip Vs Vs
  have hv:Gu (Ah.mk y1.1 issuer subject key id (Aq.mk y2.1 0) y3.1 y4.1 authority p l (Dy.mk 0 0))=true:=by
   rw [Y1]
   have t1:=h1.1
   refine⟨⟨t1.1,by dsimp only; omega⟩,hi,hs,?_,by dsimp only; omega,hk.2,hid,?_,aI7,aIm,?_,?_,?_⟩
   ·rcases hl with rfl | rfl
    ·exact lX hs
    ·exact vH hs (aAn hs hs31) (by rw [bE]; exact bW _ 120 [])
   ·have:([3,2,4,1]:List Int).all (fun a=>O7 ⟨a,0⟩ 1)=true:=by decide
    exact aG8.1 this _ h2.1
   ·have t3:=h3.1
    have t4:=h4.1
    simp only [aC6,aD5,aLd] at t3 t4
    dsimp only
    omega
   ·simp only [aC6,aD5,aLd] at hp
    dsimp only
    omega
   ·cases ha:authority with
    | true=>exact .inl rfl
    | false=>exact .inr (hp0 ha)
  refine Ok.bindE (kY _ hf signer) ?_
  have e:fS (Ah.mk y1.1 issuer subject key id (Aq.mk y2.1 0) y3.1 y4.1 authority p l (Dy.mk 0 0)) signer=(Yp (Ah.mk y1.1 issuer subject key id (Aq.mk y2.1 0) y3.1 y4.1 authority p l (Dy.mk 0 0)) ⟨signer,cE (N1 (Ah.mk y1.1 issuer subject key id (Aq.mk y2.1 0) y3.1 y4.1 authority p l (Dy.mk 0 0))).1⟩,0):=by
   unfold fS
   have:Gu (X0 (Ah.mk y1.1 issuer subject key id (Aq.mk y2.1 0) y3.1 y4.1 authority p l (Dy.mk 0 0)))=true:=hv
   rw [this,aBe hsg.1,aBe hsg.2]; rfl
  rw [e]
  have hr:=cQ (N1 (Ah.mk y1.1 issuer subject key id (Aq.mk y2.1 0) y3.1 y4.1 authority p l (Dy.mk 0 0))).1
  exact Ok.ret ⟨⟨V8 hf (show Qq signer by unfold Qq; omega) (mA _),W3 (c:=Ah.mk y1.1 issuer subject key id (Aq.mk y2.1 0) y3.1 y4.1 authority p l (Dy.mk 0 0)) hv hsg hr,h1.1,rfl,rfl,rfl,rfl,⟨h2.1,rfl⟩,h3.1,h4.1,rfl,⟨hp,hp0⟩,hl,rfl⟩,hd⟩
 have j1:∀ (p:Int) (d':Ab),p∈([3,0,1]:List Int)->(authority=false->p=0)->Jw d'->Ok (Ci.j1 issuer subject key id signer authority y1 y2 y3 y4 d' p) (fun y=>vG issuer subject key id signer authority y.1/\Jw y.2):=by
  intro p d' hp hp0 hd
  unfold Ci.j1
  refine Ok.bind (Uk hd 3 (by omega) (by omega)) fun y hy=>?_
  refine Ok.cond (fun _=>?_) fun _=>?_
  ·refine Ok.bind (zC (by omega)) fun s hs'=>?_
   refine Ok.bind (Ho (by simp)) fun l hl=>?_
   subst hl hs'
   exact j2 p y.2 _ hp hp0 hy (.inr rfl)
  ·exact j2 p y.2 _ hp hp0 hy (.inl rfl)
 cases ha:authority with
 | true=>
  rw [ha] at j1
  rw [aDb]
  refine Ok.bind (Kt h4.2 _ (by decide) (by decide)) fun y5 h5=>?_
  exact j1 _ _ h5.1 (fun h=>by cases h) h5.2
 | false=>
  rw [ha] at j1
  rw [aCv]
  exact j1 _ _ (by decide) (fun _=>rfl) h4.2
end
section
open Go
theorem fP {d:Ab} (h:Jw d) {name:ByteArray} {key:Aq} {id:Int} (hs:Es name=true) (hs31:name.size<=31) (hk:bP key) (hid:0<=id/\id<=2147483648) :
  Ok (G3 d name key id) (fun y=>(y.1.length<=3/\(∀ c∈y.1,Gu c=true/\Rc c)/\Wo key id y.1=true)/\Jw y.2):=by
 unfold G3
 refine Ok.bind (Kt h _ (by decide) (by decide)) fun y1 h1=>?_
 have hy1:0<=y1.1/\y1.1<=2:=by
  have:=h1.1
  simp only [aC6,aD5,aLd] at this
  omega
 refine Ok.bind (Ej h1.2 2 (by omega) (by omega)) fun y2 h2=>?_
 have hy2:=h2.1
 refine Ok.loop (fun s=>(0<=s.1/\s.1<=100)/\Es s.2.1=true/\0<=s.2.2.1/\s.2.2.1<=y1.1/\Jw s.2.2.2.1/\(s.2.2.2.2.length:Int)=s.2.2.1/\∀ c∈s.2.2.2.2,Gu c=true/\Rc c) (fun s=>(y1.1 - s.2.2.1).toNat) (fun s hs'=>?_) ⟨by rw [Dz (by omega)]; constructor <;> omega,by show Es ⟨#[114,111,111,116]⟩=true; decide +kernel,aR9 _,hy1.1,h2.2,rfl,fun c hc=>by cases hc⟩
 obtain⟨signer,issuer,i,d1,above⟩:=s
 obtain⟨a1,a2,a3,a4,a5,a6,a7⟩:=hs'
 dsimp only at a1 a2 a3 a4 a5 a6 a7
 show Ok (G3.l1 name key id y1 signer issuer i d1 above) _
 unfold G3.l1
 refine Ok.cond (fun hb=>?_) fun hb=>?_
 ·have hb:=aCm hb
  refine Ok.bind (M4 (by omega) (by show i < (3:Int); omega)) fun e he=>?_
  have hes:Es e=true/\e.size<=31:=by
   simp only [aC6,aD5,aLd] at he
   rcases he with rfl | rfl | rfl <;> exact⟨by decide +kernel,by decide⟩
  have e11:W (11 + i)=11 + i:=Dz (by omega)
  refine Ok.bind (kF a5 true a2 hes.1 hes.2 ⟨⟨⟨by decide,by decide⟩,⟨by decide,by decide⟩⟩,by decide +kernel⟩ (by rw [e11]; omega) (by omega)) fun y3 h3=>?_
  refine Ok.bind (Ho (by simp; omega)) fun l hl=>?_
  subst hl
  rw [Dz (x:=i + 1) (by omega),e11]
  clear e11
  refine Ok.ret ⟨⟨⟨by show 0<=11 + i; omega,by show 11 + i<=100; omega⟩,hes.1,?_,?_,h3.2,?_,?_⟩,?_⟩
  ·show 0<=i + 1; omega
  ·show i + 1<=y1.1; omega
  ·show ((y3.1 :: above).length:Int)=i + 1
   rw [aLg]; omega
  ·intro c hc
   rcases aC6.1 hc with rfl | hc
   ·exact⟨h3.1.ok,h3.1.fit⟩
   ·exact a7 c hc
  ·show (y1.1 - (i + 1)).toNat < (y1.1 - i).toNat; omega
 ·have hb:=aCn hb
  refine Ok.up ?_
  refine Ok.bind (kF a5 false a2 hs hs31 hk hid (by omega)) fun y4 h4=>?_
  refine Ok.bind (Ho (by simp; omega)) fun l hl=>?_
  subst hl
  refine Ok.ret ⟨⟨?_,?_,?_⟩,h4.2⟩
  ·show ([y4.1] ++ above).length<=3
   rw [aDd,aDc]; omega
  ·intro c hc
   rcases aC6.1 hc with rfl | hc
   ·exact⟨h4.1.ok,h4.1.fit⟩
   ·exact a7 c hc
  ·show (decide (y4.1.Key=key) && decide (y4.1.KeyId=id))=true
   rw [h4.1.key_,h4.1.id_,aBe rfl,aBe rfl]; rfl
end
end Go.Proofs.YtbpchmikjiinpaaGreat
