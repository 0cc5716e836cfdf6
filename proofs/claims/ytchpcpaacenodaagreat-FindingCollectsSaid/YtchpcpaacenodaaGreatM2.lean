import Derived.Test.YtchpcpaacenodaaGreatS0
import Derived.Test.YtchpcpaacenodaaGreatM1
set_option linter.unusedVariables false
set_option linter.unusedSimpArgs false
set_option maxRecDepth 100000
namespace Go.Proofs.YtchpcpaacenodaaGreat
open Go
theorem bK {a:Int} {l:List Int} (h:l.all (fun b=>N1 ⟨a,b⟩ 2)=true) {b:Int} (hb:b∈l):N1 ⟨a,b⟩ 2=true:=aGf.1 h b hb
def gC (u:Am):Prop:=SmU u/\N1 u 2=true
theorem oA {d:Ac} (h:Lj d):Ok (Mu d) (fun y=>gC y.1/\Lj y.2):=by
 unfold Mu
 refine Ok.bind (Iw h _ (by decide) (by decide)) fun y hy=>?_
 obtain⟨a,d1⟩:=y
 obtain⟨ha,hd⟩:=hy
 have hsz:=oJ hd a
 have hsa:Sm a:=Yq (by decide) ha
 have O:∀ l:List Int,1<=l.length->l.length<=1000->l.all (fun b=>N1 ⟨a,b⟩ 2)=true->Ok ((Bs d1 l).bind fun y=>some (y.1,y.2)) (fun y=>N1 ⟨a,y.1⟩ 2=true):=fun l h1 h2 h3=>
  Ok.bind (Iw hd l h1 h2) fun y hy=>Ok.ret (bK h3 hy.1)
 have key:Ok (Cn d1 a) (fun y=>N1 ⟨a,y.1⟩ 2=true):=by
  simp only [aFt,aGi,aIe] at ha
  rcases ha with rfl | rfl | rfl | rfl | rfl | rfl
  ·exact O [2048,1024,512,3072,1023,4096,16384] (by decide) (by decide) (by decide)
  ·exact O [256,160,224,384,521] (by decide) (by decide) (by decide)
  ·exact O [2048,1024,512,3072,1023,4096,16384] (by decide) (by decide) (by decide)
  ·exact O [2048,1024,512,3072,1023,4096,16384] (by decide) (by decide) (by decide)
  ·exact Ok.ret (a:=((0:Int),d1)) (show N1 ⟨8,0⟩ 2=true by decide)
  ·exact O [65,44,87] (by decide) (by decide) (by decide)
 refine Ok.bind (hsz.and key) fun z hz=>Ok.ret ⟨⟨⟨hsa,hz.1.1⟩,hz.2⟩,hz.1.2⟩
theorem aX (a b:ByteArray):Hg (a ++ b)=Hg a ++ Hg b:=by
 unfold Hg
 rw [ByteArray.data_append,Array.toList_append]
theorem aO:∀ (a:List UInt8) (x:UInt8) (b:List UInt8),Kz a (a ++ x :: b)=true
 | [],_,_=>rfl
 | y :: a,x,b=>by
  show (decide (y < y) || (y == y && Kz a (a ++ x :: b)))=true
  rw [aO a x b]; simp
theorem yT {s:ByteArray} (h:Ev s=true) (hs:s.size<=31):Ev (s ++ ⟨#[120]⟩)=true:=by
 unfold Ev at *
 rw [aX,aJ8,List.any_append]
 have h1:(⟨#[120]⟩:ByteArray).size=1:=rfl
 simp only [aGc,aId,aIm] at h ⊢
 refine⟨⟨by omega,by omega⟩,?_⟩
 rw [h.2]
 decide
theorem uK {s:ByteArray} (h:Ev s=true):Lu [s]=true:=by
 have e:Lu [s]=!(!Ev s || false || false):=rfl
 rw [e,h]; rfl
theorem uW {s t:ByteArray} (h:Ev s=true) (h2:Ev t=true) (h3:Kz (Hg s) (Hg t)=true):Lu [s,t]=true:=by
 have e:Lu [s,t]=!((!Ev s || false) || ((!Ev t || (true && !Kz (Hg s) (Hg t))) || false)):=rfl
 rw [e,h,h2,h3]; rfl
theorem dU {c:Af}:Fx c=true↔((0<=c.Serial/\c.Serial<=1099511627776)/\Ev c.Issuer=true/\Ev c.Subject=true/\Lu c.Names=true/\(c.Names.length:Int)<=8/\N1 c.Key 2=true/\(0<=c.KeyId/\c.KeyId<=2147483648)/\N1 c.Hash 1=true/\(0<=c.Seal.Key/\c.Seal.Key<=2147483648)/\(0<=c.Seal.Sum/\c.Seal.Sum < 4294967296)/\(0<=c.From/\c.From<=c.To/\c.To<=40000)/\(0<=c.Path/\c.Path<=8)/\(c.Authority=true\/c.Path=0)):=by
 unfold Fx V8
 simp only [aIz,List.any_nil,id,aIm,aJv,aJc,Bool.not_eq_false',Bool.and_eq_false_iff,aId,Bool.or_false]
 constructor
 ·rintro⟨h1,h2,h3,h4,h5,h6,h7,h8,h9,h10,h11,h12,h13,h14,h15,h16,h17,h18,h19,h20⟩
  exact⟨⟨by omega,by omega⟩,h3,h4,h5,by omega,h7,⟨by omega,by omega⟩,h10,⟨by omega,by omega⟩,⟨by omega,by omega⟩,⟨by omega,by omega,by omega⟩,⟨by omega,by omega⟩,h20⟩
 ·rintro⟨⟨h1,h2⟩,h3,h4,h5,h6,h7,⟨h8,h9⟩,h10,⟨h11,h12⟩,⟨h13,h14⟩,⟨h15,h16,h17⟩,⟨h18,h19⟩,h20⟩
  exact⟨by omega,by omega,h3,h4,h5,by omega,h7,by omega,by omega,h10,by omega,by omega,by omega,by omega,by omega,by omega,by omega,by omega,by omega,h20⟩
theorem fI {c:Af} (h:Fx (Y0 c)=true) {s:Eu} (h1:0<=s.Key/\s.Key<=2147483648) (h2:0<=s.Sum/\s.Sum < 4294967296):Fx (Z4 c s)=true:=by
 rw [dU] at h ⊢
 obtain⟨a1,a2,a3,a4,a5,a6,a7,a8,-,-,a11,a12,a13⟩:=h
 exact⟨a1,a2,a3,a4,a5,a6,a7,a8,h1,h2,a11,a12,a13⟩
theorem aHd:(0:Int)<=0/\(0:Int)<=2147483648:=by omega
theorem aGu:(0:Int)<=0/\(0:Int) < 4294967296:=by omega
structure vE (issuer subject:ByteArray) (key:Am) (id signer:Int) (authority:Bool) (c:Af):Prop where
 fit:P7 c
 ok:Fx c=true
 serial:0<=c.Serial/\c.Serial < 1000
 issuer_:c.Issuer=issuer
 subject_:c.Subject=subject
 key_:c.Key=key
 id_:c.KeyId=id
 hash:c.Hash.Alg∈([3,2,4,1]:List Int)/\c.Hash.Bits=0
 from_:c.From∈([0,5,10]:List Int)
 to_:c.To∈([1000,100,50,20]:List Int)
 auth:c.Authority=authority
 path:c.Path∈([3,0,1]:List Int)/\(authority=false->c.Path=0)
 names:c.Names=[subject]\/c.Names=[subject,subject ++ ⟨#[120]⟩]
 seal_:c.Seal=⟨signer,cN (O9 (Y0 c)).1⟩
theorem iB {d:Ac} (h:Lj d) {issuer subject:ByteArray} {key:Am} {id signer:Int} (authority:Bool) (hi:Ev issuer=true) (hs:Ev subject=true) (hs31:subject.size<=31) (hk:gC key) (hid:0<=id/\id<=2147483648) (hsg:0<=signer/\signer<=2147483648):Ok (Ch d issuer subject key id signer authority) (fun y=>vE issuer subject key id signer authority y.1/\Lj y.2):=by
 have hi32:=Ph hi
 unfold Ch
 refine Ok.bind (Fq h 1000 (by omega) (by omega)) fun y1 h1=>?_
 refine Ok.bind (Iw h1.2 _ (by decide) (by decide)) fun y2 h2=>?_
 refine Ok.bind (Iw h2.2 _ (by decide) (by decide)) fun y3 h3=>?_
 refine Ok.bind (Iw h3.2 _ (by decide) (by decide)) fun y4 h4=>?_
 have i2:=(Yq (by decide) h2.1).i64
 have i3:=(Yq (by decide) h3.1).i64
 have i4:=(Yq (by decide) h4.1).i64
 have i1:Qi y1.1:=by have:=h1.1; unfold Qi; omega
 have hx1:(⟨#[120]⟩:ByteArray).size=1:=rfl
 have j2:∀ (p:Int) (d':Ac) (l:List ByteArray),p∈([3,0,1]:List Int)->(authority=false->p=0)->Lj d'->(l=[subject]\/l=[subject,subject ++ ⟨#[120]⟩])->Ok (Ch.j2 issuer subject key id signer authority y1 y2 y3 y4 p d' l) (fun y=>vE issuer subject key id signer authority y.1/\Lj y.2):=by
  intro p d' l hp hp0 hd hl
  have ip:Qi p:=(Yq (by decide) hp).i64
  have ll:l.length<=2:=by rcases hl with rfl | rfl <;> simp
  have ln:∀ s∈l,s.size<=2000:=by
   rcases hl with rfl | rfl
   ·intro s hs; rw [aGh.1 hs]; omega
   ·intro s hs
    simp only [aFt,aGi,aIe] at hs
    rcases hs with rfl | rfl
    ·omega
    ·rw [aJ8]; omega
  unfold Ch.j2
  have hf:P7 (Af.mk y1.1 issuer subject key id (Am.mk y2.1 0) y3.1 y4.1 authority p l (Eu.mk 0 0)):=sW (by show l.length < 1000000000; omega) (fun s hs=>by have:=ln s hs; omega) (by show issuer.size<=_; omega) (by show subject.size<=_; omega) i1 hk.1.1.i64 hk.1.2.i64 (show Qi id by unfold Qi; omega) i2 iI i3 i4 ip iI iI
  have hv:Fx (Af.mk y1.1 issuer subject key id (Am.mk y2.1 0) y3.1 y4.1 authority p l (Eu.mk 0 0))=true:=by
   rw [dU]
   have t1:=h1.1
   refine⟨⟨t1.1,by dsimp only; omega⟩,hi,hs,?_,by dsimp only; omega,hk.2,hid,?_,aHd,aGu,?_,?_,?_⟩
   ·rcases hl with rfl | rfl
    ·exact uK hs
    ·exact uW hs (yT hs hs31) (by rw [aX]; exact aO _ 120 [])
   ·have:([3,2,4,1]:List Int).all (fun a=>N1 ⟨a,0⟩ 1)=true:=by decide
    exact aGf.1 this _ h2.1
   ·have t3:=h3.1
    have t4:=h4.1
    simp only [aFt,aGi,aIe] at t3 t4
    dsimp only
    omega
   ·simp only [aFt,aGi,aIe] at hp
    dsimp only
    omega
   ·cases ha:authority with
    | true=>exact .inl rfl
    | false=>exact .inr (hp0 ha)
  refine Ok.bindE (vJ _ hf signer) ?_
  have e:nQ (Af.mk y1.1 issuer subject key id (Am.mk y2.1 0) y3.1 y4.1 authority p l (Eu.mk 0 0)) signer=(Z4 (Af.mk y1.1 issuer subject key id (Am.mk y2.1 0) y3.1 y4.1 authority p l (Eu.mk 0 0)) ⟨signer,cN (O9 (Af.mk y1.1 issuer subject key id (Am.mk y2.1 0) y3.1 y4.1 authority p l (Eu.mk 0 0))).1⟩,0):=by
   unfold nQ
   have:Fx (Y0 (Af.mk y1.1 issuer subject key id (Am.mk y2.1 0) y3.1 y4.1 authority p l (Eu.mk 0 0)))=true:=hv
   rw [this,aAe hsg.1,aAe hsg.2]; rfl
  rw [e]
  have hr:=lE (O9 (Af.mk y1.1 issuer subject key id (Am.mk y2.1 0) y3.1 y4.1 authority p l (Eu.mk 0 0))).1
  exact Ok.ret ⟨⟨Zv hf (show Qi signer by unfold Qi; omega) (uN _),fI (c:=Af.mk y1.1 issuer subject key id (Am.mk y2.1 0) y3.1 y4.1 authority p l (Eu.mk 0 0)) hv hsg hr,h1.1,rfl,rfl,rfl,rfl,⟨h2.1,rfl⟩,h3.1,h4.1,rfl,⟨hp,hp0⟩,hl,rfl⟩,hd⟩
 have j1:∀ (p:Int) (d':Ac),p∈([3,0,1]:List Int)->(authority=false->p=0)->Lj d'->Ok (Ch.j1 issuer subject key id signer authority y1 y2 y3 y4 d' p) (fun y=>vE issuer subject key id signer authority y.1/\Lj y.2):=by
  intro p d' hp hp0 hd
  unfold Ch.j1
  refine Ok.bind (Vs hd 3 (by omega) (by omega)) fun y hy=>?_
  refine Ok.cond (fun _=>?_) fun _=>?_
  ·refine Ok.bind (yP (by omega)) fun s hs'=>?_
   refine Ok.bind (J5 (by simp)) fun l hl=>?_
   subst hl hs'
   exact j2 p y.2 _ hp hp0 hy (.inr rfl)
  ·exact j2 p y.2 _ hp hp0 hy (.inl rfl)
 cases ha:authority with
 | true=>
  rw [ha] at j1
  rw [aD8]
  refine Ok.bind (Iw h4.2 _ (by decide) (by decide)) fun y5 h5=>?_
  exact j1 _ _ h5.1 (fun h=>by cases h) h5.2
 | false=>
  rw [ha] at j1
  rw [aCx]
  exact j1 _ _ (by decide) (fun _=>rfl) h4.2
end Go.Proofs.YtchpcpaacenodaaGreat
