/- Plain texts, joined. No program is in sight here. -/
import Derived.Test.YtkioneinddihlaaGreatM1
import Derived.Test.YtkioneinddihlaaGreatK6
set_option linter.unusedVariables false
set_option linter.unusedSimpArgs false
set_option maxRecDepth 100000
namespace Go.Proofs.YtkioneinddihlaaGreat
section
open Go
theorem kS (c:Ah) (h:iR c):Hk c=some (bif Ge c then 0 else 9):=by
 unfold Hk
 rw [kP c h,aAc]
 cases Ge c <;> rfl
def xJ (id:Int):Bool:=decide (id < 0) || decide (2147483648 < id)
def U3 (key:Av) (id:Int):List Ah->Bool
 | []=>true
 | c :: _=>decide (c.Key=key) && decide (c.KeyId=id)
def Tg (key:Av) (id:Int) (l:List Ah):Bool:=M7 key 2 && (!xJ id && (!decide (8 < (l.length:Int)) && (!l.any (fun c=>!Ge c) && U3 key id l)))
theorem iF (key:Av) (id:Int) (l:List Ah) :
  (cond (decide ((l.length:Int)=0)) (some true) ((Bo l 0).bind fun e_2=>cond (decide (e_2.Key=key)) (some (decide (e_2.KeyId=id))) (some false)))=some (U3 key id l):=by
 cases l with
 | nil=>rfl
 | cons c l=>
  rw [aAk (by simp only [aIx]; omega),aD6]
  show cond (decide (c.Key=key)) (some (decide (c.KeyId=id))) (some false)=some (decide (c.Key=key) && decide (c.KeyId=id))
  cases decide (c.Key=key) <;> rfl
theorem pI (key:Av) (id:Int) (l:List Ah) (hf:∀ c∈l,iR c):Ct key id l=some (Tg key id l):=by
 unfold Ct Tg M7
 rw [V8,aAc,Yv,aAc,Xy,aAc]
 have h1:Ct.j1 key id l true=some false:=rfl
 have h0:¬ (8 < (l.length:Int))->Ct.j1 key id l false=some (!l.any (fun c=>!Ge c) && U3 key id l):=fun h8=>by
  unfold Ct.j1
  rw [aD6]
  refine (R2 l (fun c=>!Ge c) false (U3 key id l) (iG (by omega)) (fun i c hc=>?_) ?_).trans ?_
  ·show Ct.l2 key id l (i:Int)=_
   unfold Ct.l2
   rw [H3 hc,kS c (hf c (Eg hc)),aAc]
   cases Ge c <;> rfl
  ·show Ct.l2 key id l (l.length:Int)=_
   unfold Ct.l2
   rw [Fz,iF]
   rfl
  ·cases l.any (fun c=>!Ge c) <;> rfl
 cases decide (0 < Q1 key) with
 | false=>rw [aJf,aEw,h1]; rfl
 | true=>
  rw [aHz,aD6]
  cases decide (Qp key.Alg=2) with
  | false=>rw [aJf,aEw,h1]; rfl
  | true=>
   rw [aHz,aD6]
   show cond (!!xJ id) _ _=_
   cases xJ id with
   | true=>rw [Bool.not_not,aEw,h1]; rfl
   | false=>
    rw [Bool.not_not,aD6]
    by_cases h8:8 < (l.length:Int)
    ·rw [aAg h8,h1]; rfl
    ·rw [aAk h8,h0 h8]; rfl
theorem pA (key:Av) (id:Int) (l:List Ah) (hf:∀ c∈l,iR c):Dk key id l=some (Tg key id l):=by
 unfold Dk Tg xJ
 rw [S8,aAc]
 have h1:Dk.j1 key id l true=some false:=rfl
 have h0:¬ (8 < (l.length:Int))->Dk.j1 key id l false=some (!l.any (fun c=>!Ge c) && U3 key id l):=fun h8=>by
  unfold Dk.j1
  rw [aD6]
  refine (R2 l (fun c=>!Ge c) false (U3 key id l) (iG (by omega)) (fun i c hc=>?_) ?_).trans ?_
  ·show Dk.l2 key id l (i:Int)=_
   unfold Dk.l2
   rw [H3 hc,Zo c (hf c (Eg hc)),aAc]
   cases Ge c <;> rfl
  ·show Dk.l2 key id l (l.length:Int)=_
   unfold Dk.l2
   rw [Fz,iF]
   rfl
  ·cases l.any (fun c=>!Ge c) <;> rfl
 cases M7 key 2 with
 | false=>rw [aJf,aEw,h1]; rfl
 | true=>
  rw [aHz,aD6]
  cases decide (id < 0) with
  | true=>rw [aEw,h1]; rfl
  | false=>
   rw [aD6]
   cases decide (2147483648 < id) with
   | true=>rw [aEw,h1]; rfl
   | false=>
    rw [aD6]
    by_cases h8:8 < (l.length:Int)
    ·rw [aAg h8,h1]; rfl
    ·rw [aAk h8,h0 h8]; rfl
end
section
open Go
def gL (s:BitVec 32) (e:UInt8):BitVec 32:=(s ^^^ BitVec.ofNat 32 e.toNat) * 16777619#32
theorem vR (s:BitVec 32) (e:UInt8):IntKind.wrap .u32 ((Qj .u32 (s.toNat:Int) (IntKind.wrap .u32 (e.toNat:Int))) * 16777619)=((gL s e).toNat:Int):=by
 have he:=e.toNat_lt
 have hx:=(s ^^^ BitVec.ofNat 32 e.toNat).isLt
 have h2:Qj .u32 (s.toNat:Int) (IntKind.wrap .u32 (e.toNat:Int))=((s ^^^ BitVec.ofNat 32 e.toNat).toNat:Int):=by
  have h1:IntKind.wrap .u32 (e.toNat:Int)=(e.toNat:Int):=by rw [IntKind.wrap_u32]; omega
  rw [h1]
  show IntKind.u32.wrap ((BitVec.ofInt 32 (s.toNat:Int) ^^^ BitVec.ofInt 32 (e.toNat:Int)).toNat:Int)=_
  rw [BitVec.ofInt_natCast,BitVec.ofInt_natCast]
  have:BitVec.ofNat 32 s.toNat=s:=BitVec.eq_of_toNat_eq (by rw [BitVec.toNat_ofNat]; exact aLg s.isLt)
  rw [this,IntKind.wrap_u32]
  omega
 rw [h2]
 unfold gL
 rw [BitVec.toNat_mul,IntKind.wrap_u32]
 have:(16777619#32).toNat=16777619:=rfl
 rw [this]
 omega
def aHv (b:List UInt8):BitVec 32:=b.foldl gL 2166136261#32
theorem bT:∀ (b:List UInt8) (s:BitVec 32),b.foldl (fun (s:Int) (e:UInt8)=>IntKind.wrap .u32 ((Qj .u32 s (IntKind.wrap .u32 (e.toNat:Int))) * 16777619)) (s.toNat:Int)=((b.foldl gL s).toNat:Int)
 | [],_=>rfl
 | e :: b,s=>by rw [List.foldl_cons,vR,bT b]; rfl
theorem yY (b:List UInt8):Zm b=((aHv b).toNat:Int):=by
 have:=bT b 2166136261#32
 rw [show ((2166136261#32).toNat:Int)=2166136261 from rfl] at this
 unfold Zm
 rw [this]
 have h2:=(b.foldl gL 2166136261#32).isLt
 exact Db (by omega)
theorem Yl (b:List UInt8):0<=Zm b/\Zm b < 4294967296:=by
 have:=(aHv b).isLt
 rw [yY]; omega
end
section
open Go
theorem Zn {a:Int} {l:List Int} (h:l.all (fun b=>M7 ⟨a,b⟩ 2)=true) {b:Int} (hb:b∈l):M7 ⟨a,b⟩ 2=true:=aHf.1 h b hb
def Xp (u:Av):Prop:=SmU u/\M7 u 2=true
theorem yV {d:Ab} (h:Hj d):Ok (Nn d) (fun y=>Xp y.1/\Hj y.2):=by
 unfold Nn
 refine Ok.bind (Ks h _ (by decide) (by decide)) fun y hy=>?_
 obtain⟨a,d1⟩:=y
 obtain⟨ha,hd⟩:=hy
 have hsz:=yF hd a
 have hsa:Sm a:=Wz (by decide) ha
 have O:∀ l:List Int,1<=l.length->l.length<=1000->l.all (fun b=>M7 ⟨a,b⟩ 2)=true->Ok ((Cf d1 l).bind fun y=>some (y.1,y.2)) (fun y=>M7 ⟨a,y.1⟩ 2=true):=fun l h1 h2 h3=>
  Ok.bind (Ks hd l h1 h2) fun y hy=>Ok.ret (Zn h3 hy.1)
 have key:Ok (Cy d1 a) (fun y=>M7 ⟨a,y.1⟩ 2=true):=by
  simp only [aE7,aHp,aLl] at ha
  rcases ha with rfl | rfl | rfl | rfl | rfl | rfl
  ·exact O [2048,1024,512,3072,1023,4096,16384] (by decide) (by decide) (by decide)
  ·exact O [256,160,224,384,521] (by decide) (by decide) (by decide)
  ·exact O [2048,1024,512,3072,1023,4096,16384] (by decide) (by decide) (by decide)
  ·exact O [2048,1024,512,3072,1023,4096,16384] (by decide) (by decide) (by decide)
  ·exact Ok.ret (a:=((0:Int),d1)) (show M7 ⟨8,0⟩ 2=true by decide)
  ·exact O [65,44,87] (by decide) (by decide) (by decide)
 refine Ok.bind (hsz.and key) fun z hz=>Ok.ret ⟨⟨⟨hsa,hz.1.1⟩,hz.2⟩,hz.1.2⟩
theorem X8 (a b:ByteArray):K0 (a ++ b)=K0 a ++ K0 b:=by
 unfold K0
 rw [ByteArray.data_append,Array.toList_append]
theorem Y5:∀ (a:List UInt8) (x:UInt8) (b:List UInt8),fS a (a ++ x :: b)=true
 | [],_,_=>rfl
 | y :: a,x,b=>by
  show (decide (y < y) || (y == y && fS a (a ++ x :: b)))=true
  rw [Y5 a x b]; simp
theorem yL {s:ByteArray} (h:Fm s=true) (hs:s.size<=31):Fm (s ++ ⟨#[120]⟩)=true:=by
 unfold Fm at *
 rw [X8,aP3,aOm]
 have h1:(⟨#[120]⟩:ByteArray).size=1:=rfl
 simp only [aEs,aKi,aNb] at h ⊢
 refine⟨⟨by omega,by omega⟩,?_⟩
 rw [h.2]
 decide
theorem jI {s:ByteArray} (h:Fm s=true):Li [s]=true:=by
 have e:Li [s]=!(!Fm s || false || false):=rfl
 rw [e,h]; rfl
theorem uL {s t:ByteArray} (h:Fm s=true) (h2:Fm t=true) (h3:fS (K0 s) (K0 t)=true):Li [s,t]=true:=by
 have e:Li [s,t]=!((!Fm s || false) || ((!Fm t || (true && !fS (K0 s) (K0 t))) || false)):=rfl
 rw [e,h,h2,h3]; rfl
theorem Vo {c:Ah}:Ge c=true↔((0<=c.Serial/\c.Serial<=1099511627776)/\Fm c.Issuer=true/\Fm c.Subject=true/\Li c.Names=true/\(c.Names.length:Int)<=8/\M7 c.Key 2=true/\(0<=c.KeyId/\c.KeyId<=2147483648)/\M7 c.Hash 1=true/\(0<=c.Seal.Key/\c.Seal.Key<=2147483648)/\(0<=c.Seal.Sum/\c.Seal.Sum < 4294967296)/\(0<=c.From/\c.From<=c.To/\c.To<=40000)/\(0<=c.Path/\c.Path<=8)/\(c.Authority=true\/c.Path=0)):=by
 unfold Ge Vf
 simp only [aOh,aP4,id,aNb,Bool.or_eq_false_iff,decide_eq_false_iff_not,Bool.not_eq_false',Bool.and_eq_false_iff,aKi,Bool.or_false]
 constructor
 ·rintro⟨h1,h2,h3,h4,h5,h6,h7,h8,h9,h10,h11,h12,h13,h14,h15,h16,h17,h18,h19,h20⟩
  exact⟨⟨by omega,by omega⟩,h3,h4,h5,by omega,h7,⟨by omega,by omega⟩,h10,⟨by omega,by omega⟩,⟨by omega,by omega⟩,⟨by omega,by omega,by omega⟩,⟨by omega,by omega⟩,h20⟩
 ·rintro⟨⟨h1,h2⟩,h3,h4,h5,h6,h7,⟨h8,h9⟩,h10,⟨h11,h12⟩,⟨h13,h14⟩,⟨h15,h16,h17⟩,⟨h18,h19⟩,h20⟩
  exact⟨by omega,by omega,h3,h4,h5,by omega,h7,by omega,by omega,h10,by omega,by omega,by omega,by omega,by omega,by omega,by omega,by omega,by omega,h20⟩
theorem T1 {c:Ah} (h:Ge (V1 c)=true) {s:Eb} (h1:0<=s.Key/\s.Key<=2147483648) (h2:0<=s.Sum/\s.Sum < 4294967296):Ge (Wl c s)=true:=by
 rw [Vo] at h ⊢
 obtain⟨a1,a2,a3,a4,a5,a6,a7,a8,-,-,a11,a12,a13⟩:=h
 exact⟨a1,a2,a3,a4,a5,a6,a7,a8,h1,h2,a11,a12,a13⟩
theorem aG9:(0:Int)<=0/\(0:Int)<=2147483648:=by omega
theorem aFv:(0:Int)<=0/\(0:Int) < 4294967296:=by omega
structure rC (issuer subject:ByteArray) (key:Av) (id signer:Int) (authority:Bool) (c:Ah):Prop where
 fit:Px c
 ok:Ge c=true
 serial:0<=c.Serial/\c.Serial < 1000
 issuer_:c.Issuer=issuer
 subject_:c.Subject=subject
 key_:c.Key=key
 id_:c.KeyId=id
 hash:c.Hash.Alg∈([3,2,4,1]:List Int)/\c.Hash.Bits=0
 from_:c.From∈([0,5,10]:List Int)
 to_:c.To∈([1000,100,50,20]:List Int)
 auth:c.Authority=authority
 path:c.Path∈([3,0,1]:List Int)/\(authority=false->c.Path=0)
 names:c.Names=[subject]\/c.Names=[subject,subject ++ ⟨#[120]⟩]
 seal_:c.Seal=⟨signer,Zm (Mc (V1 c)).1⟩
theorem jH {d:Ab} (h:Hj d) {issuer subject:ByteArray} {key:Av} {id signer:Int} (authority:Bool) (hi:Fm issuer=true) (hs:Fm subject=true) (hs31:subject.size<=31) (hk:Xp key) (hid:0<=id/\id<=2147483648) (hsg:0<=signer/\signer<=2147483648):Ok (Cl d issuer subject key id signer authority) (fun y=>rC issuer subject key id signer authority y.1/\Hj y.2):=by
 have hi32:=L7 hi
 unfold Cl
 refine Ok.bind (D4 h 1000 (by omega) (by omega)) fun y1 h1=>?_
 refine Ok.bind (Ks h1.2 _ (by decide) (by decide)) fun y2 h2=>?_
 refine Ok.bind (Ks h2.2 _ (by decide) (by decide)) fun y3 h3=>?_
 refine Ok.bind (Ks h3.2 _ (by decide) (by decide)) fun y4 h4=>?_
 have i2:=(Wz (by decide) h2.1).i64
 have i3:=(Wz (by decide) h3.1).i64
 have i4:=(Wz (by decide) h4.1).i64
 have i1:Og y1.1:=by have:=h1.1; unfold Og; omega
 have hx1:(⟨#[120]⟩:ByteArray).size=1:=rfl
 have j2:∀ (p:Int) (d':Ab) (l:List ByteArray),p∈([3,0,1]:List Int)->(authority=false->p=0)->Hj d'->(l=[subject]\/l=[subject,subject ++ ⟨#[120]⟩])->Ok (Cl.j2 issuer subject key id signer authority y1 y2 y3 y4 p d' l) (fun y=>rC issuer subject key id signer authority y.1/\Hj y.2):=by
  intro p d' l hp hp0 hd hl
  have ip:Og p:=(Wz (by decide) hp).i64
  have ll:l.length<=2:=by rcases hl with rfl | rfl <;> simp
  have ln:∀ s∈l,s.size<=2000:=by
   rcases hl with rfl | rfl
   ·intro s hs; rw [aEp.1 hs]; omega
   ·intro s hs
    simp only [aE7,aHp,aLl] at hs
    rcases hs with rfl | rfl
    ·omega
    ·rw [aP3]; omega
  unfold Cl.j2
  have hf:Px (Ah.mk y1.1 issuer subject key id (Av.mk y2.1 0) y3.1 y4.1 authority p l (Eb.mk 0 0)):=kF (by show l.length < 1000000000; omega) (fun s hs=>by have:=ln s hs; omega) (by show issuer.size<=_; omega) (by show subject.size<=_; omega) i1 hk.1.1.i64 hk.1.2.i64 (show Og id by unfold Og; omega) i2 S9 i3 i4 ip S9 S9
  have hv:Ge (Ah.mk y1.1 issuer subject key id (Av.mk y2.1 0) y3.1 y4.1 authority p l (Eb.mk 0 0))=true:=by
   rw [Vo]
   have t1:=h1.1
   refine⟨⟨t1.1,by dsimp only; omega⟩,hi,hs,?_,by dsimp only; omega,hk.2,hid,?_,aG9,aFv,?_,?_,?_⟩
   ·rcases hl with rfl | rfl
    ·exact jI hs
    ·exact uL hs (yL hs hs31) (by rw [X8]; exact Y5 _ 120 [])
   ·have:([3,2,4,1]:List Int).all (fun a=>M7 ⟨a,0⟩ 1)=true:=by decide
    exact aHf.1 this _ h2.1
   ·have t3:=h3.1
    have t4:=h4.1
    simp only [aE7,aHp,aLl] at t3 t4
    dsimp only
    omega
   ·simp only [aE7,aHp,aLl] at hp
    dsimp only
    omega
   ·cases ha:authority with
    | true=>exact .inl rfl
    | false=>exact .inr (hp0 ha)
  refine Ok.bindE (jG _ hf signer) ?_
  have e:cD (Ah.mk y1.1 issuer subject key id (Av.mk y2.1 0) y3.1 y4.1 authority p l (Eb.mk 0 0)) signer=(Wl (Ah.mk y1.1 issuer subject key id (Av.mk y2.1 0) y3.1 y4.1 authority p l (Eb.mk 0 0)) ⟨signer,Zm (Mc (Ah.mk y1.1 issuer subject key id (Av.mk y2.1 0) y3.1 y4.1 authority p l (Eb.mk 0 0))).1⟩,0):=by
   unfold cD
   have:Ge (V1 (Ah.mk y1.1 issuer subject key id (Av.mk y2.1 0) y3.1 y4.1 authority p l (Eb.mk 0 0)))=true:=hv
   rw [this,aAg hsg.1,aAg hsg.2]; rfl
  rw [e]
  have hr:=Yl (Mc (Ah.mk y1.1 issuer subject key id (Av.mk y2.1 0) y3.1 y4.1 authority p l (Eb.mk 0 0))).1
  exact Ok.ret ⟨⟨Ts hf (show Og signer by unfold Og; omega) (iE _),T1 (c:=Ah.mk y1.1 issuer subject key id (Av.mk y2.1 0) y3.1 y4.1 authority p l (Eb.mk 0 0)) hv hsg hr,h1.1,rfl,rfl,rfl,rfl,⟨h2.1,rfl⟩,h3.1,h4.1,rfl,⟨hp,hp0⟩,hl,rfl⟩,hd⟩
 have j1:∀ (p:Int) (d':Ab),p∈([3,0,1]:List Int)->(authority=false->p=0)->Hj d'->Ok (Cl.j1 issuer subject key id signer authority y1 y2 y3 y4 d' p) (fun y=>rC issuer subject key id signer authority y.1/\Hj y.2):=by
  intro p d' hp hp0 hd
  unfold Cl.j1
  refine Ok.bind (O7 hd 3 (by omega) (by omega)) fun y hy=>?_
  refine Ok.cond (fun _=>?_) fun _=>?_
  ·refine Ok.bind (xA (by omega)) fun s hs'=>?_
   refine Ok.bind (E6 (by simp)) fun l hl=>?_
   subst hl hs'
   exact j2 p y.2 _ hp hp0 hy (.inr rfl)
  ·exact j2 p y.2 _ hp hp0 hy (.inl rfl)
 cases ha:authority with
 | true=>
  rw [ha] at j1
  rw [aEw]
  refine Ok.bind (Ks h4.2 _ (by decide) (by decide)) fun y5 h5=>?_
  exact j1 _ _ h5.1 (fun h=>by cases h) h5.2
 | false=>
  rw [ha] at j1
  rw [aD6]
  exact j1 _ _ (by decide) (fun _=>rfl) h4.2
end
section
open Go
theorem oS {d:Ab} (h:Hj d) {name:ByteArray} {key:Av} {id:Int} (hs:Fm name=true) (hs31:name.size<=31) (hk:Xp key) (hid:0<=id/\id<=2147483648) :
  Ok (G2 d name key id) (fun y=>(y.1.length<=3/\(∀ c∈y.1,Ge c=true/\Px c)/\U3 key id y.1=true)/\Hj y.2):=by
 unfold G2
 refine Ok.bind (Ks h _ (by decide) (by decide)) fun y1 h1=>?_
 have hy1:0<=y1.1/\y1.1<=2:=by
  have:=h1.1
  simp only [aE7,aHp,aLl] at this
  omega
 refine Ok.bind (D4 h1.2 2 (by omega) (by omega)) fun y2 h2=>?_
 have hy2:=h2.1
 refine Ok.loop (fun s=>(0<=s.1/\s.1<=100)/\Fm s.2.1=true/\0<=s.2.2.1/\s.2.2.1<=y1.1/\Hj s.2.2.2.1/\(s.2.2.2.2.length:Int)=s.2.2.1/\∀ c∈s.2.2.2.2,Ge c=true/\Px c) (fun s=>(y1.1 - s.2.2.1).toNat) (fun s hs'=>?_) ⟨by rw [Db (by omega)]; constructor <;> omega,by show Fm ⟨#[114,111,111,116]⟩=true; decide +kernel,aO5 _,hy1.1,h2.2,rfl,fun c hc=>by cases hc⟩
 obtain⟨signer,issuer,i,d1,above⟩:=s
 obtain⟨a1,a2,a3,a4,a5,a6,a7⟩:=hs'
 dsimp only at a1 a2 a3 a4 a5 a6 a7
 show Ok (G2.l1 name key id y1 signer issuer i d1 above) _
 unfold G2.l1
 refine Ok.cond (fun hb=>?_) fun hb=>?_
 ·have hb:=aCe hb
  refine Ok.bind (Gr (by omega) (by show i < (3:Int); omega)) fun e he=>?_
  have hes:Fm e=true/\e.size<=31:=by
   simp only [aE7,aHp,aLl] at he
   rcases he with rfl | rfl | rfl <;> exact⟨by decide +kernel,by decide⟩
  have e11:W (11 + i)=11 + i:=Db (by omega)
  refine Ok.bind (jH a5 true a2 hes.1 hes.2 ⟨⟨⟨by decide,by decide⟩,⟨by decide,by decide⟩⟩,by decide +kernel⟩ (by rw [e11]; omega) (by omega)) fun y3 h3=>?_
  refine Ok.bind (E6 (by simp; omega)) fun l hl=>?_
  subst hl
  rw [Db (x:=i + 1) (by omega),e11]
  clear e11
  refine Ok.ret ⟨⟨⟨by show 0<=11 + i; omega,by show 11 + i<=100; omega⟩,hes.1,?_,?_,h3.2,?_,?_⟩,?_⟩
  ·show 0<=i + 1; omega
  ·show i + 1<=y1.1; omega
  ·show ((y3.1 :: above).length:Int)=i + 1
   rw [aIx]; omega
  ·intro c hc
   rcases aE7.1 hc with rfl | hc
   ·exact⟨h3.1.ok,h3.1.fit⟩
   ·exact a7 c hc
  ·show (y1.1 - (i + 1)).toNat < (y1.1 - i).toNat; omega
 ·have hb:=aDs hb
  refine Ok.up ?_
  refine Ok.bind (jH a5 false a2 hs hs31 hk hid (by omega)) fun y4 h4=>?_
  refine Ok.bind (E6 (by simp; omega)) fun l hl=>?_
  subst hl
  refine Ok.ret ⟨⟨?_,?_,?_⟩,h4.2⟩
  ·show ([y4.1] ++ above).length<=3
   rw [aEq,aF2]; omega
  ·intro c hc
   rcases aE7.1 hc with rfl | hc
   ·exact⟨h4.1.ok,h4.1.fit⟩
   ·exact a7 c hc
  ·show (decide (y4.1.Key=key) && decide (y4.1.KeyId=id))=true
   rw [h4.1.key_,h4.1.id_,aAg rfl,aAg rfl]; rfl
end
end Go.Proofs.YtkioneinddihlaaGreat
