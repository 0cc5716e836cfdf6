/- Plain texts, joined. No program is in sight here. -/
import Derived.Test.YtfanepojdefdpaaGreatL3
import Derived.Test.YtfanepojdefdpaaGreatK6
set_option linter.unusedVariables false
set_option linter.unusedSimpArgs false
set_option maxRecDepth 100000
namespace Go.Proofs.YtfanepojdefdpaaGreat
section
open Go
structure Sx (d:Al):Prop where
 lo:Lo d.L
 at0:0<=d.At
 at1:d.At<=d.L.length
theorem iM (e n:Int) (hn:1<=n) (hn2:n<=4611686018427387904):Ok (Kk e n) (fun y=>0<=y/\y < n):=by
 unfold Kk
 rw [aBo (by omega),aCc]
 have h1:=Int.tmod_lt_of_pos e (show 0 < n by omega)
 have h2:-n < e.tmod n:=Int.lt_tmod_of_pos e (by omega)
 have h3:=Int.tmod_lt_of_pos (e.tmod n + n) (show 0 < n by omega)
 have h4:=Int.tmod_nonneg n (show 0<=e.tmod n + n by omega)
 unfold R4
 rw [if_neg (by omega),aAo,Fx (by omega),if_neg (by omega)]
 exact⟨_,rfl,h4,h3⟩
theorem Qw {d:Al} (h:Sx d) (n:Int) (hn:1<=n) (hn2:n<=4611686018427387904):Ok (Ew d n) (fun y=>(0<=y.1/\y.1 < n)/\Sx y.2):=by
 have hl:=h.lo
 unfold Lo at hl
 have h0:=h.at0
 have h1:=h.at1
 unfold Ew
 refine Ok.cond (fun hb=>?_) fun hb=>?_
 ·exact Ok.ret ⟨⟨aHu _,by show (0:Int) < n; omega⟩,h⟩
 ·have hb:=aFs hb
  rw [Fx (x:=d.At + 1) (by omega),Fx (by omega)]
  refine Ok.bind (Oy (by omega) (by omega)) fun e he=>?_
  refine Ok.bind (iM e n hn hn2) fun y hy=>?_
  exact Ok.ret ⟨hy,⟨h.lo,by show 0<=d.At + 1; omega,by show d.At + 1<=(d.L.length:Int); omega⟩⟩
theorem Vw {d:Al} (h:Sx d) (l:List Int) (hl:1<=l.length) (hl2:l.length<=1000):Ok (C8 d l) (fun y=>y.1∈l/\Sx y.2):=by
 unfold C8
 refine Ok.bind (Qw h _ (by omega) (by omega)) fun y hy=>?_
 refine Ok.bind (fJ (by omega) (by omega)) fun e he=>?_
 exact Ok.ret ⟨he,hy.2⟩
theorem iD {d:Al} (h:Sx d) (n:Int) (hn:1<=n) (hn2:n<=1000):Ok (Gz d n) (fun y=>Sx y.2):=by
 unfold Gz
 refine Ok.bind (Qw h _ (by omega) (by omega)) fun y hy=>?_
 exact Ok.ret hy.2
def Sm (n:Int):Prop:=0<=n/\n<=100000
theorem Z8 {l:List Int} (h:l.all (fun n=>decide (0<=n) && decide (n<=100000))=true) {n:Int} (hn:n∈l):Sm n:=by
 have:=aEb.1 h n hn
 simpa [Sm] using this
theorem tG {d:Al} (h:Sx d) (a:Int):Ok (Cf d a) (fun y=>Sm y.1/\Sx y.2):=by
 have O:∀ l:List Int,1<=l.length->l.length<=1000->l.all (fun n=>decide (0<=n) && decide (n<=100000))=true->Ok ((C8 d l).bind fun y=>some (y.1,y.2)) (fun y=>Sm y.1/\Sx y.2):=fun l h1 h2 h3=>
  Ok.bind (Vw h l h1 h2) fun y hy=>Ok.ret ⟨Z8 h3 hy.1,hy.2⟩
 have j3:∀ b,Ok (Cf.j3 d b) (fun y=>Sm y.1/\Sx y.2):=fun b=>by
  unfold Cf.j3
  exact Ok.cond (fun _=>O _ (by decide) (by decide) (by decide)) fun _=>Ok.ret ⟨⟨aHu 0,by show (0:Int)<=100000; decide⟩,h⟩
 have j2:∀ b,Ok (Cf.j2 d a b) (fun y=>Sm y.1/\Sx y.2):=fun b=>by
  unfold Cf.j2
  exact Ok.cond (fun _=>O _ (by decide) (by decide) (by decide)) fun _=>Ok.cond (fun _=>O _ (by decide) (by decide) (by decide)) fun _=>Ok.cond (fun _=>O _ (by decide) (by decide) (by decide)) fun _=>Ok.cond (fun _=>O _ (by decide) (by decide) (by decide)) fun _=>Ok.cond (fun _=>O _ (by decide) (by decide) (by decide)) fun _=>Ok.cond (fun _=>j3 _) fun _=>j3 _
 have j1:∀ b,Ok (Cf.j1 d a b) (fun y=>Sm y.1/\Sx y.2):=fun b=>by
  unfold Cf.j1
  exact Ok.cond (fun _=>O _ (by decide) (by decide) (by decide)) fun _=>Ok.cond (fun _=>j2 _) fun _=>j2 _
 unfold Cf
 exact Ok.cond (fun _=>j1 _) fun _=>Ok.cond (fun _=>j1 _) fun _=>Ok.cond (fun _=>j1 _) fun _=>j1 _
def SmU (u:Aw):Prop:=Sm u.Alg/\Sm u.Bits
def Mo (n:Int):Prop:=-9223372036854775808<=n/\n<=9223372036854775807
theorem Sm.i64 {n:Int} (h:Sm n):Mo n:=by unfold Sm at h; unfold Mo; omega
def wW:Ab:=Ab.mk 0 ⟨#[]⟩ ⟨#[]⟩ (Aw.mk 0 0) 0 (Aw.mk 0 0) 0 0 false 0 [] (Ct.mk 0 0)
def Wb (c:Ab):Ab:=Ab.mk c.Serial c.Issuer c.Subject c.Key c.KeyId c.Hash c.From c.To c.Authority c.Path c.Names (Ct.mk 0 0)
def Xj (c:Ab) (s:Ct):Ab:=Ab.mk c.Serial c.Issuer c.Subject c.Key c.KeyId c.Hash c.From c.To c.Authority c.Path c.Names s
theorem iH {c:Ab} (h1:c.Names.length < 1000000000) (h2:∀ s∈c.Names,s.size<=9223372036854775807) (h3:c.Issuer.size<=9223372036854775807) (h4:c.Subject.size<=9223372036854775807)
  (a1:Mo c.Serial) (a2:Mo c.Key.Alg) (a3:Mo c.Key.Bits) (a4:Mo c.KeyId) (a5:Mo c.Hash.Alg) (a6:Mo c.Hash.Bits) (a7:Mo c.From) (a8:Mo c.To) (a9:Mo c.Path) (b1:Mo c.Seal.Key) (b2:Mo c.Seal.Sum):Lr c:=by
 refine⟨h1,h2,h3,h4,?_⟩
 intro n hn
 simp only [aE1,aF7,aH8] at hn
 rcases hn with rfl | rfl | rfl | rfl | rfl | rfl | rfl | rfl | rfl | rfl | rfl <;> assumption
structure aDt (c:Ab):Prop where
 a1:Mo c.Serial
 a2:Mo c.Key.Alg
 a3:Mo c.Key.Bits
 a4:Mo c.KeyId
 a5:Mo c.Hash.Alg
 a6:Mo c.Hash.Bits
 a7:Mo c.From
 a8:Mo c.To
 a9:Mo c.Path
 b1:Mo c.Seal.Key
 b2:Mo c.Seal.Sum
theorem Lr.is {c:Ab} (h:Lr c):aDt c:=by
 have:=h.ints
 constructor <;> exact this _ (by simp)
theorem eE:Mo 0:=⟨by decide,by decide⟩
theorem Xa {c:Ab} (h:Lr c) {s:Ct} (h1:Mo s.Key) (h2:Mo s.Sum):Lr (Xj c s):=by
 have i:=h.is
 exact iH h.names h.name h.issuer h.subject i.a1 i.a2 i.a3 i.a4 i.a5 i.a6 i.a7 i.a8 i.a9 h1 h2
theorem uS (c:Ab) (h:Lr c):Kw c=some c:=by
 unfold Kw
 have:=h.names
 rw [E2 (by simp; omega)]
 rfl
def kJ (c:Ab) (key:Int):Ab×Int:=bif Es (Wb c) && (decide (0<=key) && decide (key<=2147483648)) then (Xj c ⟨key,Zc (Mv (Wb c)).1⟩,0) else (wW,9)
theorem rH (b:List UInt8):Mo (Zc b):=aV _
theorem pW (c:Ab) (h:Lr c) (key:Int):E1 c key=some (kJ c key):=by
 have hu:Lr (Wb c):=Xa h eE eE
 unfold E1
 rw [uS c h,aAo]
 have e:Av (Ab.mk c.Serial c.Issuer c.Subject c.Key c.KeyId c.Hash c.From c.To c.Authority c.Path c.Names (Ct.mk 0 0))=some (bif Es (Wb c) then 0 else 9):=aE (Wb c) hu
 rw [e,aAo]
 have j:∀ b,E1.j1 key c b=some (bif b then (wW,9) else (Xj c ⟨key,Zc (Mv (Wb c)).1⟩,0)):=by
  intro b
  unfold E1.j1
  cases b with
  | true=>rfl
  | false=>
   rw [aCc]
   have e2:I5 (Ab.mk c.Serial c.Issuer c.Subject c.Key c.KeyId c.Hash c.From c.To c.Authority c.Path c.Names (Ct.mk 0 0))=some (Mv (Wb c)):=nS (Wb c) hu
   rw [e2,aAo,uQ _ (mN _)]
   rfl
 simp only [j]
 unfold kJ
 cases Es (Wb c) with
 | false=>rfl
 | true=>
  by_cases a:key < 0
  ·rw [aBu a,aBo (show ¬ 0<=key by omega)]; rfl
  ·rw [aBo a,aBu (show 0<=key by omega)]
   by_cases b:key<=2147483648
   ·rw [aBu b,aBo (show ¬ 2147483648 < key by omega)]; rfl
   ·rw [aBo b,aBu (show 2147483648 < key by omega)]; rfl
end
section
open Go
def fX (s:BitVec 32) (e:UInt8):BitVec 32:=(s ^^^ BitVec.ofNat 32 e.toNat) * 16777619#32
theorem vA (s:BitVec 32) (e:UInt8):IntKind.wrap .u32 ((Zg .u32 (s.toNat:Int) (IntKind.wrap .u32 (e.toNat:Int))) * 16777619)=((fX s e).toNat:Int):=by
 have he:=e.toNat_lt
 have hx:=(s ^^^ BitVec.ofNat 32 e.toNat).isLt
 have h2:Zg .u32 (s.toNat:Int) (IntKind.wrap .u32 (e.toNat:Int))=((s ^^^ BitVec.ofNat 32 e.toNat).toNat:Int):=by
  have h1:IntKind.wrap .u32 (e.toNat:Int)=(e.toNat:Int):=by rw [IntKind.wrap_u32]; omega
  rw [h1]
  show IntKind.u32.wrap ((BitVec.ofInt 32 (s.toNat:Int) ^^^ BitVec.ofInt 32 (e.toNat:Int)).toNat:Int)=_
  rw [aHr,aHr]
  have:BitVec.ofNat 32 s.toNat=s:=aIc (by rw [BitVec.toNat_ofNat]; exact aFc s.isLt)
  rw [this,IntKind.wrap_u32]
  omega
 rw [h2]
 unfold fX
 rw [BitVec.toNat_mul,IntKind.wrap_u32]
 have:(16777619#32).toNat=16777619:=rfl
 rw [this]
 omega
def aDj (b:List UInt8):BitVec 32:=b.foldl fX 2166136261#32
theorem Z6:∀ (b:List UInt8) (s:BitVec 32),b.foldl (fun (s:Int) (e:UInt8)=>IntKind.wrap .u32 ((Zg .u32 s (IntKind.wrap .u32 (e.toNat:Int))) * 16777619)) (s.toNat:Int)=((b.foldl fX s).toNat:Int)
 | [],_=>rfl
 | e :: b,s=>by rw [List.foldl_cons,vA,Z6 b]; rfl
theorem uI (b:List UInt8):Zc b=((aDj b).toNat:Int):=by
 have:=Z6 b 2166136261#32
 rw [show ((2166136261#32).toNat:Int)=2166136261 from rfl] at this
 unfold Zc
 rw [this]
 have h2:=(b.foldl fX 2166136261#32).isLt
 exact Fx (by omega)
theorem gV (b:List UInt8):0<=Zc b/\Zc b < 4294967296:=by
 have:=(aDj b).isLt
 rw [uI]; omega
end
section
open Go
theorem jL (c:Ab) (h:aX c):G2 c=some (bif Es c then 0 else 9):=by
 unfold G2
 rw [iB c h,aAo]
 cases Es c <;> rfl
def nW (id:Int):Bool:=decide (id < 0) || decide (2147483648 < id)
def Vi (key:Aw) (id:Int):List Ab->Bool
 | []=>true
 | c :: _=>decide (c.Key=key) && decide (c.KeyId=id)
def H7 (key:Aw) (id:Int) (l:List Ab):Bool:=Lf key 2 && (!nW id && (!decide (8 < (l.length:Int)) && (!l.any (fun c=>!Es c) && Vi key id l)))
theorem dQ (key:Aw) (id:Int) (l:List Ab) :
  (cond (decide ((l.length:Int)=0)) (some true) ((C4 l 0).bind fun e_2=>cond (decide (e_2.Key=key)) (some (decide (e_2.KeyId=id))) (some false)))=some (Vi key id l):=by
 cases l with
 | nil=>rfl
 | cons c l=>
  rw [aBo (by simp only [aEw]; omega),aCc]
  show cond (decide (c.Key=key)) (some (decide (c.KeyId=id))) (some false)=some (decide (c.Key=key) && decide (c.KeyId=id))
  cases decide (c.Key=key) <;> rfl
theorem lR (key:Aw) (id:Int) (l:List Ab) (hf:∀ c∈l,aX c):Bx key id l=some (H7 key id l):=by
 unfold Bx H7 Lf
 rw [Zn,aAo,fO,aAo,cH,aAo]
 have h1:Bx.j1 key id l true=some false:=rfl
 have h0:¬ (8 < (l.length:Int))->Bx.j1 key id l false=some (!l.any (fun c=>!Es c) && Vi key id l):=fun h8=>by
  unfold Bx.j1
  rw [aCc]
  refine (Yu l (fun c=>!Es c) false (Vi key id l) (Lt (by omega)) (fun i c hc=>?_) ?_).trans ?_
  ·show Bx.l2 key id l (i:Int)=_
   unfold Bx.l2
   rw [Fm hc,jL c (hf c (F5 hc)),aAo]
   cases Es c <;> rfl
  ·show Bx.l2 key id l (l.length:Int)=_
   unfold Bx.l2
   rw [D7,dQ]
   rfl
  ·cases l.any (fun c=>!Es c) <;> rfl
 cases decide (0 < Qg key) with
 | false=>rw [aFt,aEu,h1]; rfl
 | true=>
  rw [aEv,aCc]
  cases decide (Vq key.Alg=2) with
  | false=>rw [aFt,aEu,h1]; rfl
  | true=>
   rw [aEv,aCc]
   show cond (!!nW id) _ _=_
   cases nW id with
   | true=>rw [Bool.not_not,aEu,h1]; rfl
   | false=>
    rw [Bool.not_not,aCc]
    by_cases h8:8 < (l.length:Int)
    ·rw [aBu h8,h1]; rfl
    ·rw [aBo h8,h0 h8]; rfl
theorem nA (key:Aw) (id:Int) (l:List Ab) (hf:∀ c∈l,aX c):Cl key id l=some (H7 key id l):=by
 unfold Cl H7 nW
 rw [Ro,aAo]
 have h1:Cl.j1 key id l true=some false:=rfl
 have h0:¬ (8 < (l.length:Int))->Cl.j1 key id l false=some (!l.any (fun c=>!Es c) && Vi key id l):=fun h8=>by
  unfold Cl.j1
  rw [aCc]
  refine (Yu l (fun c=>!Es c) false (Vi key id l) (Lt (by omega)) (fun i c hc=>?_) ?_).trans ?_
  ·show Cl.l2 key id l (i:Int)=_
   unfold Cl.l2
   rw [Fm hc,Yh c (hf c (F5 hc)),aAo]
   cases Es c <;> rfl
  ·show Cl.l2 key id l (l.length:Int)=_
   unfold Cl.l2
   rw [D7,dQ]
   rfl
  ·cases l.any (fun c=>!Es c) <;> rfl
 cases Lf key 2 with
 | false=>rw [aFt,aEu,h1]; rfl
 | true=>
  rw [aEv,aCc]
  cases decide (id < 0) with
  | true=>rw [aEu,h1]; rfl
  | false=>
   rw [aCc]
   cases decide (2147483648 < id) with
   | true=>rw [aEu,h1]; rfl
   | false=>
    rw [aCc]
    by_cases h8:8 < (l.length:Int)
    ·rw [aBu h8,h1]; rfl
    ·rw [aBo h8,h0 h8]; rfl
end
section
open Go
theorem qA {a:Int} {l:List Int} (h:l.all (fun b=>Lf ⟨a,b⟩ 2)=true) {b:Int} (hb:b∈l):Lf ⟨a,b⟩ 2=true:=aEb.1 h b hb
def aBa (u:Aw):Prop:=SmU u/\Lf u 2=true
theorem vX {d:Al} (h:Sx d):Ok (M6 d) (fun y=>aBa y.1/\Sx y.2):=by
 unfold M6
 refine Ok.bind (Vw h _ (by decide) (by decide)) fun y hy=>?_
 obtain⟨a,d1⟩:=y
 obtain⟨ha,hd⟩:=hy
 have hsz:=tG hd a
 have hsa:Sm a:=Z8 (by decide) ha
 have O:∀ l:List Int,1<=l.length->l.length<=1000->l.all (fun b=>Lf ⟨a,b⟩ 2)=true->Ok ((C8 d1 l).bind fun y=>some (y.1,y.2)) (fun y=>Lf ⟨a,y.1⟩ 2=true):=fun l h1 h2 h3=>
  Ok.bind (Vw hd l h1 h2) fun y hy=>Ok.ret (qA h3 hy.1)
 have key:Ok (Cf d1 a) (fun y=>Lf ⟨a,y.1⟩ 2=true):=by
  simp only [aE1,aF7,aH8] at ha
  rcases ha with rfl | rfl | rfl | rfl | rfl | rfl
  ·exact O [2048,1024,512,3072,1023,4096,16384] (by decide) (by decide) (by decide)
  ·exact O [256,160,224,384,521] (by decide) (by decide) (by decide)
  ·exact O [2048,1024,512,3072,1023,4096,16384] (by decide) (by decide) (by decide)
  ·exact O [2048,1024,512,3072,1023,4096,16384] (by decide) (by decide) (by decide)
  ·exact Ok.ret (a:=((0:Int),d1)) (show Lf ⟨8,0⟩ 2=true by decide)
  ·exact O [65,44,87] (by decide) (by decide) (by decide)
 refine Ok.bind (hsz.and key) fun z hz=>Ok.ret ⟨⟨⟨hsa,hz.1.1⟩,hz.2⟩,hz.1.2⟩
theorem Xs (a b:ByteArray):J7 (a ++ b)=J7 a ++ J7 b:=by
 unfold J7
 rw [ByteArray.data_append,Array.toList_append]
theorem Xo:∀ (a:List UInt8) (x:UInt8) (b:List UInt8),Q3 a (a ++ x :: b)=true
 | [],_,_=>rfl
 | y :: a,x,b=>by
  show (decide (y < y) || (y == y && Q3 a (a ++ x :: b)))=true
  rw [Xo a x b]; simp
theorem vW {s:ByteArray} (h:Fq s=true) (hs:s.size<=31):Fq (s ++ ⟨#[120]⟩)=true:=by
 unfold Fq at *
 rw [Xs,aIb,List.any_append]
 have h1:(⟨#[120]⟩:ByteArray).size=1:=rfl
 simp only [aCe,aFz,aF0] at h ⊢
 refine⟨⟨by omega,by omega⟩,?_⟩
 rw [h.2]
 decide
theorem rB {s:ByteArray} (h:Fq s=true):Kv [s]=true:=by
 have e:Kv [s]=!(!Fq s || false || false):=rfl
 rw [e,h]; rfl
theorem sH {s t:ByteArray} (h:Fq s=true) (h2:Fq t=true) (h3:Q3 (J7 s) (J7 t)=true):Kv [s,t]=true:=by
 have e:Kv [s,t]=!((!Fq s || false) || ((!Fq t || (true && !Q3 (J7 s) (J7 t))) || false)):=rfl
 rw [e,h,h2,h3]; rfl
theorem Zu {c:Ab}:Es c=true↔((0<=c.Serial/\c.Serial<=1099511627776)/\Fq c.Issuer=true/\Fq c.Subject=true/\Kv c.Names=true/\(c.Names.length:Int)<=8/\Lf c.Key 2=true/\(0<=c.KeyId/\c.KeyId<=2147483648)/\Lf c.Hash 1=true/\(0<=c.Seal.Key/\c.Seal.Key<=2147483648)/\(0<=c.Seal.Sum/\c.Seal.Sum < 4294967296)/\(0<=c.From/\c.From<=c.To/\c.To<=40000)/\(0<=c.Path/\c.Path<=8)/\(c.Authority=true\/c.Path=0)):=by
 unfold Es Q2
 simp only [aGo,aIp,id,aF0,aGt,aGh,aH3,aId,aFz,Bool.or_false]
 constructor
 ·rintro⟨h1,h2,h3,h4,h5,h6,h7,h8,h9,h10,h11,h12,h13,h14,h15,h16,h17,h18,h19,h20⟩
  exact⟨⟨by omega,by omega⟩,h3,h4,h5,by omega,h7,⟨by omega,by omega⟩,h10,⟨by omega,by omega⟩,⟨by omega,by omega⟩,⟨by omega,by omega,by omega⟩,⟨by omega,by omega⟩,h20⟩
 ·rintro⟨⟨h1,h2⟩,h3,h4,h5,h6,h7,⟨h8,h9⟩,h10,⟨h11,h12⟩,⟨h13,h14⟩,⟨h15,h16,h17⟩,⟨h18,h19⟩,h20⟩
  exact⟨by omega,by omega,h3,h4,h5,by omega,h7,by omega,by omega,h10,by omega,by omega,by omega,by omega,by omega,by omega,by omega,by omega,by omega,h20⟩
theorem bO {c:Ab} (h:Es (Wb c)=true) {s:Ct} (h1:0<=s.Key/\s.Key<=2147483648) (h2:0<=s.Sum/\s.Sum < 4294967296):Es (Xj c s)=true:=by
 rw [Zu] at h ⊢
 obtain⟨a1,a2,a3,a4,a5,a6,a7,a8,-,-,a11,a12,a13⟩:=h
 exact⟨a1,a2,a3,a4,a5,a6,a7,a8,h1,h2,a11,a12,a13⟩
theorem aEj:(0:Int)<=0/\(0:Int)<=2147483648:=by omega
theorem aD5:(0:Int)<=0/\(0:Int) < 4294967296:=by omega
structure rZ (issuer subject:ByteArray) (key:Aw) (id signer:Int) (authority:Bool) (c:Ab):Prop where
 fit:Lr c
 ok:Es c=true
 serial:0<=c.Serial/\c.Serial < 1000
 issuer_:c.Issuer=issuer
 subject_:c.Subject=subject
 key_:c.Key=key
 id_:c.KeyId=id
 hash:c.Hash.Alg∈([3,2,4,1]:List Int)/\c.Hash.Bits=0
 from_:c.From∈([0,5,10]:List Int)
 to_:c.To∈([1000,100,50,20]:List Int)
 auth:c.Authority=authority
 path:c.Path∈([3,0,1]:List Int)/\(authority=false->c.Path=0)
 names:c.Names=[subject]\/c.Names=[subject,subject ++ ⟨#[120]⟩]
 seal_:c.Seal=⟨signer,Zc (Mv (Wb c)).1⟩
theorem dR {d:Al} (h:Sx d) {issuer subject:ByteArray} {key:Aw} {id signer:Int} (authority:Bool) (hi:Fq issuer=true) (hs:Fq subject=true) (hs31:subject.size<=31) (hk:aBa key) (hid:0<=id/\id<=2147483648) (hsg:0<=signer/\signer<=2147483648):Ok (Bw d issuer subject key id signer authority) (fun y=>rZ issuer subject key id signer authority y.1/\Sx y.2):=by
 have hi32:=Lg hi
 unfold Bw
 refine Ok.bind (Qw h 1000 (by omega) (by omega)) fun y1 h1=>?_
 refine Ok.bind (Vw h1.2 _ (by decide) (by decide)) fun y2 h2=>?_
 refine Ok.bind (Vw h2.2 _ (by decide) (by decide)) fun y3 h3=>?_
 refine Ok.bind (Vw h3.2 _ (by decide) (by decide)) fun y4 h4=>?_
 have i2:=(Z8 (by decide) h2.1).i64
 have i3:=(Z8 (by decide) h3.1).i64
 have i4:=(Z8 (by decide) h4.1).i64
 have i1:Mo y1.1:=by have:=h1.1; unfold Mo; omega
 have hx1:(⟨#[120]⟩:ByteArray).size=1:=rfl
 have j2:∀ (p:Int) (d':Al) (l:List ByteArray),p∈([3,0,1]:List Int)->(authority=false->p=0)->Sx d'->(l=[subject]\/l=[subject,subject ++ ⟨#[120]⟩])->Ok (Bw.j2 issuer subject key id signer authority y1 y2 y3 y4 p d' l) (fun y=>rZ issuer subject key id signer authority y.1/\Sx y.2):=by
  intro p d' l hp hp0 hd hl
  have ip:Mo p:=(Z8 (by decide) hp).i64
  have ll:l.length<=2:=by rcases hl with rfl | rfl <;> simp
  have ln:∀ s∈l,s.size<=2000:=by
   rcases hl with rfl | rfl
   ·intro s hs; rw [aDv.1 hs]; omega
   ·intro s hs
    simp only [aE1,aF7,aH8] at hs
    rcases hs with rfl | rfl
    ·omega
    ·rw [aIb]; omega
  unfold Bw.j2
  have hf:Lr (Ab.mk y1.1 issuer subject key id (Aw.mk y2.1 0) y3.1 y4.1 authority p l (Ct.mk 0 0)):=iH (by show l.length < 1000000000; omega) (fun s hs=>by have:=ln s hs; omega) (by show issuer.size<=_; omega) (by show subject.size<=_; omega) i1 hk.1.1.i64 hk.1.2.i64 (show Mo id by unfold Mo; omega) i2 eE i3 i4 ip eE eE
  have hv:Es (Ab.mk y1.1 issuer subject key id (Aw.mk y2.1 0) y3.1 y4.1 authority p l (Ct.mk 0 0))=true:=by
   rw [Zu]
   have t1:=h1.1
   refine⟨⟨t1.1,by dsimp only; omega⟩,hi,hs,?_,by dsimp only; omega,hk.2,hid,?_,aEj,aD5,?_,?_,?_⟩
   ·rcases hl with rfl | rfl
    ·exact rB hs
    ·exact sH hs (vW hs hs31) (by rw [Xs]; exact Xo _ 120 [])
   ·have:([3,2,4,1]:List Int).all (fun a=>Lf ⟨a,0⟩ 1)=true:=by decide
    exact aEb.1 this _ h2.1
   ·have t3:=h3.1
    have t4:=h4.1
    simp only [aE1,aF7,aH8] at t3 t4
    dsimp only
    omega
   ·simp only [aE1,aF7,aH8] at hp
    dsimp only
    omega
   ·cases ha:authority with
    | true=>exact .inl rfl
    | false=>exact .inr (hp0 ha)
  refine Ok.bindE (pW _ hf signer) ?_
  have e:kJ (Ab.mk y1.1 issuer subject key id (Aw.mk y2.1 0) y3.1 y4.1 authority p l (Ct.mk 0 0)) signer=(Xj (Ab.mk y1.1 issuer subject key id (Aw.mk y2.1 0) y3.1 y4.1 authority p l (Ct.mk 0 0)) ⟨signer,Zc (Mv (Ab.mk y1.1 issuer subject key id (Aw.mk y2.1 0) y3.1 y4.1 authority p l (Ct.mk 0 0))).1⟩,0):=by
   unfold kJ
   have:Es (Wb (Ab.mk y1.1 issuer subject key id (Aw.mk y2.1 0) y3.1 y4.1 authority p l (Ct.mk 0 0)))=true:=hv
   rw [this,aBu hsg.1,aBu hsg.2]; rfl
  rw [e]
  have hr:=gV (Mv (Ab.mk y1.1 issuer subject key id (Aw.mk y2.1 0) y3.1 y4.1 authority p l (Ct.mk 0 0))).1
  exact Ok.ret ⟨⟨Xa hf (show Mo signer by unfold Mo; omega) (rH _),bO (c:=Ab.mk y1.1 issuer subject key id (Aw.mk y2.1 0) y3.1 y4.1 authority p l (Ct.mk 0 0)) hv hsg hr,h1.1,rfl,rfl,rfl,rfl,⟨h2.1,rfl⟩,h3.1,h4.1,rfl,⟨hp,hp0⟩,hl,rfl⟩,hd⟩
 have j1:∀ (p:Int) (d':Al),p∈([3,0,1]:List Int)->(authority=false->p=0)->Sx d'->Ok (Bw.j1 issuer subject key id signer authority y1 y2 y3 y4 d' p) (fun y=>rZ issuer subject key id signer authority y.1/\Sx y.2):=by
  intro p d' hp hp0 hd
  unfold Bw.j1
  refine Ok.bind (iD hd 3 (by omega) (by omega)) fun y hy=>?_
  refine Ok.cond (fun _=>?_) fun _=>?_
  ·refine Ok.bind (tV (by omega)) fun s hs'=>?_
   refine Ok.bind (Jr (by simp)) fun l hl=>?_
   subst hl hs'
   exact j2 p y.2 _ hp hp0 hy (.inr rfl)
  ·exact j2 p y.2 _ hp hp0 hy (.inl rfl)
 cases ha:authority with
 | true=>
  rw [ha] at j1
  rw [aEu]
  refine Ok.bind (Vw h4.2 _ (by decide) (by decide)) fun y5 h5=>?_
  exact j1 _ _ h5.1 (fun h=>by cases h) h5.2
 | false=>
  rw [ha] at j1
  rw [aCc]
  exact j1 _ _ (by decide) (fun _=>rfl) h4.2
end
section
open Go
theorem nE {d:Al} (h:Sx d) {name:ByteArray} {key:Aw} {id:Int} (hs:Fq name=true) (hs31:name.size<=31) (hk:aBa key) (hid:0<=id/\id<=2147483648) :
  Ok (F8 d name key id) (fun y=>(y.1.length<=3/\(∀ c∈y.1,Es c=true/\Lr c)/\Vi key id y.1=true)/\Sx y.2):=by
 unfold F8
 refine Ok.bind (Vw h _ (by decide) (by decide)) fun y1 h1=>?_
 have hy1:0<=y1.1/\y1.1<=2:=by
  have:=h1.1
  simp only [aE1,aF7,aH8] at this
  omega
 refine Ok.bind (Qw h1.2 2 (by omega) (by omega)) fun y2 h2=>?_
 have hy2:=h2.1
 refine Ok.loop (fun s=>(0<=s.1/\s.1<=100)/\Fq s.2.1=true/\0<=s.2.2.1/\s.2.2.1<=y1.1/\Sx s.2.2.2.1/\(s.2.2.2.2.length:Int)=s.2.2.1/\∀ c∈s.2.2.2.2,Es c=true/\Lr c) (fun s=>(y1.1 - s.2.2.1).toNat) (fun s hs'=>?_) ⟨by rw [Fx (by omega)]; constructor <;> omega,by show Fq ⟨#[114,111,111,116]⟩=true; decide +kernel,aHu _,hy1.1,h2.2,rfl,fun c hc=>by cases hc⟩
 obtain⟨signer,issuer,i,d1,above⟩:=s
 obtain⟨a1,a2,a3,a4,a5,a6,a7⟩:=hs'
 dsimp only at a1 a2 a3 a4 a5 a6 a7
 show Ok (F8.l1 name key id y1 signer issuer i d1 above) _
 unfold F8.l1
 refine Ok.cond (fun hb=>?_) fun hb=>?_
 ·have hb:=aE4 hb
  refine Ok.bind (fJ (by omega) (by show i < (3:Int); omega)) fun e he=>?_
  have hes:Fq e=true/\e.size<=31:=by
   simp only [aE1,aF7,aH8] at he
   rcases he with rfl | rfl | rfl <;> exact⟨by decide +kernel,by decide⟩
  have e11:W (11 + i)=11 + i:=Fx (by omega)
  refine Ok.bind (dR a5 true a2 hes.1 hes.2 ⟨⟨⟨by decide,by decide⟩,⟨by decide,by decide⟩⟩,by decide +kernel⟩ (by rw [e11]; omega) (by omega)) fun y3 h3=>?_
  refine Ok.bind (Jr (by simp; omega)) fun l hl=>?_
  subst hl
  rw [Fx (x:=i + 1) (by omega),e11]
  clear e11
  refine Ok.ret ⟨⟨⟨by show 0<=11 + i; omega,by show 11 + i<=100; omega⟩,hes.1,?_,?_,h3.2,?_,?_⟩,?_⟩
  ·show 0<=i + 1; omega
  ·show i + 1<=y1.1; omega
  ·show ((y3.1 :: above).length:Int)=i + 1
   rw [aEw]; omega
  ·intro c hc
   rcases aE1.1 hc with rfl | hc
   ·exact⟨h3.1.ok,h3.1.fit⟩
   ·exact a7 c hc
  ·show (y1.1 - (i + 1)).toNat < (y1.1 - i).toNat; omega
 ·have hb:=aFs hb
  refine Ok.up ?_
  refine Ok.bind (dR a5 false a2 hs hs31 hk hid (by omega)) fun y4 h4=>?_
  refine Ok.bind (Jr (by simp; omega)) fun l hl=>?_
  subst hl
  refine Ok.ret ⟨⟨?_,?_,?_⟩,h4.2⟩
  ·show ([y4.1] ++ above).length<=3
   rw [aDw,aEd]; omega
  ·intro c hc
   rcases aE1.1 hc with rfl | hc
   ·exact⟨h4.1.ok,h4.1.fit⟩
   ·exact a7 c hc
  ·show (decide (y4.1.Key=key) && decide (y4.1.KeyId=id))=true
   rw [h4.1.key_,h4.1.id_,aBu rfl,aBu rfl]; rfl
theorem eO {key:Aw} {id:Int} {l:List Ab} (hk:Lf key 2=true) (hid:0<=id/\id<=2147483648) (hl:l.length<=8) (hc:∀ c∈l,Es c=true) (hh:Vi key id l=true):H7 key id l=true:=by
 unfold H7 nW
 have h1:(l.any fun c=>!Es c)=false:=aGv.2 fun c h=>by rw [hc c h]; simp
 rw [hk,aBo (show ¬ id < 0 by omega),aBo (show ¬ 2147483648 < id by omega),aBo (show ¬ 8 < (l.length:Int) by omega),h1,hh]
 rfl
end
end Go.Proofs.YtfanepojdefdpaaGreat
