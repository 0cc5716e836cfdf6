/- Plain texts, joined. No program is in sight here. -/
import Derived.Test.YtobamahlipiakaaGreatL3
import Derived.Test.YtobamahlipiakaaGreatK6
set_option linter.unusedVariables false
set_option linter.unusedSimpArgs false
set_option maxRecDepth 100000
namespace Go.Proofs.YtobamahlipiakaaGreat
section
open Go
structure L5 (d:Ad):Prop where
 lo:Lo d.L
 at0:0<=d.At
 at1:d.At<=d.L.length
theorem aM4 (e n:Int) (hn:1<=n) (hn2:n<=4611686018427387904):Ok (Q0 e n) (fun y=>0<=y/\y < n):=by
 unfold Q0
 rw [aAw (by omega),aDb]
 have h1:=bA6 e (show 0 < n by omega)
 have h2:-n < e.tmod n:=Int.lt_tmod_of_pos e (by omega)
 have h3:=bA6 (e.tmod n + n) (show 0 < n by omega)
 have h4:=bA4 n (show 0<=e.tmod n + n by omega)
 unfold Vk
 rw [if_neg (by omega),aAg,Ej (by omega),if_neg (by omega)]
 exact⟨_,rfl,h4,h3⟩
theorem Hh {d:Ad} (h:L5 d) (n:Int) (hn:1<=n) (hn2:n<=4611686018427387904):Ok (Cg d n) (fun y=>(0<=y.1/\y.1 < n)/\L5 y.2):=by
 have hl:=h.lo
 unfold Lo at hl
 have h0:=h.at0
 have h1:=h.at1
 unfold Cg
 refine Ok.cond (fun hb=>?_) fun hb=>?_
 ·exact Ok.ret ⟨⟨aXi _,by show (0:Int) < n; omega⟩,h⟩
 ·have hb:=aJb hb
  rw [Ej (x:=d.At + 1) (by omega),Ej (by omega)]
  refine Ok.bind (Rv (by omega) (by omega)) fun e he=>?_
  refine Ok.bind (aM4 e n hn hn2) fun y hy=>?_
  exact Ok.ret ⟨hy,⟨h.lo,by show 0<=d.At + 1; omega,by show d.At + 1<=(d.L.length:Int); omega⟩⟩
theorem Io {d:Ad} (h:L5 d) (l:List Int) (hl:1<=l.length) (hl2:l.length<=1000):Ok (Bs d l) (fun y=>y.1∈l/\L5 y.2):=by
 unfold Bs
 refine Ok.bind (Hh h _ (by omega) (by omega)) fun y hy=>?_
 refine Ok.bind (Pl (by omega) (by omega)) fun e he=>?_
 exact Ok.ret ⟨he,hy.2⟩
theorem aHg {d:Ad} (h:L5 d) (l:List ByteArray) (hl:1<=l.length) (hl2:l.length<=1000):Ok (Ko d l) (fun y=>y.1∈l/\L5 y.2):=by
 unfold Ko
 refine Ok.bind (Hh h _ (by omega) (by omega)) fun y hy=>?_
 refine Ok.bind (Pl (by omega) (by omega)) fun e he=>?_
 exact Ok.ret ⟨he,hy.2⟩
theorem Q7 {d:Ad} (h:L5 d) (n:Int) (hn:1<=n) (hn2:n<=1000):Ok (E7 d n) (fun y=>L5 y.2):=by
 unfold E7
 refine Ok.bind (Hh h _ (by omega) (by omega)) fun y hy=>?_
 exact Ok.ret hy.2
def Sm (n:Int):Prop:=0<=n/\n<=100000
theorem bT {l:List Int} (h:l.all (fun n=>decide (0<=n) && decide (n<=100000))=true) {n:Int} (hn:n∈l):Sm n:=by
 have:=aH8.1 h n hn
 simpa [Sm] using this
theorem aGg {d:Ad} (h:L5 d) (a:Int):Ok (C9 d a) (fun y=>Sm y.1/\L5 y.2):=by
 have O:∀ l:List Int,1<=l.length->l.length<=1000->l.all (fun n=>decide (0<=n) && decide (n<=100000))=true->Ok ((Bs d l).bind fun y=>some (y.1,y.2)) (fun y=>Sm y.1/\L5 y.2):=fun l h1 h2 h3=>
  Ok.bind (Io h l h1 h2) fun y hy=>Ok.ret ⟨bT h3 hy.1,hy.2⟩
 have j3:∀ b,Ok (C9.j3 d b) (fun y=>Sm y.1/\L5 y.2):=fun b=>by
  unfold C9.j3
  exact Ok.cond (fun _=>O _ (by decide) (by decide) (by decide)) fun _=>Ok.ret ⟨⟨aXi 0,by show (0:Int)<=100000; decide⟩,h⟩
 have j2:∀ b,Ok (C9.j2 d a b) (fun y=>Sm y.1/\L5 y.2):=fun b=>by
  unfold C9.j2
  exact Ok.cond (fun _=>O _ (by decide) (by decide) (by decide)) fun _=>Ok.cond (fun _=>O _ (by decide) (by decide) (by decide)) fun _=>Ok.cond (fun _=>O _ (by decide) (by decide) (by decide)) fun _=>Ok.cond (fun _=>O _ (by decide) (by decide) (by decide)) fun _=>Ok.cond (fun _=>O _ (by decide) (by decide) (by decide)) fun _=>Ok.cond (fun _=>j3 _) fun _=>j3 _
 have j1:∀ b,Ok (C9.j1 d a b) (fun y=>Sm y.1/\L5 y.2):=fun b=>by
  unfold C9.j1
  exact Ok.cond (fun _=>O _ (by decide) (by decide) (by decide)) fun _=>Ok.cond (fun _=>j2 _) fun _=>j2 _
 unfold C9
 exact Ok.cond (fun _=>j1 _) fun _=>Ok.cond (fun _=>j1 _) fun _=>Ok.cond (fun _=>j1 _) fun _=>j1 _
def SmU (u:Ao):Prop:=Sm u.Alg/\Sm u.Bits
def Vm (n:Int):Prop:=-9223372036854775808<=n/\n<=9223372036854775807
theorem Sm.i64 {n:Int} (h:Sm n):Vm n:=by unfold Sm at h; unfold Vm; omega
def aJl:Ae:=Ae.mk 0 ⟨#[]⟩ ⟨#[]⟩ (Ao.mk 0 0) 0 (Ao.mk 0 0) 0 0 false 0 [] (Be.mk 0 0)
def cV (c:Ae):Ae:=Ae.mk c.Serial c.Issuer c.Subject c.Key c.KeyId c.Hash c.From c.To c.Authority c.Path c.Names (Be.mk 0 0)
def fD (c:Ae) (s:Be):Ae:=Ae.mk c.Serial c.Issuer c.Subject c.Key c.KeyId c.Hash c.From c.To c.Authority c.Path c.Names s
theorem aE4 {c:Ae} (h1:c.Names.length < 1000000000) (h2:∀ s∈c.Names,s.size<=9223372036854775807) (h3:c.Issuer.size<=9223372036854775807) (h4:c.Subject.size<=9223372036854775807)
  (a1:Vm c.Serial) (a2:Vm c.Key.Alg) (a3:Vm c.Key.Bits) (a4:Vm c.KeyId) (a5:Vm c.Hash.Alg) (a6:Vm c.Hash.Bits) (a7:Vm c.From) (a8:Vm c.To) (a9:Vm c.Path) (b1:Vm c.Seal.Key) (b2:Vm c.Seal.Sum):Nl c:=by
 refine⟨h1,h2,h3,h4,?_⟩
 intro n hn
 simp only [aF2,aF6,aQe] at hn
 rcases hn with rfl | rfl | rfl | rfl | rfl | rfl | rfl | rfl | rfl | rfl | rfl <;> assumption
structure aQ9 (c:Ae):Prop where
 a1:Vm c.Serial
 a2:Vm c.Key.Alg
 a3:Vm c.Key.Bits
 a4:Vm c.KeyId
 a5:Vm c.Hash.Alg
 a6:Vm c.Hash.Bits
 a7:Vm c.From
 a8:Vm c.To
 a9:Vm c.Path
 b1:Vm c.Seal.Key
 b2:Vm c.Seal.Sum
theorem Nl.is {c:Ae} (h:Nl c):aQ9 c:=by
 have:=h.ints
 constructor <;> exact this _ (by simp)
theorem tO:Vm 0:=⟨by decide,by decide⟩
theorem gL {c:Ae} (h:Nl c) {s:Be} (h1:Vm s.Key) (h2:Vm s.Sum):Nl (fD c s):=by
 have i:=h.is
 exact aE4 h.names h.name h.issuer h.subject i.a1 i.a2 i.a3 i.a4 i.a5 i.a6 i.a7 i.a8 i.a9 h1 h2
theorem xR (c:Ae) (h:Nl c):M0 c=some c:=by
 unfold M0
 have:=h.names
 rw [D1 (by simp; omega)]
 rfl
def wP (c:Ae) (key:Int):Ae×Int:=bif F6 (cV c) && (decide (0<=key) && decide (key<=2147483648)) then (fD c ⟨key,Ih (L1 (cV c)).1⟩,0) else (aJl,9)
theorem aD6 (b:List UInt8):Vm (Ih b):=xZ _
theorem aBl (c:Ae) (h:Nl c) (key:Int):Gv c key=some (wP c key):=by
 have hu:Nl (cV c):=gL h tO tO
 unfold Gv
 rw [xR c h,aAg]
 have e:Bb (Ae.mk c.Serial c.Issuer c.Subject c.Key c.KeyId c.Hash c.From c.To c.Authority c.Path c.Names (Be.mk 0 0))=some (bif F6 (cV c) then 0 else 9):=Z3 (cV c) hu
 rw [e,aAg]
 have j:∀ b,Gv.j1 key c b=some (bif b then (aJl,9) else (fD c ⟨key,Ih (L1 (cV c)).1⟩,0)):=by
  intro b
  unfold Gv.j1
  cases b with
  | true=>rfl
  | false=>
   rw [aDb]
   have e2:Jz (Ae.mk c.Serial c.Issuer c.Subject c.Key c.KeyId c.Hash c.From c.To c.Authority c.Path c.Names (Be.mk 0 0))=some (L1 (cV c)):=lA (cV c) hu
   rw [e2,aAg,dM _ (aT _)]
   rfl
 simp only [j]
 unfold wP
 cases F6 (cV c) with
 | false=>rfl
 | true=>
  by_cases a:key < 0
  ·rw [aA4 a,aAw (show ¬ 0<=key by omega)]; rfl
  ·rw [aAw a,aA4 (show 0<=key by omega)]
   by_cases b:key<=2147483648
   ·rw [aA4 b,aAw (show ¬ 2147483648 < key by omega)]; rfl
   ·rw [aAw b,aA4 (show 2147483648 < key by omega)]; rfl
end
section
open Go
def rB (s:BitVec 32) (e:UInt8):BitVec 32:=(s ^^^ BitVec.ofNat 32 e.toNat) * 16777619#32
theorem aH0 (s:BitVec 32) (e:UInt8):IntKind.wrap .u32 ((Sr .u32 (s.toNat:Int) (IntKind.wrap .u32 (e.toNat:Int))) * 16777619)=((rB s e).toNat:Int):=by
 have he:=e.toNat_lt
 have hx:=(s ^^^ BitVec.ofNat 32 e.toNat).isLt
 have h2:Sr .u32 (s.toNat:Int) (IntKind.wrap .u32 (e.toNat:Int))=((s ^^^ BitVec.ofNat 32 e.toNat).toNat:Int):=by
  have h1:IntKind.wrap .u32 (e.toNat:Int)=(e.toNat:Int):=by rw [IntKind.wrap_u32]; omega
  rw [h1]
  show IntKind.u32.wrap ((BitVec.ofInt 32 (s.toNat:Int) ^^^ BitVec.ofInt 32 (e.toNat:Int)).toNat:Int)=_
  rw [BitVec.ofInt_natCast,BitVec.ofInt_natCast]
  have:BitVec.ofNat 32 s.toNat=s:=BitVec.eq_of_toNat_eq (by rw [BitVec.toNat_ofNat]; exact bAl s.isLt)
  rw [this,IntKind.wrap_u32]
  omega
 rw [h2]
 unfold rB
 rw [BitVec.toNat_mul,IntKind.wrap_u32]
 have:(16777619#32).toNat=16777619:=rfl
 rw [this]
 omega
def aQw (b:List UInt8):BitVec 32:=b.foldl rB 2166136261#32
theorem mV:∀ (b:List UInt8) (s:BitVec 32),b.foldl (fun (s:Int) (e:UInt8)=>IntKind.wrap .u32 ((Sr .u32 s (IntKind.wrap .u32 (e.toNat:Int))) * 16777619)) (s.toNat:Int)=((b.foldl rB s).toNat:Int)
 | [],_=>rfl
 | e :: b,s=>by rw [aTi,aH0,mV b]; rfl
theorem aGo (b:List UInt8):Ih b=((aQw b).toNat:Int):=by
 have:=mV b 2166136261#32
 rw [show ((2166136261#32).toNat:Int)=2166136261 from rfl] at this
 unfold Ih
 rw [this]
 have h2:=(b.foldl rB 2166136261#32).isLt
 exact Ej (by omega)
theorem Xz (b:List UInt8):0<=Ih b/\Ih b < 4294967296:=by
 have:=(aQw b).isLt
 rw [aGo]; omega
end
section
open Go
theorem vE (c:Ae) (h:cR c):Gh c=some (bif F6 c then 0 else 9):=by
 unfold Gh
 rw [iD c h,aAg]
 cases F6 c <;> rfl
def aFf (id:Int):Bool:=decide (id < 0) || decide (2147483648 < id)
def Zu (key:Ao) (id:Int):List Ae->Bool
 | []=>true
 | c :: _=>decide (c.Key=key) && decide (c.KeyId=id)
def Qx (key:Ao) (id:Int) (l:List Ae):Bool:=O8 key 2 && (!aFf id && (!decide (8 < (l.length:Int)) && (!l.any (fun c=>!F6 c) && Zu key id l)))
theorem qR (key:Ao) (id:Int) (l:List Ae) :
  (cond (decide ((l.length:Int)=0)) (some true) ((Bm l 0).bind fun e_2=>cond (decide (e_2.Key=key)) (some (decide (e_2.KeyId=id))) (some false)))=some (Zu key id l):=by
 cases l with
 | nil=>rfl
 | cons c l=>
  rw [aAw (by simp only [aJw]; omega),aDb]
  show cond (decide (c.Key=key)) (some (decide (c.KeyId=id))) (some false)=some (decide (c.Key=key) && decide (c.KeyId=id))
  cases decide (c.Key=key) <;> rfl
theorem yT (key:Ao) (id:Int) (l:List Ae) (hf:∀ c∈l,cR c):C5 key id l=some (Qx key id l):=by
 unfold C5 Qx O8
 rw [Sw,aAg,gU,aAg,dW,aAg]
 have h1:C5.j1 key id l true=some false:=rfl
 have h0:¬ (8 < (l.length:Int))->C5.j1 key id l false=some (!l.any (fun c=>!F6 c) && Zu key id l):=fun h8=>by
  unfold C5.j1
  rw [aDb]
  refine (M7 l (fun c=>!F6 c) false (Zu key id l) (Im (by omega)) (fun i c hc=>?_) ?_).trans ?_
  ·show C5.l2 key id l (i:Int)=_
   unfold C5.l2
   rw [Dz hc,vE c (hf c (Fr hc)),aAg]
   cases F6 c <;> rfl
  ·show C5.l2 key id l (l.length:Int)=_
   unfold C5.l2
   rw [Cy,qR]
   rfl
  ·cases l.any (fun c=>!F6 c) <;> rfl
 cases decide (0 < H8 key) with
 | false=>rw [aR0,aEa,h1]; rfl
 | true=>
  rw [aHl,aDb]
  cases decide (Ur key.Alg=2) with
  | false=>rw [aR0,aEa,h1]; rfl
  | true=>
   rw [aHl,aDb]
   show cond (!!aFf id) _ _=_
   cases aFf id with
   | true=>rw [bBq,aEa,h1]; rfl
   | false=>
    rw [bBq,aDb]
    by_cases h8:8 < (l.length:Int)
    ·rw [aA4 h8,h1]; rfl
    ·rw [aAw h8,h0 h8]; rfl
theorem aAs (key:Ao) (id:Int) (l:List Ae) (hf:∀ c∈l,cR c):Dy key id l=some (Qx key id l):=by
 unfold Dy Qx aFf
 rw [W7,aAg]
 have h1:Dy.j1 key id l true=some false:=rfl
 have h0:¬ (8 < (l.length:Int))->Dy.j1 key id l false=some (!l.any (fun c=>!F6 c) && Zu key id l):=fun h8=>by
  unfold Dy.j1
  rw [aDb]
  refine (M7 l (fun c=>!F6 c) false (Zu key id l) (Im (by omega)) (fun i c hc=>?_) ?_).trans ?_
  ·show Dy.l2 key id l (i:Int)=_
   unfold Dy.l2
   rw [Dz hc,fK c (hf c (Fr hc)),aAg]
   cases F6 c <;> rfl
  ·show Dy.l2 key id l (l.length:Int)=_
   unfold Dy.l2
   rw [Cy,qR]
   rfl
  ·cases l.any (fun c=>!F6 c) <;> rfl
 cases O8 key 2 with
 | false=>rw [aR0,aEa,h1]; rfl
 | true=>
  rw [aHl,aDb]
  cases decide (id < 0) with
  | true=>rw [aEa,h1]; rfl
  | false=>
   rw [aDb]
   cases decide (2147483648 < id) with
   | true=>rw [aEa,h1]; rfl
   | false=>
    rw [aDb]
    by_cases h8:8 < (l.length:Int)
    ·rw [aA4 h8,h1]; rfl
    ·rw [aAw h8,h0 h8]; rfl
end
section
open Go
theorem gG {a:Int} {l:List Int} (h:l.all (fun b=>O8 ⟨a,b⟩ 2)=true) {b:Int} (hb:b∈l):O8 ⟨a,b⟩ 2=true:=aH8.1 h b hb
def qB (u:Ao):Prop:=SmU u/\O8 u 2=true
theorem aIx {d:Ad} (h:L5 d):Ok (Qt d) (fun y=>qB y.1/\L5 y.2):=by
 unfold Qt
 refine Ok.bind (Io h _ (by decide) (by decide)) fun y hy=>?_
 obtain⟨a,d1⟩:=y
 obtain⟨ha,hd⟩:=hy
 have hsz:=aGg hd a
 have hsa:Sm a:=bT (by decide) ha
 have O:∀ l:List Int,1<=l.length->l.length<=1000->l.all (fun b=>O8 ⟨a,b⟩ 2)=true->Ok ((Bs d1 l).bind fun y=>some (y.1,y.2)) (fun y=>O8 ⟨a,y.1⟩ 2=true):=fun l h1 h2 h3=>
  Ok.bind (Io hd l h1 h2) fun y hy=>Ok.ret (gG h3 hy.1)
 have key:Ok (C9 d1 a) (fun y=>O8 ⟨a,y.1⟩ 2=true):=by
  simp only [aF2,aF6,aQe] at ha
  rcases ha with rfl | rfl | rfl | rfl | rfl | rfl
  ·exact O [2048,1024,512,3072,1023,4096,16384] (by decide) (by decide) (by decide)
  ·exact O [256,160,224,384,521] (by decide) (by decide) (by decide)
  ·exact O [2048,1024,512,3072,1023,4096,16384] (by decide) (by decide) (by decide)
  ·exact O [2048,1024,512,3072,1023,4096,16384] (by decide) (by decide) (by decide)
  ·exact Ok.ret (a:=((0:Int),d1)) (show O8 ⟨8,0⟩ 2=true by decide)
  ·exact O [65,44,87] (by decide) (by decide) (by decide)
 refine Ok.bind (hsz.and key) fun z hz=>Ok.ret ⟨⟨⟨hsa,hz.1.1⟩,hz.2⟩,hz.1.2⟩
theorem eQ (a b:ByteArray):Oz (a ++ b)=Oz a ++ Oz b:=by
 unfold Oz
 rw [ByteArray.data_append,Array.toList_append]
theorem gV:∀ (a:List UInt8) (x:UInt8) (b:List UInt8),ltT a (a ++ x :: b)=true
 | [],_,_=>rfl
 | y :: a,x,b=>by
  show (decide (y < y) || (y == y && ltT a (a ++ x :: b)))=true
  rw [gV a x b]; simp
theorem aI5 {s:ByteArray} (h:Ha s=true) (hs:s.size<=31):Ha (s ++ ⟨#[120]⟩)=true:=by
 unfold Ha at *
 rw [eQ,bBg,bBn]
 have h1:(⟨#[120]⟩:ByteArray).size=1:=rfl
 simp only [aF1,aJc,aR1] at h ⊢
 refine⟨⟨by omega,by omega⟩,?_⟩
 rw [h.2]
 decide
theorem aC5 {s:ByteArray} (h:Ha s=true):Oi [s]=true:=by
 have e:Oi [s]=!(!Ha s || false || false):=rfl
 rw [e,h]; rfl
theorem aB4 {s t:ByteArray} (h:Ha s=true) (h2:Ha t=true) (h3:ltT (Oz s) (Oz t)=true):Oi [s,t]=true:=by
 have e:Oi [s,t]=!((!Ha s || false) || ((!Ha t || (true && !ltT (Oz s) (Oz t))) || false)):=rfl
 rw [e,h,h2,h3]; rfl
theorem lP {c:Ae}:F6 c=true↔((0<=c.Serial/\c.Serial<=1099511627776)/\Ha c.Issuer=true/\Ha c.Subject=true/\Oi c.Names=true/\(c.Names.length:Int)<=8/\O8 c.Key 2=true/\(0<=c.KeyId/\c.KeyId<=2147483648)/\O8 c.Hash 1=true/\(0<=c.Seal.Key/\c.Seal.Key<=2147483648)/\(0<=c.Seal.Sum/\c.Seal.Sum < 4294967296)/\(0<=c.From/\c.From<=c.To/\c.To<=40000)/\(0<=c.Path/\c.Path<=8)/\(c.Authority=true\/c.Path=0)):=by
 unfold F6 Wr
 simp only [aS9,bBh,id,aR1,bAe,aXr,bA8,Bool.and_eq_false_iff,aJc,Bool.or_false]
 constructor
 ·rintro⟨h1,h2,h3,h4,h5,h6,h7,h8,h9,h10,h11,h12,h13,h14,h15,h16,h17,h18,h19,h20⟩
  exact⟨⟨by omega,by omega⟩,h3,h4,h5,by omega,h7,⟨by omega,by omega⟩,h10,⟨by omega,by omega⟩,⟨by omega,by omega⟩,⟨by omega,by omega,by omega⟩,⟨by omega,by omega⟩,h20⟩
 ·rintro⟨⟨h1,h2⟩,h3,h4,h5,h6,h7,⟨h8,h9⟩,h10,⟨h11,h12⟩,⟨h13,h14⟩,⟨h15,h16,h17⟩,⟨h18,h19⟩,h20⟩
  exact⟨by omega,by omega,h3,h4,h5,by omega,h7,by omega,by omega,h10,by omega,by omega,by omega,by omega,by omega,by omega,by omega,by omega,by omega,h20⟩
theorem pN {c:Ae} (h:F6 (cV c)=true) {s:Be} (h1:0<=s.Key/\s.Key<=2147483648) (h2:0<=s.Sum/\s.Sum < 4294967296):F6 (fD c s)=true:=by
 rw [lP] at h ⊢
 obtain⟨a1,a2,a3,a4,a5,a6,a7,a8,-,-,a11,a12,a13⟩:=h
 exact⟨a1,a2,a3,a4,a5,a6,a7,a8,h1,h2,a11,a12,a13⟩
theorem aS5:(0:Int)<=0/\(0:Int)<=2147483648:=by omega
theorem aSf:(0:Int)<=0/\(0:Int) < 4294967296:=by omega
structure aBy (issuer subject:ByteArray) (key:Ao) (id signer:Int) (authority:Bool) (c:Ae):Prop where
 fit:Nl c
 ok:F6 c=true
 serial:0<=c.Serial/\c.Serial < 1000
 issuer_:c.Issuer=issuer
 subject_:c.Subject=subject
 key_:c.Key=key
 id_:c.KeyId=id
 hash:c.Hash.Alg∈([3,2,4,1]:List Int)/\c.Hash.Bits=0
 from_:c.From∈([0,5,10]:List Int)
 to_:c.To∈([1000,100,50,20]:List Int)
 auth:c.Authority=authority
 path:c.Path∈([3,0,1]:List Int)/\(authority=false->c.Path=0)
 names:c.Names=[subject]\/c.Names=[subject,subject ++ ⟨#[120]⟩]
 seal_:c.Seal=⟨signer,Ih (L1 (cV c)).1⟩
theorem sI {d:Ad} (h:L5 d) {issuer subject:ByteArray} {key:Ao} {id signer:Int} (authority:Bool) (hi:Ha issuer=true) (hs:Ha subject=true) (hs31:subject.size<=31) (hk:qB key) (hid:0<=id/\id<=2147483648) (hsg:0<=signer/\signer<=2147483648):Ok (C2 d issuer subject key id signer authority) (fun y=>aBy issuer subject key id signer authority y.1/\L5 y.2):=by
 have hi32:=T6 hi
 unfold C2
 refine Ok.bind (Hh h 1000 (by omega) (by omega)) fun y1 h1=>?_
 refine Ok.bind (Io h1.2 _ (by decide) (by decide)) fun y2 h2=>?_
 refine Ok.bind (Io h2.2 _ (by decide) (by decide)) fun y3 h3=>?_
 refine Ok.bind (Io h3.2 _ (by decide) (by decide)) fun y4 h4=>?_
 have i2:=(bT (by decide) h2.1).i64
 have i3:=(bT (by decide) h3.1).i64
 have i4:=(bT (by decide) h4.1).i64
 have i1:Vm y1.1:=by have:=h1.1; unfold Vm; omega
 have hx1:(⟨#[120]⟩:ByteArray).size=1:=rfl
 have j2:∀ (p:Int) (d':Ad) (l:List ByteArray),p∈([3,0,1]:List Int)->(authority=false->p=0)->L5 d'->(l=[subject]\/l=[subject,subject ++ ⟨#[120]⟩])->Ok (C2.j2 issuer subject key id signer authority y1 y2 y3 y4 p d' l) (fun y=>aBy issuer subject key id signer authority y.1/\L5 y.2):=by
  intro p d' l hp hp0 hd hl
  have ip:Vm p:=(bT (by decide) hp).i64
  have ll:l.length<=2:=by rcases hl with rfl | rfl <;> simp
  have ln:∀ s∈l,s.size<=2000:=by
   rcases hl with rfl | rfl
   ·intro s hs; rw [aF4.1 hs]; omega
   ·intro s hs
    simp only [aF2,aF6,aQe] at hs
    rcases hs with rfl | rfl
    ·omega
    ·rw [bBg]; omega
  unfold C2.j2
  have hf:Nl (Ae.mk y1.1 issuer subject key id (Ao.mk y2.1 0) y3.1 y4.1 authority p l (Be.mk 0 0)):=aE4 (by show l.length < 1000000000; omega) (fun s hs=>by have:=ln s hs; omega) (by show issuer.size<=_; omega) (by show subject.size<=_; omega) i1 hk.1.1.i64 hk.1.2.i64 (show Vm id by unfold Vm; omega) i2 tO i3 i4 ip tO tO
  have hv:F6 (Ae.mk y1.1 issuer subject key id (Ao.mk y2.1 0) y3.1 y4.1 authority p l (Be.mk 0 0))=true:=by
   rw [lP]
   have t1:=h1.1
   refine⟨⟨t1.1,by dsimp only; omega⟩,hi,hs,?_,by dsimp only; omega,hk.2,hid,?_,aS5,aSf,?_,?_,?_⟩
   ·rcases hl with rfl | rfl
    ·exact aC5 hs
    ·exact aB4 hs (aI5 hs hs31) (by rw [eQ]; exact gV _ 120 [])
   ·have:([3,2,4,1]:List Int).all (fun a=>O8 ⟨a,0⟩ 1)=true:=by decide
    exact aH8.1 this _ h2.1
   ·have t3:=h3.1
    have t4:=h4.1
    simp only [aF2,aF6,aQe] at t3 t4
    dsimp only
    omega
   ·simp only [aF2,aF6,aQe] at hp
    dsimp only
    omega
   ·cases ha:authority with
    | true=>exact .inl rfl
    | false=>exact .inr (hp0 ha)
  refine Ok.bindE (aBl _ hf signer) ?_
  have e:wP (Ae.mk y1.1 issuer subject key id (Ao.mk y2.1 0) y3.1 y4.1 authority p l (Be.mk 0 0)) signer=(fD (Ae.mk y1.1 issuer subject key id (Ao.mk y2.1 0) y3.1 y4.1 authority p l (Be.mk 0 0)) ⟨signer,Ih (L1 (Ae.mk y1.1 issuer subject key id (Ao.mk y2.1 0) y3.1 y4.1 authority p l (Be.mk 0 0))).1⟩,0):=by
   unfold wP
   have:F6 (cV (Ae.mk y1.1 issuer subject key id (Ao.mk y2.1 0) y3.1 y4.1 authority p l (Be.mk 0 0)))=true:=hv
   rw [this,aA4 hsg.1,aA4 hsg.2]; rfl
  rw [e]
  have hr:=Xz (L1 (Ae.mk y1.1 issuer subject key id (Ao.mk y2.1 0) y3.1 y4.1 authority p l (Be.mk 0 0))).1
  exact Ok.ret ⟨⟨gL hf (show Vm signer by unfold Vm; omega) (aD6 _),pN (c:=Ae.mk y1.1 issuer subject key id (Ao.mk y2.1 0) y3.1 y4.1 authority p l (Be.mk 0 0)) hv hsg hr,h1.1,rfl,rfl,rfl,rfl,⟨h2.1,rfl⟩,h3.1,h4.1,rfl,⟨hp,hp0⟩,hl,rfl⟩,hd⟩
 have j1:∀ (p:Int) (d':Ad),p∈([3,0,1]:List Int)->(authority=false->p=0)->L5 d'->Ok (C2.j1 issuer subject key id signer authority y1 y2 y3 y4 d' p) (fun y=>aBy issuer subject key id signer authority y.1/\L5 y.2):=by
  intro p d' hp hp0 hd
  unfold C2.j1
  refine Ok.bind (Q7 hd 3 (by omega) (by omega)) fun y hy=>?_
  refine Ok.cond (fun _=>?_) fun _=>?_
  ·refine Ok.bind (aG5 (by omega)) fun s hs'=>?_
   refine Ok.bind (Ky (by simp)) fun l hl=>?_
   subst hl hs'
   exact j2 p y.2 _ hp hp0 hy (.inr rfl)
  ·exact j2 p y.2 _ hp hp0 hy (.inl rfl)
 cases ha:authority with
 | true=>
  rw [ha] at j1
  rw [aEa]
  refine Ok.bind (Io h4.2 _ (by decide) (by decide)) fun y5 h5=>?_
  exact j1 _ _ h5.1 (fun h=>by cases h) h5.2
 | false=>
  rw [ha] at j1
  rw [aDb]
  exact j1 _ _ (by decide) (fun _=>rfl) h4.2
end
section
open Go
theorem lF {d:Ad} (h:L5 d) {name:ByteArray} {key:Ao} {id:Int} (hs:Ha name=true) (hs31:name.size<=31) (hk:qB key) (hid:0<=id/\id<=2147483648) :
  Ok (Hs d name key id) (fun y=>(y.1.length<=3/\(∀ c∈y.1,F6 c=true/\Nl c)/\Zu key id y.1=true)/\L5 y.2):=by
 unfold Hs
 refine Ok.bind (Io h _ (by decide) (by decide)) fun y1 h1=>?_
 have hy1:0<=y1.1/\y1.1<=2:=by
  have:=h1.1
  simp only [aF2,aF6,aQe] at this
  omega
 refine Ok.bind (Hh h1.2 2 (by omega) (by omega)) fun y2 h2=>?_
 have hy2:=h2.1
 refine Ok.loop (fun s=>(0<=s.1/\s.1<=100)/\Ha s.2.1=true/\0<=s.2.2.1/\s.2.2.1<=y1.1/\L5 s.2.2.2.1/\(s.2.2.2.2.length:Int)=s.2.2.1/\∀ c∈s.2.2.2.2,F6 c=true/\Nl c) (fun s=>(y1.1 - s.2.2.1).toNat) (fun s hs'=>?_) ⟨by rw [Ej (by omega)]; constructor <;> omega,by show Ha ⟨#[114,111,111,116]⟩=true; decide +kernel,aXi _,hy1.1,h2.2,rfl,fun c hc=>by cases hc⟩
 obtain⟨signer,issuer,i,d1,above⟩:=s
 obtain⟨a1,a2,a3,a4,a5,a6,a7⟩:=hs'
 dsimp only at a1 a2 a3 a4 a5 a6 a7
 show Ok (Hs.l1 name key id y1 signer issuer i d1 above) _
 unfold Hs.l1
 refine Ok.cond (fun hb=>?_) fun hb=>?_
 ·have hb:=aEk hb
  refine Ok.bind (Pl (by omega) (by show i < (3:Int); omega)) fun e he=>?_
  have hes:Ha e=true/\e.size<=31:=by
   simp only [aF2,aF6,aQe] at he
   rcases he with rfl | rfl | rfl <;> exact⟨by decide +kernel,by decide⟩
  have e11:W (11 + i)=11 + i:=Ej (by omega)
  refine Ok.bind (sI a5 true a2 hes.1 hes.2 ⟨⟨⟨by decide,by decide⟩,⟨by decide,by decide⟩⟩,by decide +kernel⟩ (by rw [e11]; omega) (by omega)) fun y3 h3=>?_
  refine Ok.bind (Ky (by simp; omega)) fun l hl=>?_
  subst hl
  rw [Ej (x:=i + 1) (by omega),e11]
  clear e11
  refine Ok.ret ⟨⟨⟨by show 0<=11 + i; omega,by show 11 + i<=100; omega⟩,hes.1,?_,?_,h3.2,?_,?_⟩,?_⟩
  ·show 0<=i + 1; omega
  ·show i + 1<=y1.1; omega
  ·show ((y3.1 :: above).length:Int)=i + 1
   rw [aJw]; omega
  ·intro c hc
   rcases aF2.1 hc with rfl | hc
   ·exact⟨h3.1.ok,h3.1.fit⟩
   ·exact a7 c hc
  ·show (y1.1 - (i + 1)).toNat < (y1.1 - i).toNat; omega
 ·have hb:=aJb hb
  refine Ok.up ?_
  refine Ok.bind (sI a5 false a2 hs hs31 hk hid (by omega)) fun y4 h4=>?_
  refine Ok.bind (Ky (by simp; omega)) fun l hl=>?_
  subst hl
  refine Ok.ret ⟨⟨?_,?_,?_⟩,h4.2⟩
  ·show ([y4.1] ++ above).length<=3
   rw [aF3,aF7]; omega
  ·intro c hc
   rcases aF2.1 hc with rfl | hc
   ·exact⟨h4.1.ok,h4.1.fit⟩
   ·exact a7 c hc
  ·show (decide (y4.1.Key=key) && decide (y4.1.KeyId=id))=true
   rw [h4.1.key_,h4.1.id_,aA4 rfl,aA4 rfl]; rfl
theorem aE9 {key:Ao} {id:Int} {l:List Ae} (hk:O8 key 2=true) (hid:0<=id/\id<=2147483648) (hl:l.length<=8) (hc:∀ c∈l,F6 c=true) (hh:Zu key id l=true):Qx key id l=true:=by
 unfold Qx aFf
 have h1:(l.any fun c=>!F6 c)=false:=aR8.2 fun c h=>by rw [hc c h]; simp
 rw [hk,aAw (show ¬ id < 0 by omega),aAw (show ¬ 2147483648 < id by omega),aAw (show ¬ 8 < (l.length:Int) by omega),h1,hh]
 rfl
end
end Go.Proofs.YtobamahlipiakaaGreat
