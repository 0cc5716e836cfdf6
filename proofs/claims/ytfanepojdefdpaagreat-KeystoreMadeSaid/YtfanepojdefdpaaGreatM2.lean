/- Plain texts, joined. No program is in sight here. -/
import Derived.Test.YtfanepojdefdpaaGreatL3
import Derived.Test.YtfanepojdefdpaaGreatK6
set_option linter.unusedVariables false
set_option linter.unusedSimpArgs false
set_option maxRecDepth 100000
namespace Go.Proofs.YtfanepojdefdpaaGreat
section
open Go
structure Mo (d:Af):Prop where
 lo:Lo d.L
 at0:0<=d.At
 at1:d.At<=d.L.length
theorem qP (e n:Int) (hn:1<=n) (hn2:n<=4611686018427387904):Ok (Kt e n) (fun y=>0<=y/\y < n):=by
 unfold Kt
 rw [vK (by omega),vQ]
 have h1:=Int.tmod_lt_of_pos e (show 0 < n by omega)
 have h2:-n < e.tmod n:=Int.lt_tmod_of_pos e (by omega)
 have h3:=Int.tmod_lt_of_pos (e.tmod n + n) (show 0 < n by omega)
 have h4:=Int.tmod_nonneg n (show 0<=e.tmod n + n by omega)
 unfold Qy
 rw [if_neg (by omega),vI,Hy (by omega),if_neg (by omega)]
 exact⟨_,rfl,h4,h3⟩
theorem Jw {d:Af} (h:Mo d) (n:Int) (hn:1<=n) (hn2:n<=4611686018427387904):Ok (C9 d n) (fun y=>(0<=y.1/\y.1 < n)/\Mo y.2):=by
 have hl:=h.lo
 unfold Lo at hl
 have h0:=h.at0
 have h1:=h.at1
 unfold C9
 refine Ok.cond (fun hb=>?_) fun hb=>?_
 ·exact Ok.ret ⟨⟨Int.le_refl _,by show (0:Int) < n; omega⟩,h⟩
 ·have hb:=zF hb
  rw [Hy (x:=d.At + 1) (by omega),Hy (by omega)]
  refine Ok.bind (Sw (by omega) (by omega)) fun e he=>?_
  refine Ok.bind (qP e n hn hn2) fun y hy=>?_
  exact Ok.ret ⟨hy,⟨h.lo,by show 0<=d.At + 1; omega,by show d.At + 1<=(d.L.length:Int); omega⟩⟩
theorem Oj {d:Af} (h:Mo d) (l:List Int) (hl:1<=l.length) (hl2:l.length<=1000):Ok (Cb d l) (fun y=>y.1∈l/\Mo y.2):=by
 unfold Cb
 refine Ok.bind (Jw h _ (by omega) (by omega)) fun y hy=>?_
 refine Ok.bind (P8 (by omega) (by omega)) fun e he=>?_
 exact Ok.ret ⟨he,hy.2⟩
theorem cE {d:Af} (h:Mo d) (l:List ByteArray) (hl:1<=l.length) (hl2:l.length<=1000):Ok (Fr d l) (fun y=>y.1∈l/\Mo y.2):=by
 unfold Fr
 refine Ok.bind (Jw h _ (by omega) (by omega)) fun y hy=>?_
 refine Ok.bind (P8 (by omega) (by omega)) fun e he=>?_
 exact Ok.ret ⟨he,hy.2⟩
theorem aE {d:Af} (h:Mo d) (n:Int) (hn:1<=n) (hn2:n<=1000):Ok (Fg d n) (fun y=>Mo y.2):=by
 unfold Fg
 refine Ok.bind (Jw h _ (by omega) (by omega)) fun y hy=>?_
 exact Ok.ret hy.2
def Sm (n:Int):Prop:=0<=n/\n<=100000
theorem Vh {l:List Int} (h:l.all (fun n=>decide (0<=n) && decide (n<=100000))=true) {n:Int} (hn:n∈l):Sm n:=by
 have:=vY.1 h n hn
 simpa [Sm] using this
theorem kF {d:Af} (h:Mo d) (a:Int):Ok (B0 d a) (fun y=>Sm y.1/\Mo y.2):=by
 have O:∀ l:List Int,1<=l.length->l.length<=1000->l.all (fun n=>decide (0<=n) && decide (n<=100000))=true->Ok ((Cb d l).bind fun y=>some (y.1,y.2)) (fun y=>Sm y.1/\Mo y.2):=fun l h1 h2 h3=>
  Ok.bind (Oj h l h1 h2) fun y hy=>Ok.ret ⟨Vh h3 hy.1,hy.2⟩
 have j3:∀ b,Ok (B0.j3 d b) (fun y=>Sm y.1/\Mo y.2):=fun b=>by
  unfold B0.j3
  exact Ok.cond (fun _=>O _ (by decide) (by decide) (by decide)) fun _=>Ok.ret ⟨⟨Int.le_refl 0,by show (0:Int)<=100000; decide⟩,h⟩
 have j2:∀ b,Ok (B0.j2 d a b) (fun y=>Sm y.1/\Mo y.2):=fun b=>by
  unfold B0.j2
  exact Ok.cond (fun _=>O _ (by decide) (by decide) (by decide)) fun _=>Ok.cond (fun _=>O _ (by decide) (by decide) (by decide)) fun _=>Ok.cond (fun _=>O _ (by decide) (by decide) (by decide)) fun _=>Ok.cond (fun _=>O _ (by decide) (by decide) (by decide)) fun _=>Ok.cond (fun _=>O _ (by decide) (by decide) (by decide)) fun _=>Ok.cond (fun _=>j3 _) fun _=>j3 _
 have j1:∀ b,Ok (B0.j1 d a b) (fun y=>Sm y.1/\Mo y.2):=fun b=>by
  unfold B0.j1
  exact Ok.cond (fun _=>O _ (by decide) (by decide) (by decide)) fun _=>Ok.cond (fun _=>j2 _) fun _=>j2 _
 unfold B0
 exact Ok.cond (fun _=>j1 _) fun _=>Ok.cond (fun _=>j1 _) fun _=>Ok.cond (fun _=>j1 _) fun _=>j1 _
def vC (u:Ax):Prop:=Sm u.Alg/\Sm u.Bits
def Ld (n:Int):Prop:=-9223372036854775808<=n/\n<=9223372036854775807
theorem Sm.i64 {n:Int} (h:Sm n):Ld n:=by unfold Sm at h; unfold Ld; omega
def mS:Ab:=Ab.mk 0 ⟨#[]⟩ ⟨#[]⟩ (Ax.mk 0 0) 0 (Ax.mk 0 0) 0 0 false 0 [] (C7.mk 0 0)
def Sb (c:Ab):Ab:=Ab.mk c.Serial c.Issuer c.Subject c.Key c.KeyId c.Hash c.From c.To c.Authority c.Path c.Names (C7.mk 0 0)
def T0 (c:Ab) (s:C7):Ab:=Ab.mk c.Serial c.Issuer c.Subject c.Key c.KeyId c.Hash c.From c.To c.Authority c.Path c.Names s
theorem fP {c:Ab} (h1:c.Names.length < 1000000000) (h2:∀ s∈c.Names,s.size<=9223372036854775807) (h3:c.Issuer.size<=9223372036854775807) (h4:c.Subject.size<=9223372036854775807)
  (a1:Ld c.Serial) (a2:Ld c.Key.Alg) (a3:Ld c.Key.Bits) (a4:Ld c.KeyId) (a5:Ld c.Hash.Alg) (a6:Ld c.Hash.Bits) (a7:Ld c.From) (a8:Ld c.To) (a9:Ld c.Path) (b1:Ld c.Seal.Key) (b2:Ld c.Seal.Sum):Kz c:=by
 refine⟨h1,h2,h3,h4,?_⟩
 intro n hn
 simp only [wA,xE,zZ] at hn
 rcases hn with rfl | rfl | rfl | rfl | rfl | rfl | rfl | rfl | rfl | rfl | rfl <;> assumption
structure rS (c:Ab):Prop where
 a1:Ld c.Serial
 a2:Ld c.Key.Alg
 a3:Ld c.Key.Bits
 a4:Ld c.KeyId
 a5:Ld c.Hash.Alg
 a6:Ld c.Hash.Bits
 a7:Ld c.From
 a8:Ld c.To
 a9:Ld c.Path
 b1:Ld c.Seal.Key
 b2:Ld c.Seal.Sum
theorem Kz.is {c:Ab} (h:Kz c):rS c:=by
 have:=h.ints
 constructor <;> exact this _ (by simp)
theorem Y6:Ld 0:=⟨by decide,by decide⟩
theorem Tr {c:Ab} (h:Kz c) {s:C7} (h1:Ld s.Key) (h2:Ld s.Sum):Kz (T0 c s):=by
 have i:=h.is
 exact fP h.names h.name h.issuer h.subject i.a1 i.a2 i.a3 i.a4 i.a5 i.a6 i.a7 i.a8 i.a9 h1 h2
theorem kV (c:Ab) (h:Kz c):G0 c=some c:=by
 unfold G0
 have:=h.names
 rw [Dj (by simp; omega)]
 rfl
def bX (c:Ab) (key:Int):Ab×Int:=bif Dq (Sb c) && (decide (0<=key) && decide (key<=2147483648)) then (T0 c ⟨key,Vc (Kd (Sb c)).1⟩,0) else (mS,9)
theorem iH (b:List UInt8):Ld (Vc b):=bG _
theorem fI (c:Ab) (h:Kz c) (key:Int):D0 c key=some (bX c key):=by
 have hu:Kz (Sb c):=Tr h Y6 Y6
 unfold D0
 rw [kV c h,vI]
 have e:Au (Ab.mk c.Serial c.Issuer c.Subject c.Key c.KeyId c.Hash c.From c.To c.Authority c.Path c.Names (C7.mk 0 0))=some (bif Dq (Sb c) then 0 else 9):=Vr (Sb c) hu
 rw [e,vI]
 have j:∀ b,D0.j1 key c b=some (bif b then (mS,9) else (T0 c ⟨key,Vc (Kd (Sb c)).1⟩,0)):=by
  intro b
  unfold D0.j1
  cases b with
  | true=>rfl
  | false=>
   rw [vQ]
   have e2:Hc (Ab.mk c.Serial c.Issuer c.Subject c.Key c.KeyId c.Hash c.From c.To c.Authority c.Path c.Names (C7.mk 0 0))=some (Kd (Sb c)):=cZ (Sb c) hu
   rw [e2,vI,lH _ (eV _)]
   rfl
 simp only [j]
 unfold bX
 cases Dq (Sb c) with
 | false=>rfl
 | true=>
  by_cases a:key < 0
  ·rw [vL a,vK (show ¬ 0<=key by omega)]; rfl
  ·rw [vK a,vL (show 0<=key by omega)]
   by_cases b:key<=2147483648
   ·rw [vL b,vK (show ¬ 2147483648 < key by omega)]; rfl
   ·rw [vK b,vL (show 2147483648 < key by omega)]; rfl
end
section
open Go
def Yt (s:BitVec 32) (e:UInt8):BitVec 32:=(s ^^^ BitVec.ofNat 32 e.toNat) * 16777619#32
theorem lT (s:BitVec 32) (e:UInt8):IntKind.wrap .u32 ((X0 .u32 (s.toNat:Int) (IntKind.wrap .u32 (e.toNat:Int))) * 16777619)=((Yt s e).toNat:Int):=by
 have he:=e.toNat_lt
 have hx:=(s ^^^ BitVec.ofNat 32 e.toNat).isLt
 have h2:X0 .u32 (s.toNat:Int) (IntKind.wrap .u32 (e.toNat:Int))=((s ^^^ BitVec.ofNat 32 e.toNat).toNat:Int):=by
  have h1:IntKind.wrap .u32 (e.toNat:Int)=(e.toNat:Int):=by rw [IntKind.wrap_u32]; omega
  rw [h1]
  show IntKind.u32.wrap ((BitVec.ofInt 32 (s.toNat:Int) ^^^ BitVec.ofInt 32 (e.toNat:Int)).toNat:Int)=_
  rw [BitVec.ofInt_natCast,BitVec.ofInt_natCast]
  have:BitVec.ofNat 32 s.toNat=s:=BitVec.eq_of_toNat_eq (by rw [BitVec.toNat_ofNat]; exact xC s.isLt)
  rw [this,IntKind.wrap_u32]
  omega
 rw [h2]
 unfold Yt
 rw [BitVec.toNat_mul,IntKind.wrap_u32]
 have:(16777619#32).toNat=16777619:=rfl
 rw [this]
 omega
def sO (b:List UInt8):BitVec 32:=b.foldl Yt 2166136261#32
theorem Vj:∀ (b:List UInt8) (s:BitVec 32),b.foldl (fun (s:Int) (e:UInt8)=>IntKind.wrap .u32 ((X0 .u32 s (IntKind.wrap .u32 (e.toNat:Int))) * 16777619)) (s.toNat:Int)=((b.foldl Yt s).toNat:Int)
 | [],_=>rfl
 | e :: b,s=>by rw [List.foldl_cons,lT,Vj b]; rfl
theorem lA (b:List UInt8):Vc b=((sO b).toNat:Int):=by
 have:=Vj b 2166136261#32
 rw [show ((2166136261#32).toNat:Int)=2166136261 from rfl] at this
 unfold Vc
 rw [this]
 have h2:=(b.foldl Yt 2166136261#32).isLt
 exact Hy (by omega)
theorem Zu (b:List UInt8):0<=Vc b/\Vc b < 4294967296:=by
 have:=(sO b).isLt
 rw [lA]; omega
end
section
open Go
theorem aC (c:Ab) (h:W9 c):Fl c=some (bif Dq c then 0 else 9):=by
 unfold Fl
 rw [Z9 c h,vI]
 cases Dq c <;> rfl
def dE (id:Int):Bool:=decide (id < 0) || decide (2147483648 < id)
def R0 (key:Ax) (id:Int):List Ab->Bool
 | []=>true
 | c :: _=>decide (c.Key=key) && decide (c.KeyId=id)
def F2 (key:Ax) (id:Int) (l:List Ab):Bool:=Iw key 2 && (!dE id && (!decide (8 < (l.length:Int)) && (!l.any (fun c=>!Dq c) && R0 key id l)))
theorem Yy (key:Ax) (id:Int) (l:List Ab) :
  (cond (decide ((l.length:Int)=0)) (some true) ((C2 l 0).bind fun e_2=>cond (decide (e_2.Key=key)) (some (decide (e_2.KeyId=id))) (some false)))=some (R0 key id l):=by
 cases l with
 | nil=>rfl
 | cons c l=>
  rw [vK (by simp only [xA]; omega),vQ]
  show cond (decide (c.Key=key)) (some (decide (c.KeyId=id))) (some false)=some (decide (c.Key=key) && decide (c.KeyId=id))
  cases decide (c.Key=key) <;> rfl
theorem dV (key:Ax) (id:Int) (l:List Ab) (hf:∀ c∈l,W9 c):Bo key id l=some (F2 key id l):=by
 unfold Bo F2 Iw
 rw [V5,vI,Yp,vI,Wq,vI]
 have h1:Bo.j1 key id l true=some false:=rfl
 have h0:¬ (8 < (l.length:Int))->Bo.j1 key id l false=some (!l.any (fun c=>!Dq c) && R0 key id l):=fun h8=>by
  unfold Bo.j1
  rw [vQ]
  refine (Ye l (fun c=>!Dq c) false (R0 key id l) (Gj (by omega)) (fun i c hc=>?_) ?_).trans ?_
  ·show Bo.l2 key id l (i:Int)=_
   unfold Bo.l2
   rw [Dw hc,aC c (hf c (Ef hc)),vI]
   cases Dq c <;> rfl
  ·show Bo.l2 key id l (l.length:Int)=_
   unfold Bo.l2
   rw [Db,Yy]
   rfl
  ·cases l.any (fun c=>!Dq c) <;> rfl
 cases decide (0 < M8 key) with
 | false=>rw [xD,wD,h1]; rfl
 | true=>
  rw [wM,vQ]
  cases decide (Rv key.Alg=2) with
  | false=>rw [xD,wD,h1]; rfl
  | true=>
   rw [wM,vQ]
   show cond (!!dE id) _ _=_
   cases dE id with
   | true=>rw [Bool.not_not,wD,h1]; rfl
   | false=>
    rw [Bool.not_not,vQ]
    by_cases h8:8 < (l.length:Int)
    ·rw [vL h8,h1]; rfl
    ·rw [vK h8,h0 h8]; rfl
theorem cU (key:Ax) (id:Int) (l:List Ab) (hf:∀ c∈l,W9 c):B6 key id l=some (F2 key id l):=by
 unfold B6 F2 dE
 rw [Of,vI]
 have h1:B6.j1 key id l true=some false:=rfl
 have h0:¬ (8 < (l.length:Int))->B6.j1 key id l false=some (!l.any (fun c=>!Dq c) && R0 key id l):=fun h8=>by
  unfold B6.j1
  rw [vQ]
  refine (Ye l (fun c=>!Dq c) false (R0 key id l) (Gj (by omega)) (fun i c hc=>?_) ?_).trans ?_
  ·show B6.l2 key id l (i:Int)=_
   unfold B6.l2
   rw [Dw hc,Tx c (hf c (Ef hc)),vI]
   cases Dq c <;> rfl
  ·show B6.l2 key id l (l.length:Int)=_
   unfold B6.l2
   rw [Db,Yy]
   rfl
  ·cases l.any (fun c=>!Dq c) <;> rfl
 cases Iw key 2 with
 | false=>rw [xD,wD,h1]; rfl
 | true=>
  rw [wM,vQ]
  cases decide (id < 0) with
  | true=>rw [wD,h1]; rfl
  | false=>
   rw [vQ]
   cases decide (2147483648 < id) with
   | true=>rw [wD,h1]; rfl
   | false=>
    rw [vQ]
    by_cases h8:8 < (l.length:Int)
    ·rw [vL h8,h1]; rfl
    ·rw [vK h8,h0 h8]; rfl
end
section
open Go
theorem jL {a:Int} {l:List Int} (h:l.all (fun b=>Iw ⟨a,b⟩ 2)=true) {b:Int} (hb:b∈l):Iw ⟨a,b⟩ 2=true:=vY.1 h b hb
def oD (u:Ax):Prop:=vC u/\Iw u 2=true
theorem kR {d:Af} (h:Mo d):Ok (Kh d) (fun y=>oD y.1/\Mo y.2):=by
 unfold Kh
 refine Ok.bind (Oj h _ (by decide) (by decide)) fun y hy=>?_
 obtain⟨a,d1⟩:=y
 obtain⟨ha,hd⟩:=hy
 have hsz:=kF hd a
 have hsa:Sm a:=Vh (by decide) ha
 have O:∀ l:List Int,1<=l.length->l.length<=1000->l.all (fun b=>Iw ⟨a,b⟩ 2)=true->Ok ((Cb d1 l).bind fun y=>some (y.1,y.2)) (fun y=>Iw ⟨a,y.1⟩ 2=true):=fun l h1 h2 h3=>
  Ok.bind (Oj hd l h1 h2) fun y hy=>Ok.ret (jL h3 hy.1)
 have key:Ok (B0 d1 a) (fun y=>Iw ⟨a,y.1⟩ 2=true):=by
  simp only [wA,xE,zZ] at ha
  rcases ha with rfl | rfl | rfl | rfl | rfl | rfl
  ·exact O [2048,1024,512,3072,1023,4096,16384] (by decide) (by decide) (by decide)
  ·exact O [256,160,224,384,521] (by decide) (by decide) (by decide)
  ·exact O [2048,1024,512,3072,1023,4096,16384] (by decide) (by decide) (by decide)
  ·exact O [2048,1024,512,3072,1023,4096,16384] (by decide) (by decide) (by decide)
  ·exact Ok.ret (a:=((0:Int),d1)) (show Iw ⟨8,0⟩ 2=true by decide)
  ·exact O [65,44,87] (by decide) (by decide) (by decide)
 refine Ok.bind (hsz.and key) fun z hz=>Ok.ret ⟨⟨⟨hsa,hz.1.1⟩,hz.2⟩,hz.1.2⟩
theorem Uq (a b:ByteArray):Hs (a ++ b)=Hs a ++ Hs b:=by
 unfold Hs
 rw [ByteArray.data_append,Array.toList_append]
theorem Uk:∀ (a:List UInt8) (x:UInt8) (b:List UInt8),Ns a (a ++ x :: b)=true
 | [],_,_=>rfl
 | y :: a,x,b=>by
  show (decide (y < y) || (y == y && Ns a (a ++ x :: b)))=true
  rw [Uk a x b]; simp
theorem lC {s:ByteArray} (h:Eh s=true) (hs:s.size<=31):Eh (s ++ ⟨#[120]⟩)=true:=by
 unfold Eh at *
 rw [Uq,aAg,List.any_append]
 have h1:(⟨#[120]⟩:ByteArray).size=1:=rfl
 simp only [vN,xF,xG] at h ⊢
 refine⟨⟨by omega,by omega⟩,?_⟩
 rw [h.2]
 decide
theorem iN {s:ByteArray} (h:Eh s=true):Il [s]=true:=by
 have e:Il [s]=!(!Eh s || false || false):=rfl
 rw [e,h]; rfl
theorem jA {s t:ByteArray} (h:Eh s=true) (h2:Eh t=true) (h3:Ns (Hs s) (Hs t)=true):Il [s,t]=true:=by
 have e:Il [s,t]=!((!Eh s || false) || ((!Eh t || (true && !Ns (Hs s) (Hs t))) || false)):=rfl
 rw [e,h,h2,h3]; rfl
theorem V0 {c:Ab}:Dq c=true↔((0<=c.Serial/\c.Serial<=1099511627776)/\Eh c.Issuer=true/\Eh c.Subject=true/\Il c.Names=true/\(c.Names.length:Int)<=8/\Iw c.Key 2=true/\(0<=c.KeyId/\c.KeyId<=2147483648)/\Iw c.Hash 1=true/\(0<=c.Seal.Key/\c.Seal.Key<=2147483648)/\(0<=c.Seal.Sum/\c.Seal.Sum < 4294967296)/\(0<=c.From/\c.From<=c.To/\c.To<=40000)/\(0<=c.Path/\c.Path<=8)/\(c.Authority=true\/c.Path=0)):=by
 unfold Dq Nx
 simp only [xY,aAs,id,xG,yE,xT,aAa,aAh,xF,Bool.or_false]
 constructor
 ·rintro⟨h1,h2,h3,h4,h5,h6,h7,h8,h9,h10,h11,h12,h13,h14,h15,h16,h17,h18,h19,h20⟩
  exact⟨⟨by omega,by omega⟩,h3,h4,h5,by omega,h7,⟨by omega,by omega⟩,h10,⟨by omega,by omega⟩,⟨by omega,by omega⟩,⟨by omega,by omega,by omega⟩,⟨by omega,by omega⟩,h20⟩
 ·rintro⟨⟨h1,h2⟩,h3,h4,h5,h6,h7,⟨h8,h9⟩,h10,⟨h11,h12⟩,⟨h13,h14⟩,⟨h15,h16,h17⟩,⟨h18,h19⟩,h20⟩
  exact⟨by omega,by omega,h3,h4,h5,by omega,h7,by omega,by omega,h10,by omega,by omega,by omega,by omega,by omega,by omega,by omega,by omega,by omega,h20⟩
theorem Ws {c:Ab} (h:Dq (Sb c)=true) {s:C7} (h1:0<=s.Key/\s.Key<=2147483648) (h2:0<=s.Sum/\s.Sum < 4294967296):Dq (T0 c s)=true:=by
 rw [V0] at h ⊢
 obtain⟨a1,a2,a3,a4,a5,a6,a7,a8,-,-,a11,a12,a13⟩:=h
 exact⟨a1,a2,a3,a4,a5,a6,a7,a8,h1,h2,a11,a12,a13⟩
theorem uV:(0:Int)<=0/\(0:Int)<=2147483648:=by omega
theorem tZ:(0:Int)<=0/\(0:Int) < 4294967296:=by omega
structure hH (issuer subject:ByteArray) (key:Ax) (id signer:Int) (authority:Bool) (c:Ab):Prop where
 fit:Kz c
 ok:Dq c=true
 serial:0<=c.Serial/\c.Serial < 1000
 issuer_:c.Issuer=issuer
 subject_:c.Subject=subject
 key_:c.Key=key
 id_:c.KeyId=id
 hash:c.Hash.Alg∈([3,2,4,1]:List Int)/\c.Hash.Bits=0
 from_:c.From∈([0,5,10]:List Int)
 to_:c.To∈([1000,100,50,20]:List Int)
 auth:c.Authority=authority
 path:c.Path∈([3,0,1]:List Int)/\(authority=false->c.Path=0)
 names:c.Names=[subject]\/c.Names=[subject,subject ++ ⟨#[120]⟩]
 seal_:c.Seal=⟨signer,Vc (Kd (Sb c)).1⟩
theorem Tj {d:Af} (h:Mo d) {issuer subject:ByteArray} {key:Ax} {id signer:Int} (authority:Bool) (hi:Eh issuer=true) (hs:Eh subject=true) (hs31:subject.size<=31) (hk:oD key) (hid:0<=id/\id<=2147483648) (hsg:0<=signer/\signer<=2147483648):Ok (Bj d issuer subject key id signer authority) (fun y=>hH issuer subject key id signer authority y.1/\Mo y.2):=by
 have hi32:=I4 hi
 unfold Bj
 refine Ok.bind (Jw h 1000 (by omega) (by omega)) fun y1 h1=>?_
 refine Ok.bind (Oj h1.2 _ (by decide) (by decide)) fun y2 h2=>?_
 refine Ok.bind (Oj h2.2 _ (by decide) (by decide)) fun y3 h3=>?_
 refine Ok.bind (Oj h3.2 _ (by decide) (by decide)) fun y4 h4=>?_
 have i2:=(Vh (by decide) h2.1).i64
 have i3:=(Vh (by decide) h3.1).i64
 have i4:=(Vh (by decide) h4.1).i64
 have i1:Ld y1.1:=by have:=h1.1; unfold Ld; omega
 have hx1:(⟨#[120]⟩:ByteArray).size=1:=rfl
 have j2:∀ (p:Int) (d':Af) (l:List ByteArray),p∈([3,0,1]:List Int)->(authority=false->p=0)->Mo d'->(l=[subject]\/l=[subject,subject ++ ⟨#[120]⟩])->Ok (Bj.j2 issuer subject key id signer authority y1 y2 y3 y4 p d' l) (fun y=>hH issuer subject key id signer authority y.1/\Mo y.2):=by
  intro p d' l hp hp0 hd hl
  have ip:Ld p:=(Vh (by decide) hp).i64
  have ll:l.length<=2:=by rcases hl with rfl | rfl <;> simp
  have ln:∀ s∈l,s.size<=2000:=by
   rcases hl with rfl | rfl
   ·intro s hs; rw [vX.1 hs]; omega
   ·intro s hs
    simp only [wA,xE,zZ] at hs
    rcases hs with rfl | rfl
    ·omega
    ·rw [aAg]; omega
  unfold Bj.j2
  have hf:Kz (Ab.mk y1.1 issuer subject key id (Ax.mk y2.1 0) y3.1 y4.1 authority p l (C7.mk 0 0)):=fP (by show l.length < 1000000000; omega) (fun s hs=>by have:=ln s hs; omega) (by show issuer.size<=_; omega) (by show subject.size<=_; omega) i1 hk.1.1.i64 hk.1.2.i64 (show Ld id by unfold Ld; omega) i2 Y6 i3 i4 ip Y6 Y6
  have hv:Dq (Ab.mk y1.1 issuer subject key id (Ax.mk y2.1 0) y3.1 y4.1 authority p l (C7.mk 0 0))=true:=by
   rw [V0]
   have t1:=h1.1
   refine⟨⟨t1.1,by dsimp only; omega⟩,hi,hs,?_,by dsimp only; omega,hk.2,hid,?_,uV,tZ,?_,?_,?_⟩
   ·rcases hl with rfl | rfl
    ·exact iN hs
    ·exact jA hs (lC hs hs31) (by rw [Uq]; exact Uk _ 120 [])
   ·have:([3,2,4,1]:List Int).all (fun a=>Iw ⟨a,0⟩ 1)=true:=by decide
    exact vY.1 this _ h2.1
   ·have t3:=h3.1
    have t4:=h4.1
    simp only [wA,xE,zZ] at t3 t4
    dsimp only
    omega
   ·simp only [wA,xE,zZ] at hp
    dsimp only
    omega
   ·cases ha:authority with
    | true=>exact .inl rfl
    | false=>exact .inr (hp0 ha)
  refine Ok.bindE (fI _ hf signer) ?_
  have e:bX (Ab.mk y1.1 issuer subject key id (Ax.mk y2.1 0) y3.1 y4.1 authority p l (C7.mk 0 0)) signer=(T0 (Ab.mk y1.1 issuer subject key id (Ax.mk y2.1 0) y3.1 y4.1 authority p l (C7.mk 0 0)) ⟨signer,Vc (Kd (Ab.mk y1.1 issuer subject key id (Ax.mk y2.1 0) y3.1 y4.1 authority p l (C7.mk 0 0))).1⟩,0):=by
   unfold bX
   have:Dq (Sb (Ab.mk y1.1 issuer subject key id (Ax.mk y2.1 0) y3.1 y4.1 authority p l (C7.mk 0 0)))=true:=hv
   rw [this,vL hsg.1,vL hsg.2]; rfl
  rw [e]
  have hr:=Zu (Kd (Ab.mk y1.1 issuer subject key id (Ax.mk y2.1 0) y3.1 y4.1 authority p l (C7.mk 0 0))).1
  exact Ok.ret ⟨⟨Tr hf (show Ld signer by unfold Ld; omega) (iH _),Ws (c:=Ab.mk y1.1 issuer subject key id (Ax.mk y2.1 0) y3.1 y4.1 authority p l (C7.mk 0 0)) hv hsg hr,h1.1,rfl,rfl,rfl,rfl,⟨h2.1,rfl⟩,h3.1,h4.1,rfl,⟨hp,hp0⟩,hl,rfl⟩,hd⟩
 have j1:∀ (p:Int) (d':Af),p∈([3,0,1]:List Int)->(authority=false->p=0)->Mo d'->Ok (Bj.j1 issuer subject key id signer authority y1 y2 y3 y4 d' p) (fun y=>hH issuer subject key id signer authority y.1/\Mo y.2):=by
  intro p d' hp hp0 hd
  unfold Bj.j1
  refine Ok.bind (aE hd 3 (by omega) (by omega)) fun y hy=>?_
  refine Ok.cond (fun _=>?_) fun _=>?_
  ·refine Ok.bind (kD (by omega)) fun s hs'=>?_
   refine Ok.bind (Qi (by simp)) fun l hl=>?_
   subst hl hs'
   exact j2 p y.2 _ hp hp0 hy (.inr rfl)
  ·exact j2 p y.2 _ hp hp0 hy (.inl rfl)
 cases ha:authority with
 | true=>
  rw [ha] at j1
  rw [wD]
  refine Ok.bind (Oj h4.2 _ (by decide) (by decide)) fun y5 h5=>?_
  exact j1 _ _ h5.1 (fun h=>by cases h) h5.2
 | false=>
  rw [ha] at j1
  rw [vQ]
  exact j1 _ _ (by decide) (fun _=>rfl) h4.2
end
section
open Go
theorem eP {d:Af} (h:Mo d) {name:ByteArray} {key:Ax} {id:Int} (hs:Eh name=true) (hs31:name.size<=31) (hk:oD key) (hid:0<=id/\id<=2147483648) :
  Ok (Ey d name key id) (fun y=>(y.1.length<=3/\(∀ c∈y.1,Dq c=true/\Kz c)/\R0 key id y.1=true)/\Mo y.2):=by
 unfold Ey
 refine Ok.bind (Oj h _ (by decide) (by decide)) fun y1 h1=>?_
 have hy1:0<=y1.1/\y1.1<=2:=by
  have:=h1.1
  simp only [wA,xE,zZ] at this
  omega
 refine Ok.bind (Jw h1.2 2 (by omega) (by omega)) fun y2 h2=>?_
 have hy2:=h2.1
 refine Ok.loop (fun s=>(0<=s.1/\s.1<=100)/\Eh s.2.1=true/\0<=s.2.2.1/\s.2.2.1<=y1.1/\Mo s.2.2.2.1/\(s.2.2.2.2.length:Int)=s.2.2.1/\∀ c∈s.2.2.2.2,Dq c=true/\Kz c) (fun s=>(y1.1 - s.2.2.1).toNat) (fun s hs'=>?_) ⟨by rw [Hy (by omega)]; constructor <;> omega,by show Eh ⟨#[114,111,111,116]⟩=true; decide +kernel,Int.le_refl _,hy1.1,h2.2,rfl,fun c hc=>by cases hc⟩
 obtain⟨signer,issuer,i,d1,above⟩:=s
 obtain⟨a1,a2,a3,a4,a5,a6,a7⟩:=hs'
 dsimp only at a1 a2 a3 a4 a5 a6 a7
 show Ok (Ey.l1 name key id y1 signer issuer i d1 above) _
 unfold Ey.l1
 refine Ok.cond (fun hb=>?_) fun hb=>?_
 ·have hb:=xB hb
  refine Ok.bind (P8 (by omega) (by show i < (3:Int); omega)) fun e he=>?_
  have hes:Eh e=true/\e.size<=31:=by
   simp only [wA,xE,zZ] at he
   rcases he with rfl | rfl | rfl <;> exact⟨by decide +kernel,by decide⟩
  have e11:W (11 + i)=11 + i:=Hy (by omega)
  refine Ok.bind (Tj a5 true a2 hes.1 hes.2 ⟨⟨⟨by decide,by decide⟩,⟨by decide,by decide⟩⟩,by decide +kernel⟩ (by rw [e11]; omega) (by omega)) fun y3 h3=>?_
  refine Ok.bind (Qi (by simp; omega)) fun l hl=>?_
  subst hl
  rw [Hy (x:=i + 1) (by omega),e11]
  clear e11
  refine Ok.ret ⟨⟨⟨by show 0<=11 + i; omega,by show 11 + i<=100; omega⟩,hes.1,?_,?_,h3.2,?_,?_⟩,?_⟩
  ·show 0<=i + 1; omega
  ·show i + 1<=y1.1; omega
  ·show ((y3.1 :: above).length:Int)=i + 1
   rw [xA]; omega
  ·intro c hc
   rcases wA.1 hc with rfl | hc
   ·exact⟨h3.1.ok,h3.1.fit⟩
   ·exact a7 c hc
  ·show (y1.1 - (i + 1)).toNat < (y1.1 - i).toNat; omega
 ·have hb:=zF hb
  refine Ok.up ?_
  refine Ok.bind (Tj a5 false a2 hs hs31 hk hid (by omega)) fun y4 h4=>?_
  refine Ok.bind (Qi (by simp; omega)) fun l hl=>?_
  subst hl
  refine Ok.ret ⟨⟨?_,?_,?_⟩,h4.2⟩
  ·show ([y4.1] ++ above).length<=3
   rw [vR,vT]; omega
  ·intro c hc
   rcases wA.1 hc with rfl | hc
   ·exact⟨h4.1.ok,h4.1.fit⟩
   ·exact a7 c hc
  ·show (decide (y4.1.Key=key) && decide (y4.1.KeyId=id))=true
   rw [h4.1.key_,h4.1.id_,vL rfl,vL rfl]; rfl
theorem Yj {key:Ax} {id:Int} {l:List Ab} (hk:Iw key 2=true) (hid:0<=id/\id<=2147483648) (hl:l.length<=8) (hc:∀ c∈l,Dq c=true) (hh:R0 key id l=true):F2 key id l=true:=by
 unfold F2 dE
 have h1:(l.any fun c=>!Dq c)=false:=yF.2 fun c h=>by rw [hc c h]; simp
 rw [hk,vK (show ¬ id < 0 by omega),vK (show ¬ 2147483648 < id by omega),vK (show ¬ 8 < (l.length:Int) by omega),h1,hh]
 rfl
end
end Go.Proofs.YtfanepojdefdpaaGreat
