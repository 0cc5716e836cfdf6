/- Plain texts, joined. No program is in sight here. -/
import Derived.Test.YtboglmbblmakjaaGreatDoorL3
import Derived.Test.YtboglmbblmakjaaGreatDoorK6
set_option linter.unusedVariables false
set_option linter.unusedSimpArgs false
set_option maxRecDepth 100000
namespace Go.Proofs.YtboglmbblmakjaaGreatDoor
section
open Go
structure eX (d:Ae):Prop where
 lo:Lo d.L
 at0:0<=d.At
 at1:d.At<=d.L.length
theorem aOj (e n:Int) (hn:1<=n) (hn2:n<=4611686018427387904):Ok (Tt e n) (fun y=>0<=y/\y < n):=by
 unfold Tt
 rw [aBc (by omega),aE8]
 have h1:=Int.tmod_lt_of_pos e (show 0 < n by omega)
 have h2:-n < e.tmod n:=Int.lt_tmod_of_pos e (by omega)
 have h3:=Int.tmod_lt_of_pos (e.tmod n + n) (show 0 < n by omega)
 have h4:=Int.tmod_nonneg n (show 0<=e.tmod n + n by omega)
 unfold dW
 rw [if_neg (by omega),aAy,Hh (by omega),if_neg (by omega)]
 exact⟨_,rfl,h4,h3⟩
theorem Pd {d:Ae} (h:eX d) (n:Int) (hn:1<=n) (hn2:n<=4611686018427387904):Ok (Et d n) (fun y=>(0<=y.1/\y.1 < n)/\eX y.2):=by
 have hl:=h.lo
 unfold Lo at hl
 have h0:=h.at0
 have h1:=h.at1
 unfold Et
 refine Ok.cond (fun hb=>?_) fun hb=>?_
 ·exact Ok.ret ⟨⟨aUn _,by show (0:Int) < n; omega⟩,h⟩
 ·have hb:=aF4 hb
  rw [Hh (x:=d.At + 1) (by omega),Hh (by omega)]
  refine Ok.bind (gJ (by omega) (by omega)) fun e he=>?_
  refine Ok.bind (aOj e n hn hn2) fun y hy=>?_
  exact Ok.ret ⟨hy,⟨h.lo,by show 0<=d.At + 1; omega,by show d.At + 1<=(d.L.length:Int); omega⟩⟩
theorem sF {d:Ae} (h:eX d) (l:List Int) (hl:1<=l.length) (hl2:l.length<=1000):Ok (Ir d l) (fun y=>y.1∈l/\eX y.2):=by
 unfold Ir
 refine Ok.bind (Pd h _ (by omega) (by omega)) fun y hy=>?_
 refine Ok.bind (If (by omega) (by omega)) fun e he=>?_
 exact Ok.ret ⟨he,hy.2⟩
theorem aI5 {d:Ae} (h:eX d) (l:List ByteArray) (hl:1<=l.length) (hl2:l.length<=1000):Ok (L7 d l) (fun y=>y.1∈l/\eX y.2):=by
 unfold L7
 refine Ok.bind (Pd h _ (by omega) (by omega)) fun y hy=>?_
 refine Ok.bind (If (by omega) (by omega)) fun e he=>?_
 exact Ok.ret ⟨he,hy.2⟩
theorem aCa {d:Ae} (h:eX d) (n:Int) (hn:1<=n) (hn2:n<=1000):Ok (La d n) (fun y=>eX y.2):=by
 unfold La
 refine Ok.bind (Pd h _ (by omega) (by omega)) fun y hy=>?_
 exact Ok.ret hy.2
def Sm (n:Int):Prop:=0<=n/\n<=100000
def SmU (u:Ah):Prop:=Sm u.Alg/\Sm u.Bits
def Wl (n:Int):Prop:=-9223372036854775808<=n/\n<=9223372036854775807
theorem Sm.i64 {n:Int} (h:Sm n):Wl n:=by unfold Sm at h; unfold Wl; omega
def aKh:Ab:=Ab.mk 0 ⟨#[]⟩ ⟨#[]⟩ (Ah.mk 0 0) 0 (Ah.mk 0 0) 0 0 false 0 [] (E9.mk 0 0)
def kL (c:Ab):Ab:=Ab.mk c.Serial c.Issuer c.Subject c.Key c.KeyId c.Hash c.From c.To c.Authority c.Path c.Names (E9.mk 0 0)
def iR (c:Ab) (s:E9):Ab:=Ab.mk c.Serial c.Issuer c.Subject c.Key c.KeyId c.Hash c.From c.To c.Authority c.Path c.Names s
theorem aFx {c:Ab} (h1:c.Names.length < 1000000000) (h2:∀ s∈c.Names,s.size<=9223372036854775807) (h3:c.Issuer.size<=9223372036854775807) (h4:c.Subject.size<=9223372036854775807)
  (a1:Wl c.Serial) (a2:Wl c.Key.Alg) (a3:Wl c.Key.Bits) (a4:Wl c.KeyId) (a5:Wl c.Hash.Alg) (a6:Wl c.Hash.Bits) (a7:Wl c.From) (a8:Wl c.To) (a9:Wl c.Path) (b1:Wl c.Seal.Key) (b2:Wl c.Seal.Sum):T1 c:=by
 refine⟨h1,h2,h3,h4,?_⟩
 intro n hn
 simp only [aF6,aGr,aSy] at hn
 rcases hn with rfl | rfl | rfl | rfl | rfl | rfl | rfl | rfl | rfl | rfl | rfl <;> assumption
structure aSw (c:Ab):Prop where
 a1:Wl c.Serial
 a2:Wl c.Key.Alg
 a3:Wl c.Key.Bits
 a4:Wl c.KeyId
 a5:Wl c.Hash.Alg
 a6:Wl c.Hash.Bits
 a7:Wl c.From
 a8:Wl c.To
 a9:Wl c.Path
 b1:Wl c.Seal.Key
 b2:Wl c.Seal.Sum
theorem T1.is {c:Ab} (h:T1 c):aSw c:=by
 have:=h.ints
 constructor <;> exact this _ (by simp)
theorem hY:Wl 0:=⟨by decide,by decide⟩
theorem iU {c:Ab} (h:T1 c) {s:E9} (h1:Wl s.Key) (h2:Wl s.Sum):T1 (iR c s):=by
 have i:=h.is
 exact aFx h.names h.name h.issuer h.subject i.a1 i.a2 i.a3 i.a4 i.a5 i.a6 i.a7 i.a8 i.a9 h1 h2
theorem aHz (c:Ab) (h:T1 c):Qo c=some c:=by
 unfold Qo
 have:=h.names
 rw [Gd (by simp; omega)]
 rfl
def xH (c:Ab) (key:Int):Ab×Int:=bif Is (kL c) && (decide (0<=key) && decide (key<=2147483648)) then (iR c ⟨key,fB (Ov (kL c)).1⟩,0) else (aKh,9)
theorem aFg (b:List UInt8):Wl (fB b):=xX _
theorem aBk (c:Ab) (h:T1 c) (key:Int):Hk c key=some (xH c key):=by
 have hu:T1 (kL c):=iU h hY hY
 unfold Hk
 rw [aHz c h,aAy]
 have e:A8 (Ab.mk c.Serial c.Issuer c.Subject c.Key c.KeyId c.Hash c.From c.To c.Authority c.Path c.Names (E9.mk 0 0))=some (bif Is (kL c) then 0 else 9):=nK (kL c) hu
 rw [e,aAy]
 have j:∀ b,Hk.j1 key c b=some (bif b then (aKh,9) else (iR c ⟨key,fB (Ov (kL c)).1⟩,0)):=by
  intro b
  unfold Hk.j1
  cases b with
  | true=>rfl
  | false=>
   rw [aE8]
   have e2:Nh (Ab.mk c.Serial c.Issuer c.Subject c.Key c.KeyId c.Hash c.From c.To c.Authority c.Path c.Names (E9.mk 0 0))=some (Ov (kL c)):=yO (kL c) hu
   rw [e2,aAy,aGt _ (lX _)]
   rfl
 simp only [j]
 unfold xH
 cases Is (kL c) with
 | false=>rfl
 | true=>
  by_cases a:key < 0
  ·rw [aBd a,aBc (show ¬ 0<=key by omega)]; rfl
  ·rw [aBc a,aBd (show 0<=key by omega)]
   by_cases b:key<=2147483648
   ·rw [aBd b,aBc (show ¬ 2147483648 < key by omega)]; rfl
   ·rw [aBc b,aBd (show 2147483648 < key by omega)]; rfl
end
section
open Go
def qY (s:BitVec 32) (e:UInt8):BitVec 32:=(s ^^^ BitVec.ofNat 32 e.toNat) * 16777619#32
theorem aH7 (s:BitVec 32) (e:UInt8):IntKind.wrap .u32 ((bS .u32 (s.toNat:Int) (IntKind.wrap .u32 (e.toNat:Int))) * 16777619)=((qY s e).toNat:Int):=by
 have he:=e.toNat_lt
 have hx:=(s ^^^ BitVec.ofNat 32 e.toNat).isLt
 have h2:bS .u32 (s.toNat:Int) (IntKind.wrap .u32 (e.toNat:Int))=((s ^^^ BitVec.ofNat 32 e.toNat).toNat:Int):=by
  have h1:IntKind.wrap .u32 (e.toNat:Int)=(e.toNat:Int):=by rw [IntKind.wrap_u32]; omega
  rw [h1]
  show IntKind.u32.wrap ((BitVec.ofInt 32 (s.toNat:Int) ^^^ BitVec.ofInt 32 (e.toNat:Int)).toNat:Int)=_
  rw [BitVec.ofInt_natCast,BitVec.ofInt_natCast]
  have:BitVec.ofNat 32 s.toNat=s:=BitVec.eq_of_toNat_eq (by rw [BitVec.toNat_ofNat]; exact aYa s.isLt)
  rw [this,IntKind.wrap_u32]
  omega
 rw [h2]
 unfold qY
 rw [BitVec.toNat_mul,IntKind.wrap_u32]
 have:(16777619#32).toNat=16777619:=rfl
 rw [this]
 omega
def aR8 (b:List UInt8):BitVec 32:=b.foldl qY 2166136261#32
theorem mT:∀ (b:List UInt8) (s:BitVec 32),b.foldl (fun (s:Int) (e:UInt8)=>IntKind.wrap .u32 ((bS .u32 s (IntKind.wrap .u32 (e.toNat:Int))) * 16777619)) (s.toNat:Int)=((b.foldl qY s).toNat:Int)
 | [],_=>rfl
 | e :: b,s=>by rw [List.foldl_cons,aH7,mT b]; rfl
theorem aHc (b:List UInt8):fB b=((aR8 b).toNat:Int):=by
 have:=mT b 2166136261#32
 rw [show ((2166136261#32).toNat:Int)=2166136261 from rfl] at this
 unfold fB
 rw [this]
 have h2:=(b.foldl qY 2166136261#32).isLt
 exact Hh (by omega)
theorem wE (b:List UInt8):0<=fB b/\fB b < 4294967296:=by
 have:=(aR8 b).isLt
 rw [aHc]; omega
end
section
open Go
theorem uV (c:Ab) (h:vF c):Gz c=some (bif Is c then 0 else 9):=by
 unfold Gz
 rw [jC c h,aAy]
 cases Is c <;> rfl
def aG5 (id:Int):Bool:=decide (id < 0) || decide (2147483648 < id)
def kW (key:Ah) (id:Int):List Ab->Bool
 | []=>true
 | c :: _=>decide (c.Key=key) && decide (c.KeyId=id)
def Zi (key:Ah) (id:Int) (l:List Ab):Bool:=W5 key 2 && (!aG5 id && (!decide (8 < (l.length:Int)) && (!l.any (fun c=>!Is c) && kW key id l)))
theorem aBh (key:Ah) (id:Int) (l:List Ab) :
  (cond (decide ((l.length:Int)=0)) (some true) ((Bn l 0).bind fun e_2=>cond (decide (e_2.Key=key)) (some (decide (e_2.KeyId=id))) (some false)))=some (kW key id l):=by
 cases l with
 | nil=>rfl
 | cons c l=>
  rw [aBc (by simp only [aP9]; omega),aE8]
  show cond (decide (c.Key=key)) (some (decide (c.KeyId=id))) (some false)=some (decide (c.Key=key) && decide (c.KeyId=id))
  cases decide (c.Key=key) <;> rfl
theorem aA3 (key:Ah) (id:Int) (l:List Ab) (hf:∀ c∈l,vF c):Dj key id l=some (Zi key id l):=by
 unfold Dj Zi W5
 rw [Rl,aAy,jN,aAy,gU,aAy]
 have h1:Dj.j1 key id l true=some false:=rfl
 have h0:¬ (8 < (l.length:Int))->Dj.j1 key id l false=some (!l.any (fun c=>!Is c) && kW key id l):=fun h8=>by
  unfold Dj.j1
  rw [aE8]
  refine (rB l (fun c=>!Is c) false (kW key id l) (R3 (by omega)) (fun i c hc=>?_) ?_).trans ?_
  ·show Dj.l2 key id l (i:Int)=_
   unfold Dj.l2
   rw [G0 hc,uV c (hf c (E7 hc)),aAy]
   cases Is c <;> rfl
  ·show Dj.l2 key id l (l.length:Int)=_
   unfold Dj.l2
   rw [Fq,aBh]
   rfl
  ·cases l.any (fun c=>!Is c) <;> rfl
 cases decide (0 < P8 key) with
 | false=>rw [aVw,aHj,h1]; rfl
 | true=>
  rw [aI7,aE8]
  cases decide (Y6 key.Alg=2) with
  | false=>rw [aVw,aHj,h1]; rfl
  | true=>
   rw [aI7,aE8]
   show cond (!!aG5 id) _ _=_
   cases aG5 id with
   | true=>rw [bD3,aHj,h1]; rfl
   | false=>
    rw [bD3,aE8]
    by_cases h8:8 < (l.length:Int)
    ·rw [aBd h8,h1]; rfl
    ·rw [aBc h8,h0 h8]; rfl
end
section
open Go
def aMj (u:Ah):Prop:=SmU u/\W5 u 2=true
theorem aD4 {s:ByteArray} (h:Mh s=true):R8 [s]=true:=by
 have e:R8 [s]=!(!Mh s || false || false):=rfl
 rw [e,h]; rfl
theorem mK {c:Ab}:Is c=true↔((0<=c.Serial/\c.Serial<=1099511627776)/\Mh c.Issuer=true/\Mh c.Subject=true/\R8 c.Names=true/\(c.Names.length:Int)<=8/\W5 c.Key 2=true/\(0<=c.KeyId/\c.KeyId<=2147483648)/\W5 c.Hash 1=true/\(0<=c.Seal.Key/\c.Seal.Key<=2147483648)/\(0<=c.Seal.Sum/\c.Seal.Sum < 4294967296)/\(0<=c.From/\c.From<=c.To/\c.To<=40000)/\(0<=c.Path/\c.Path<=8)/\(c.Authority=true\/c.Path=0)):=by
 unfold Is bC
 simp only [aXx,List.any_nil,id,aWr,Bool.or_eq_false_iff,decide_eq_false_iff_not,Bool.not_eq_false',Bool.and_eq_false_iff,aU9,Bool.or_false]
 constructor
 ·rintro⟨h1,h2,h3,h4,h5,h6,h7,h8,h9,h10,h11,h12,h13,h14,h15,h16,h17,h18,h19,h20⟩
  exact⟨⟨by omega,by omega⟩,h3,h4,h5,by omega,h7,⟨by omega,by omega⟩,h10,⟨by omega,by omega⟩,⟨by omega,by omega⟩,⟨by omega,by omega,by omega⟩,⟨by omega,by omega⟩,h20⟩
 ·rintro⟨⟨h1,h2⟩,h3,h4,h5,h6,h7,⟨h8,h9⟩,h10,⟨h11,h12⟩,⟨h13,h14⟩,⟨h15,h16,h17⟩,⟨h18,h19⟩,h20⟩
  exact⟨by omega,by omega,h3,h4,h5,by omega,h7,by omega,by omega,h10,by omega,by omega,by omega,by omega,by omega,by omega,by omega,by omega,by omega,h20⟩
theorem qG {c:Ab} (h:Is (kL c)=true) {s:E9} (h1:0<=s.Key/\s.Key<=2147483648) (h2:0<=s.Sum/\s.Sum < 4294967296):Is (iR c s)=true:=by
 rw [mK] at h ⊢
 obtain⟨a1,a2,a3,a4,a5,a6,a7,a8,-,-,a11,a12,a13⟩:=h
 exact⟨a1,a2,a3,a4,a5,a6,a7,a8,h1,h2,a11,a12,a13⟩
theorem aW9:(0:Int)<=0/\(0:Int)<=2147483648:=by omega
theorem aV0:(0:Int)<=0/\(0:Int) < 4294967296:=by omega
end
section
open Go
theorem tH {key:Ah} {id:Int} {l:List Ab} (hk:W5 key 2=true) (hid:0<=id/\id<=2147483648) (hl:l.length<=8) (hc:∀ c∈l,Is c=true) (hh:kW key id l=true):Zi key id l=true:=by
 unfold Zi aG5
 have h1:(l.any fun c=>!Is c)=false:=aWz.2 fun c h=>by rw [hc c h]; simp
 rw [hk,aBc (show ¬ id < 0 by omega),aBc (show ¬ 2147483648 < id by omega),aBc (show ¬ 8 < (l.length:Int) by omega),h1,hh]
 rfl
end
end Go.Proofs.YtboglmbblmakjaaGreatDoor
