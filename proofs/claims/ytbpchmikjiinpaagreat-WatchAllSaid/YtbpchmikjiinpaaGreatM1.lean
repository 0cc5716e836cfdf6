import Derived.Test.YtbpchmikjiinpaaGreatL3
import Derived.Test.YtbpchmikjiinpaaGreatK6
set_option linter.unusedVariables false
set_option linter.unusedSimpArgs false
namespace Go.Proofs.YtbpchmikjiinpaaGreat
open Go
structure Jw (d:Ab):Prop where
 lo:Lo d.L
 at0:0<=d.At
 at1:d.At<=d.L.length
theorem aG9 (e n:Int) (hn:1<=n) (hn2:n<=4611686018427387904):Ok (P8 e n) (fun y=>0<=y/\y < n):=by
 unfold P8
 rw [aBv (by omega),aCv]
 have h1:=Int.tmod_lt_of_pos e (show 0 < n by omega)
 have h2:-n < e.tmod n:=Int.lt_tmod_of_pos e (by omega)
 have h3:=Int.tmod_lt_of_pos (e.tmod n + n) (show 0 < n by omega)
 have h4:=Int.tmod_nonneg n (show 0<=e.tmod n + n by omega)
 unfold Yg
 rw [if_neg (by omega),aAc,Dz (by omega),if_neg (by omega)]
 exact⟨_,rfl,h4,h3⟩
theorem Ej {d:Ab} (h:Jw d) (n:Int) (hn:1<=n) (hn2:n<=4611686018427387904):Ok (Bi d n) (fun y=>(0<=y.1/\y.1 < n)/\Jw y.2):=by
 have hl:=h.lo
 unfold Lo at hl
 have h0:=h.at0
 have h1:=h.at1
 unfold Bi
 refine Ok.cond (fun hb=>?_) fun hb=>?_
 ·exact Ok.ret ⟨⟨aR9 _,by show (0:Int) < n; omega⟩,h⟩
 ·have hb:=aCn hb
  rw [Dz (x:=d.At + 1) (by omega),Dz (by omega)]
  refine Ok.bind (Wx (by omega) (by omega)) fun e he=>?_
  refine Ok.bind (aG9 e n hn hn2) fun y hy=>?_
  exact Ok.ret ⟨hy,⟨h.lo,by show 0<=d.At + 1; omega,by show d.At + 1<=(d.L.length:Int); omega⟩⟩
theorem Kt {d:Ab} (h:Jw d) (l:List Int) (hl:1<=l.length) (hl2:l.length<=1000):Ok (B3 d l) (fun y=>y.1∈l/\Jw y.2):=by
 unfold B3
 refine Ok.bind (Ej h _ (by omega) (by omega)) fun y hy=>?_
 refine Ok.bind (M4 (by omega) (by omega)) fun e he=>?_
 exact Ok.ret ⟨he,hy.2⟩
theorem Uw {d:Ab} (h:Jw d) (l:List ByteArray) (hl:1<=l.length) (hl2:l.length<=1000):Ok (Ff d l) (fun y=>y.1∈l/\Jw y.2):=by
 unfold Ff
 refine Ok.bind (Ej h _ (by omega) (by omega)) fun y hy=>?_
 refine Ok.bind (M4 (by omega) (by omega)) fun e he=>?_
 exact Ok.ret ⟨he,hy.2⟩
theorem Uk {d:Ab} (h:Jw d) (n:Int) (hn:1<=n) (hn2:n<=1000):Ok (E3 d n) (fun y=>Jw y.2):=by
 unfold E3
 refine Ok.bind (Ej h _ (by omega) (by omega)) fun y hy=>?_
 exact Ok.ret hy.2
def Sm (n:Int):Prop:=0<=n/\n<=100000
theorem Zg {l:List Int} (h:l.all (fun n=>decide (0<=n) && decide (n<=100000))=true) {n:Int} (hn:n∈l):Sm n:=by
 have:=aG8.1 h n hn
 simpa [Sm] using this
theorem aBu {d:Ab} (h:Jw d) (a:Int):Ok (Cs d a) (fun y=>Sm y.1/\Jw y.2):=by
 have O:∀ l:List Int,1<=l.length->l.length<=1000->l.all (fun n=>decide (0<=n) && decide (n<=100000))=true->Ok ((B3 d l).bind fun y=>some (y.1,y.2)) (fun y=>Sm y.1/\Jw y.2):=fun l h1 h2 h3=>
  Ok.bind (Kt h l h1 h2) fun y hy=>Ok.ret ⟨Zg h3 hy.1,hy.2⟩
 have j3:∀ b,Ok (Cs.j3 d b) (fun y=>Sm y.1/\Jw y.2):=fun b=>by
  unfold Cs.j3
  exact Ok.cond (fun _=>O _ (by decide) (by decide) (by decide)) fun _=>Ok.ret ⟨⟨aR9 0,by show (0:Int)<=100000; decide⟩,h⟩
 have j2:∀ b,Ok (Cs.j2 d a b) (fun y=>Sm y.1/\Jw y.2):=fun b=>by
  unfold Cs.j2
  exact Ok.cond (fun _=>O _ (by decide) (by decide) (by decide)) fun _=>Ok.cond (fun _=>O _ (by decide) (by decide) (by decide)) fun _=>Ok.cond (fun _=>O _ (by decide) (by decide) (by decide)) fun _=>Ok.cond (fun _=>O _ (by decide) (by decide) (by decide)) fun _=>Ok.cond (fun _=>O _ (by decide) (by decide) (by decide)) fun _=>Ok.cond (fun _=>j3 _) fun _=>j3 _
 have j1:∀ b,Ok (Cs.j1 d a b) (fun y=>Sm y.1/\Jw y.2):=fun b=>by
  unfold Cs.j1
  exact Ok.cond (fun _=>O _ (by decide) (by decide) (by decide)) fun _=>Ok.cond (fun _=>j2 _) fun _=>j2 _
 unfold Cs
 exact Ok.cond (fun _=>j1 _) fun _=>Ok.cond (fun _=>j1 _) fun _=>Ok.cond (fun _=>j1 _) fun _=>j1 _
def SmU (u:Aq):Prop:=Sm u.Alg/\Sm u.Bits
def Qq (n:Int):Prop:=-9223372036854775808<=n/\n<=9223372036854775807
theorem Sm.i64 {n:Int} (h:Sm n):Qq n:=by unfold Sm at h; unfold Qq; omega
def aC1:Ah:=Ah.mk 0 ⟨#[]⟩ ⟨#[]⟩ (Aq.mk 0 0) 0 (Aq.mk 0 0) 0 0 false 0 [] (Dy.mk 0 0)
def X0 (c:Ah):Ah:=Ah.mk c.Serial c.Issuer c.Subject c.Key c.KeyId c.Hash c.From c.To c.Authority c.Path c.Names (Dy.mk 0 0)
def Yp (c:Ah) (s:Dy):Ah:=Ah.mk c.Serial c.Issuer c.Subject c.Key c.KeyId c.Hash c.From c.To c.Authority c.Path c.Names s
theorem nA {c:Ah} (h1:c.Names.length < 1000000000) (h2:∀ s∈c.Names,s.size<=9223372036854775807) (h3:c.Issuer.size<=9223372036854775807) (h4:c.Subject.size<=9223372036854775807)
  (a1:Qq c.Serial) (a2:Qq c.Key.Alg) (a3:Qq c.Key.Bits) (a4:Qq c.KeyId) (a5:Qq c.Hash.Alg) (a6:Qq c.Hash.Bits) (a7:Qq c.From) (a8:Qq c.To) (a9:Qq c.Path) (b1:Qq c.Seal.Key) (b2:Qq c.Seal.Sum):Rc c:=by
 refine⟨h1,h2,h3,h4,?_⟩
 intro n hn
 simp only [aC6,aD5,aLd] at hn
 rcases hn with rfl | rfl | rfl | rfl | rfl | rfl | rfl | rfl | rfl | rfl | rfl <;> assumption
structure aKx (c:Ah):Prop where
 a1:Qq c.Serial
 a2:Qq c.Key.Alg
 a3:Qq c.Key.Bits
 a4:Qq c.KeyId
 a5:Qq c.Hash.Alg
 a6:Qq c.Hash.Bits
 a7:Qq c.From
 a8:Qq c.To
 a9:Qq c.Path
 b1:Qq c.Seal.Key
 b2:Qq c.Seal.Sum
theorem Rc.is {c:Ah} (h:Rc c):aKx c:=by
 have:=h.ints
 constructor <;> exact this _ (by simp)
theorem Vs:Qq 0:=⟨by decide,by decide⟩
theorem V8 {c:Ah} (h:Rc c) {s:Dy} (h1:Qq s.Key) (h2:Qq s.Sum):Rc (Yp c s):=by
 have i:=h.is
 exact nA h.names h.name h.issuer h.subject i.a1 i.a2 i.a3 i.a4 i.a5 i.a6 i.a7 i.a8 i.a9 h1 h2
theorem aB8 (c:Ah) (h:Rc c):M3 c=some c:=by
 unfold M3
 have:=h.names
 rw [Dw (by simp; omega)]
 rfl
def fS (c:Ah) (key:Int):Ah×Int:=bif Gu (X0 c) && (decide (0<=key) && decide (key<=2147483648)) then (Yp c ⟨key,cE (N1 (X0 c)).1⟩,0) else (aC1,9)
theorem mA (b:List UInt8):Qq (cE b):=pI _
theorem kY (c:Ah) (h:Rc c) (key:Int):Fo c key=some (fS c key):=by
 have hu:Rc (X0 c):=V8 h Vs Vs
 unfold Fo
 rw [aB8 c h,aAc]
 have e:A8 (Ah.mk c.Serial c.Issuer c.Subject c.Key c.KeyId c.Hash c.From c.To c.Authority c.Path c.Names (Dy.mk 0 0))=some (bif Gu (X0 c) then 0 else 9):=fG (X0 c) hu
 rw [e,aAc]
 have j:∀ b,Fo.j1 key c b=some (bif b then (aC1,9) else (Yp c ⟨key,cE (N1 (X0 c)).1⟩,0)):=by
  intro b
  unfold Fo.j1
  cases b with
  | true=>rfl
  | false=>
   rw [aCv]
   have e2:K0 (Ah.mk c.Serial c.Issuer c.Subject c.Key c.KeyId c.Hash c.From c.To c.Authority c.Path c.Names (Dy.mk 0 0))=some (N1 (X0 c)):=sR (X0 c) hu
   rw [e2,aAc,aBr _ (qY _)]
   rfl
 simp only [j]
 unfold fS
 cases Gu (X0 c) with
 | false=>rfl
 | true=>
  by_cases a:key < 0
  ·rw [aBe a,aBv (show ¬ 0<=key by omega)]; rfl
  ·rw [aBv a,aBe (show 0<=key by omega)]
   by_cases b:key<=2147483648
   ·rw [aBe b,aBv (show ¬ 2147483648 < key by omega)]; rfl
   ·rw [aBv b,aBe (show 2147483648 < key by omega)]; rfl
end Go.Proofs.YtbpchmikjiinpaaGreat
