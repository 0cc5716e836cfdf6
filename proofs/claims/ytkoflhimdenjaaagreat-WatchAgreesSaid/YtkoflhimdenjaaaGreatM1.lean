import Derived.Test.YtkoflhimdenjaaaGreatL3
import Derived.Test.YtkoflhimdenjaaaGreatK6
set_option linter.unusedVariables false
set_option linter.unusedSimpArgs false
namespace Go.Proofs.YtkoflhimdenjaaaGreat
open Go
structure V9 (d:Ah):Prop where
 lo:Lo d.L
 at0:0<=d.At
 at1:d.At<=d.L.length
theorem aA4 (e n:Int) (hn:1<=n) (hn2:n<=4611686018427387904):Ok (Pa e n) (fun y=>0<=y/\y < n):=by
 unfold Pa
 rw [aAy (by omega),aDk]
 have h1:=Int.tmod_lt_of_pos e (show 0 < n by omega)
 have h2:-n < e.tmod n:=Int.lt_tmod_of_pos e (by omega)
 have h3:=Int.tmod_lt_of_pos (e.tmod n + n) (show 0 < n by omega)
 have h4:=Int.tmod_nonneg n (show 0<=e.tmod n + n by omega)
 unfold Wy
 rw [if_neg (by omega),aAf,Ex (by omega),if_neg (by omega)]
 exact⟨_,rfl,h4,h3⟩
theorem Fh {d:Ah} (h:V9 d) (n:Int) (hn:1<=n) (hn2:n<=4611686018427387904):Ok (B0 d n) (fun y=>(0<=y.1/\y.1 < n)/\V9 y.2):=by
 have hl:=h.lo
 unfold Lo at hl
 have h0:=h.at0
 have h1:=h.at1
 unfold B0
 refine Ok.cond (fun hb=>?_) fun hb=>?_
 ·exact Ok.ret ⟨⟨aK0 _,by show (0:Int) < n; omega⟩,h⟩
 ·have hb:=aDm hb
  rw [Ex (x:=d.At + 1) (by omega),Ex (by omega)]
  refine Ok.bind (Rj (by omega) (by omega)) fun e he=>?_
  refine Ok.bind (aA4 e n hn hn2) fun y hy=>?_
  exact Ok.ret ⟨hy,⟨h.lo,by show 0<=d.At + 1; omega,by show d.At + 1<=(d.L.length:Int); omega⟩⟩
theorem qT {d:Ah} (h:V9 d) (l:List Int) (hl:1<=l.length) (hl2:l.length<=1000):Ok (Im d l) (fun y=>y.1∈l/\V9 y.2):=by
 unfold Im
 refine Ok.bind (Fh h _ (by omega) (by omega)) fun y hy=>?_
 refine Ok.bind (Tq (by omega) (by omega)) fun e he=>?_
 exact Ok.ret ⟨he,hy.2⟩
theorem zG {d:Ah} (h:V9 d) (l:List ByteArray) (hl:1<=l.length) (hl2:l.length<=1000):Ok (Ji d l) (fun y=>y.1∈l/\V9 y.2):=by
 unfold Ji
 refine Ok.bind (Fh h _ (by omega) (by omega)) fun y hy=>?_
 refine Ok.bind (Tq (by omega) (by omega)) fun e he=>?_
 exact Ok.ret ⟨he,hy.2⟩
theorem fF {d:Ah} (h:V9 d) (n:Int) (hn:1<=n) (hn2:n<=1000):Ok (Gr d n) (fun y=>V9 y.2):=by
 unfold Gr
 refine Ok.bind (Fh h _ (by omega) (by omega)) fun y hy=>?_
 exact Ok.ret hy.2
def Sm (n:Int):Prop:=0<=n/\n<=100000
def SmU (u:Ar):Prop:=Sm u.Alg/\Sm u.Bits
def Sg (n:Int):Prop:=-9223372036854775808<=n/\n<=9223372036854775807
theorem Sm.i64 {n:Int} (h:Sm n):Sg n:=by unfold Sm at h; unfold Sg; omega
def zN:Ae:=Ae.mk 0 ⟨#[]⟩ ⟨#[]⟩ (Ar.mk 0 0) 0 (Ar.mk 0 0) 0 0 false 0 [] (Er.mk 0 0)
def bJ (c:Ae):Ae:=Ae.mk c.Serial c.Issuer c.Subject c.Key c.KeyId c.Hash c.From c.To c.Authority c.Path c.Names (Er.mk 0 0)
def aG (c:Ae) (s:Er):Ae:=Ae.mk c.Serial c.Issuer c.Subject c.Key c.KeyId c.Hash c.From c.To c.Authority c.Path c.Names s
theorem sL {c:Ae} (h1:c.Names.length < 1000000000) (h2:∀ s∈c.Names,s.size<=9223372036854775807) (h3:c.Issuer.size<=9223372036854775807) (h4:c.Subject.size<=9223372036854775807)
  (a1:Sg c.Serial) (a2:Sg c.Key.Alg) (a3:Sg c.Key.Bits) (a4:Sg c.KeyId) (a5:Sg c.Hash.Alg) (a6:Sg c.Hash.Bits) (a7:Sg c.From) (a8:Sg c.To) (a9:Sg c.Path) (b1:Sg c.Seal.Key) (b2:Sg c.Seal.Sum):S3 c:=by
 refine⟨h1,h2,h3,h4,?_⟩
 intro n hn
 simp only [aDv,aFr,aJh] at hn
 rcases hn with rfl | rfl | rfl | rfl | rfl | rfl | rfl | rfl | rfl | rfl | rfl <;> assumption
structure aFj (c:Ae):Prop where
 a1:Sg c.Serial
 a2:Sg c.Key.Alg
 a3:Sg c.Key.Bits
 a4:Sg c.KeyId
 a5:Sg c.Hash.Alg
 a6:Sg c.Hash.Bits
 a7:Sg c.From
 a8:Sg c.To
 a9:Sg c.Path
 b1:Sg c.Seal.Key
 b2:Sg c.Seal.Sum
theorem S3.is {c:Ae} (h:S3 c):aFj c:=by
 have:=h.ints
 constructor <;> exact this _ (by simp)
theorem aS:Sg 0:=⟨by decide,by decide⟩
theorem Zl {c:Ae} (h:S3 c) {s:Er} (h1:Sg s.Key) (h2:Sg s.Sum):S3 (aG c s):=by
 have i:=h.is
 exact sL h.names h.name h.issuer h.subject i.a1 i.a2 i.a3 i.a4 i.a5 i.a6 i.a7 i.a8 i.a9 h1 h2
theorem xM (c:Ae) (h:S3 c):Lr c=some c:=by
 unfold Lr
 have:=h.names
 rw [Ek (by simp; omega)]
 rfl
def nK (c:Ae) (key:Int):Ae×Int:=bif G2 (bJ c) && (decide (0<=key) && decide (key<=2147483648)) then (aG c ⟨key,fK (P7 (bJ c)).1⟩,0) else (zN,9)
theorem qO (b:List UInt8):Sg (fK b):=nP _
theorem tD (c:Ae) (h:S3 c) (key:Int):Fb c key=some (nK c key):=by
 have hu:S3 (bJ c):=Zl h aS aS
 unfold Fb
 rw [xM c h,aAf]
 have e:A9 (Ae.mk c.Serial c.Issuer c.Subject c.Key c.KeyId c.Hash c.From c.To c.Authority c.Path c.Names (Er.mk 0 0))=some (bif G2 (bJ c) then 0 else 9):=cO (bJ c) hu
 rw [e,aAf]
 have j:∀ b,Fb.j1 key c b=some (bif b then (zN,9) else (aG c ⟨key,fK (P7 (bJ c)).1⟩,0)):=by
  intro b
  unfold Fb.j1
  cases b with
  | true=>rfl
  | false=>
   rw [aDk]
   have e2:J9 (Ae.mk c.Serial c.Issuer c.Subject c.Key c.KeyId c.Hash c.From c.To c.Authority c.Path c.Names (Er.mk 0 0))=some (P7 (bJ c)):=pJ (bJ c) hu
   rw [e2,aAf,yV _ (pT _)]
   rfl
 simp only [j]
 unfold nK
 cases G2 (bJ c) with
 | false=>rfl
 | true=>
  by_cases a:key < 0
  ·rw [aAv a,aAy (show ¬ 0<=key by omega)]; rfl
  ·rw [aAy a,aAv (show 0<=key by omega)]
   by_cases b:key<=2147483648
   ·rw [aAv b,aAy (show ¬ 2147483648 < key by omega)]; rfl
   ·rw [aAy b,aAv (show 2147483648 < key by omega)]; rfl
end Go.Proofs.YtkoflhimdenjaaaGreat
