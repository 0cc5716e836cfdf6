import Derived.Test.YtkioneinddihlaaGreatL3
import Derived.Test.YtkioneinddihlaaGreatK6
set_option linter.unusedVariables false
set_option linter.unusedSimpArgs false
namespace Go.Proofs.YtkioneinddihlaaGreat
open Go
structure Hj (d:Ab):Prop where
 lo:Lo d.L
 at0:0<=d.At
 at1:d.At<=d.L.length
theorem dW (e n:Int) (hn:1<=n) (hn2:n<=4611686018427387904):Ok (Ke e n) (fun y=>0<=y/\y < n):=by
 unfold Ke
 rw [aAk (by omega),aD6]
 have h1:=Int.tmod_lt_of_pos e (show 0 < n by omega)
 have h2:-n < e.tmod n:=Int.lt_tmod_of_pos e (by omega)
 have h3:=Int.tmod_lt_of_pos (e.tmod n + n) (show 0 < n by omega)
 have h4:=Int.tmod_nonneg n (show 0<=e.tmod n + n by omega)
 unfold V2
 rw [if_neg (by omega),aAc,Db (by omega),if_neg (by omega)]
 exact⟨_,rfl,h4,h3⟩
theorem D4 {d:Ab} (h:Hj d) (n:Int) (hn:1<=n) (hn2:n<=4611686018427387904):Ok (A3 d n) (fun y=>(0<=y.1/\y.1 < n)/\Hj y.2):=by
 have hl:=h.lo
 unfold Lo at hl
 have h0:=h.at0
 have h1:=h.at1
 unfold A3
 refine Ok.cond (fun hb=>?_) fun hb=>?_
 ·exact Ok.ret ⟨⟨aO5 _,by show (0:Int) < n; omega⟩,h⟩
 ·have hb:=aDs hb
  rw [Db (x:=d.At + 1) (by omega),Db (by omega)]
  refine Ok.bind (Sf (by omega) (by omega)) fun e he=>?_
  refine Ok.bind (dW e n hn hn2) fun y hy=>?_
  exact Ok.ret ⟨hy,⟨h.lo,by show 0<=d.At + 1; omega,by show d.At + 1<=(d.L.length:Int); omega⟩⟩
theorem Ks {d:Ab} (h:Hj d) (l:List Int) (hl:1<=l.length) (hl2:l.length<=1000):Ok (Cf d l) (fun y=>y.1∈l/\Hj y.2):=by
 unfold Cf
 refine Ok.bind (D4 h _ (by omega) (by omega)) fun y hy=>?_
 refine Ok.bind (Gr (by omega) (by omega)) fun e he=>?_
 exact Ok.ret ⟨he,hy.2⟩
theorem nF {d:Ab} (h:Hj d) (l:List ByteArray) (hl:1<=l.length) (hl2:l.length<=1000):Ok (Hx d l) (fun y=>y.1∈l/\Hj y.2):=by
 unfold Hx
 refine Ok.bind (D4 h _ (by omega) (by omega)) fun y hy=>?_
 refine Ok.bind (Gr (by omega) (by omega)) fun e he=>?_
 exact Ok.ret ⟨he,hy.2⟩
theorem O7 {d:Ab} (h:Hj d) (n:Int) (hn:1<=n) (hn2:n<=1000):Ok (Ed d n) (fun y=>Hj y.2):=by
 unfold Ed
 refine Ok.bind (D4 h _ (by omega) (by omega)) fun y hy=>?_
 exact Ok.ret hy.2
def Sm (n:Int):Prop:=0<=n/\n<=100000
theorem Wz {l:List Int} (h:l.all (fun n=>decide (0<=n) && decide (n<=100000))=true) {n:Int} (hn:n∈l):Sm n:=by
 have:=aHf.1 h n hn
 simpa [Sm] using this
theorem yF {d:Ab} (h:Hj d) (a:Int):Ok (Cy d a) (fun y=>Sm y.1/\Hj y.2):=by
 have O:∀ l:List Int,1<=l.length->l.length<=1000->l.all (fun n=>decide (0<=n) && decide (n<=100000))=true->Ok ((Cf d l).bind fun y=>some (y.1,y.2)) (fun y=>Sm y.1/\Hj y.2):=fun l h1 h2 h3=>
  Ok.bind (Ks h l h1 h2) fun y hy=>Ok.ret ⟨Wz h3 hy.1,hy.2⟩
 have j3:∀ b,Ok (Cy.j3 d b) (fun y=>Sm y.1/\Hj y.2):=fun b=>by
  unfold Cy.j3
  exact Ok.cond (fun _=>O _ (by decide) (by decide) (by decide)) fun _=>Ok.ret ⟨⟨aO5 0,by show (0:Int)<=100000; decide⟩,h⟩
 have j2:∀ b,Ok (Cy.j2 d a b) (fun y=>Sm y.1/\Hj y.2):=fun b=>by
  unfold Cy.j2
  exact Ok.cond (fun _=>O _ (by decide) (by decide) (by decide)) fun _=>Ok.cond (fun _=>O _ (by decide) (by decide) (by decide)) fun _=>Ok.cond (fun _=>O _ (by decide) (by decide) (by decide)) fun _=>Ok.cond (fun _=>O _ (by decide) (by decide) (by decide)) fun _=>Ok.cond (fun _=>O _ (by decide) (by decide) (by decide)) fun _=>Ok.cond (fun _=>j3 _) fun _=>j3 _
 have j1:∀ b,Ok (Cy.j1 d a b) (fun y=>Sm y.1/\Hj y.2):=fun b=>by
  unfold Cy.j1
  exact Ok.cond (fun _=>O _ (by decide) (by decide) (by decide)) fun _=>Ok.cond (fun _=>j2 _) fun _=>j2 _
 unfold Cy
 exact Ok.cond (fun _=>j1 _) fun _=>Ok.cond (fun _=>j1 _) fun _=>Ok.cond (fun _=>j1 _) fun _=>j1 _
def SmU (u:Av):Prop:=Sm u.Alg/\Sm u.Bits
def Og (n:Int):Prop:=-9223372036854775808<=n/\n<=9223372036854775807
theorem Sm.i64 {n:Int} (h:Sm n):Og n:=by unfold Sm at h; unfold Og; omega
def aAe:Ah:=Ah.mk 0 ⟨#[]⟩ ⟨#[]⟩ (Av.mk 0 0) 0 (Av.mk 0 0) 0 0 false 0 [] (Eb.mk 0 0)
def V1 (c:Ah):Ah:=Ah.mk c.Serial c.Issuer c.Subject c.Key c.KeyId c.Hash c.From c.To c.Authority c.Path c.Names (Eb.mk 0 0)
def Wl (c:Ah) (s:Eb):Ah:=Ah.mk c.Serial c.Issuer c.Subject c.Key c.KeyId c.Hash c.From c.To c.Authority c.Path c.Names s
theorem kF {c:Ah} (h1:c.Names.length < 1000000000) (h2:∀ s∈c.Names,s.size<=9223372036854775807) (h3:c.Issuer.size<=9223372036854775807) (h4:c.Subject.size<=9223372036854775807)
  (a1:Og c.Serial) (a2:Og c.Key.Alg) (a3:Og c.Key.Bits) (a4:Og c.KeyId) (a5:Og c.Hash.Alg) (a6:Og c.Hash.Bits) (a7:Og c.From) (a8:Og c.To) (a9:Og c.Path) (b1:Og c.Seal.Key) (b2:Og c.Seal.Sum):Px c:=by
 refine⟨h1,h2,h3,h4,?_⟩
 intro n hn
 simp only [aE7,aHp,aLl] at hn
 rcases hn with rfl | rfl | rfl | rfl | rfl | rfl | rfl | rfl | rfl | rfl | rfl <;> assumption
structure aG2 (c:Ah):Prop where
 a1:Og c.Serial
 a2:Og c.Key.Alg
 a3:Og c.Key.Bits
 a4:Og c.KeyId
 a5:Og c.Hash.Alg
 a6:Og c.Hash.Bits
 a7:Og c.From
 a8:Og c.To
 a9:Og c.Path
 b1:Og c.Seal.Key
 b2:Og c.Seal.Sum
theorem Px.is {c:Ah} (h:Px c):aG2 c:=by
 have:=h.ints
 constructor <;> exact this _ (by simp)
theorem S9:Og 0:=⟨by decide,by decide⟩
theorem Ts {c:Ah} (h:Px c) {s:Eb} (h1:Og s.Key) (h2:Og s.Sum):Px (Wl c s):=by
 have i:=h.is
 exact kF h.names h.name h.issuer h.subject i.a1 i.a2 i.a3 i.a4 i.a5 i.a6 i.a7 i.a8 i.a9 h1 h2
theorem wX (c:Ah) (h:Px c):Lr c=some c:=by
 unfold Lr
 have:=h.names
 rw [Fv (by simp; omega)]
 rfl
def cD (c:Ah) (key:Int):Ah×Int:=bif Ge (V1 c) && (decide (0<=key) && decide (key<=2147483648)) then (Wl c ⟨key,Zm (Mc (V1 c)).1⟩,0) else (aAe,9)
theorem iE (b:List UInt8):Og (Zm b):=nB _
theorem jG (c:Ah) (h:Px c) (key:Int):Fa c key=some (cD c key):=by
 have hu:Px (V1 c):=Ts h S9 S9
 unfold Fa
 rw [wX c h,aAc]
 have e:Ba (Ah.mk c.Serial c.Issuer c.Subject c.Key c.KeyId c.Hash c.From c.To c.Authority c.Path c.Names (Eb.mk 0 0))=some (bif Ge (V1 c) then 0 else 9):=cH (V1 c) hu
 rw [e,aAc]
 have j:∀ b,Fa.j1 key c b=some (bif b then (aAe,9) else (Wl c ⟨key,Zm (Mc (V1 c)).1⟩,0)):=by
  intro b
  unfold Fa.j1
  cases b with
  | true=>rfl
  | false=>
   rw [aD6]
   have e2:Jo (Ah.mk c.Serial c.Issuer c.Subject c.Key c.KeyId c.Hash c.From c.To c.Authority c.Path c.Names (Eb.mk 0 0))=some (Mc (V1 c)):=oZ (V1 c) hu
   rw [e2,aAc,zJ _ (oK _)]
   rfl
 simp only [j]
 unfold cD
 cases Ge (V1 c) with
 | false=>rfl
 | true=>
  by_cases a:key < 0
  ·rw [aAg a,aAk (show ¬ 0<=key by omega)]; rfl
  ·rw [aAk a,aAg (show 0<=key by omega)]
   by_cases b:key<=2147483648
   ·rw [aAg b,aAk (show ¬ 2147483648 < key by omega)]; rfl
   ·rw [aAk b,aAg (show 2147483648 < key by omega)]; rfl
end Go.Proofs.YtkioneinddihlaaGreat
