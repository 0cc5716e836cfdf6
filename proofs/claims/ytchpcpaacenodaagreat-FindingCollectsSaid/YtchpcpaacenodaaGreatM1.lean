import Derived.Test.YtchpcpaacenodaaGreatL3
import Derived.Test.YtchpcpaacenodaaGreatK6
set_option linter.unusedVariables false
set_option linter.unusedSimpArgs false
namespace Go.Proofs.YtchpcpaacenodaaGreat
open Go
structure Lj (d:Ac):Prop where
 lo:Lo d.L
 at0:0<=d.At
 at1:d.At<=d.L.length
theorem aAv (e n:Int) (hn:1<=n) (hn2:n<=4611686018427387904):Ok (Pc e n) (fun y=>0<=y/\y < n):=by
 unfold Pc
 rw [aAg (by omega),aCx]
 have h1:=Int.tmod_lt_of_pos e (show 0 < n by omega)
 have h2:-n < e.tmod n:=Int.lt_tmod_of_pos e (by omega)
 have h3:=Int.tmod_lt_of_pos (e.tmod n + n) (show 0 < n by omega)
 have h4:=Int.tmod_nonneg n (show 0<=e.tmod n + n by omega)
 unfold Xu
 rw [if_neg (by omega),aAc,Es (by omega),if_neg (by omega)]
 exact⟨_,rfl,h4,h3⟩
theorem Fq {d:Ac} (h:Lj d) (n:Int) (hn:1<=n) (hn2:n<=4611686018427387904):Ok (Bv d n) (fun y=>(0<=y.1/\y.1 < n)/\Lj y.2):=by
 have hl:=h.lo
 unfold Lo at hl
 have h0:=h.at0
 have h1:=h.at1
 unfold Bv
 refine Ok.cond (fun hb=>?_) fun hb=>?_
 ·exact Ok.ret ⟨⟨aJ5 _,by show (0:Int) < n; omega⟩,h⟩
 ·have hb:=aD7 hb
  rw [Es (x:=d.At + 1) (by omega),Es (by omega)]
  refine Ok.bind (W8 (by omega) (by omega)) fun e he=>?_
  refine Ok.bind (aAv e n hn hn2) fun y hy=>?_
  exact Ok.ret ⟨hy,⟨h.lo,by show 0<=d.At + 1; omega,by show d.At + 1<=(d.L.length:Int); omega⟩⟩
theorem Iw {d:Ac} (h:Lj d) (l:List Int) (hl:1<=l.length) (hl2:l.length<=1000):Ok (Bs d l) (fun y=>y.1∈l/\Lj y.2):=by
 unfold Bs
 refine Ok.bind (Fq h _ (by omega) (by omega)) fun y hy=>?_
 refine Ok.bind (K8 (by omega) (by omega)) fun e he=>?_
 exact Ok.ret ⟨he,hy.2⟩
theorem Uy {d:Ac} (h:Lj d) (l:List ByteArray) (hl:1<=l.length) (hl2:l.length<=1000):Ok (Ff d l) (fun y=>y.1∈l/\Lj y.2):=by
 unfold Ff
 refine Ok.bind (Fq h _ (by omega) (by omega)) fun y hy=>?_
 refine Ok.bind (K8 (by omega) (by omega)) fun e he=>?_
 exact Ok.ret ⟨he,hy.2⟩
theorem Vs {d:Ac} (h:Lj d) (n:Int) (hn:1<=n) (hn2:n<=1000):Ok (Fb d n) (fun y=>Lj y.2):=by
 unfold Fb
 refine Ok.bind (Fq h _ (by omega) (by omega)) fun y hy=>?_
 exact Ok.ret hy.2
def Sm (n:Int):Prop:=0<=n/\n<=100000
theorem Yq {l:List Int} (h:l.all (fun n=>decide (0<=n) && decide (n<=100000))=true) {n:Int} (hn:n∈l):Sm n:=by
 have:=aGf.1 h n hn
 simpa [Sm] using this
theorem oJ {d:Ac} (h:Lj d) (a:Int):Ok (Cn d a) (fun y=>Sm y.1/\Lj y.2):=by
 have O:∀ l:List Int,1<=l.length->l.length<=1000->l.all (fun n=>decide (0<=n) && decide (n<=100000))=true->Ok ((Bs d l).bind fun y=>some (y.1,y.2)) (fun y=>Sm y.1/\Lj y.2):=fun l h1 h2 h3=>
  Ok.bind (Iw h l h1 h2) fun y hy=>Ok.ret ⟨Yq h3 hy.1,hy.2⟩
 have j3:∀ b,Ok (Cn.j3 d b) (fun y=>Sm y.1/\Lj y.2):=fun b=>by
  unfold Cn.j3
  exact Ok.cond (fun _=>O _ (by decide) (by decide) (by decide)) fun _=>Ok.ret ⟨⟨aJ5 0,by show (0:Int)<=100000; decide⟩,h⟩
 have j2:∀ b,Ok (Cn.j2 d a b) (fun y=>Sm y.1/\Lj y.2):=fun b=>by
  unfold Cn.j2
  exact Ok.cond (fun _=>O _ (by decide) (by decide) (by decide)) fun _=>Ok.cond (fun _=>O _ (by decide) (by decide) (by decide)) fun _=>Ok.cond (fun _=>O _ (by decide) (by decide) (by decide)) fun _=>Ok.cond (fun _=>O _ (by decide) (by decide) (by decide)) fun _=>Ok.cond (fun _=>O _ (by decide) (by decide) (by decide)) fun _=>Ok.cond (fun _=>j3 _) fun _=>j3 _
 have j1:∀ b,Ok (Cn.j1 d a b) (fun y=>Sm y.1/\Lj y.2):=fun b=>by
  unfold Cn.j1
  exact Ok.cond (fun _=>O _ (by decide) (by decide) (by decide)) fun _=>Ok.cond (fun _=>j2 _) fun _=>j2 _
 unfold Cn
 exact Ok.cond (fun _=>j1 _) fun _=>Ok.cond (fun _=>j1 _) fun _=>Ok.cond (fun _=>j1 _) fun _=>j1 _
def SmU (u:Am):Prop:=Sm u.Alg/\Sm u.Bits
def Qi (n:Int):Prop:=-9223372036854775808<=n/\n<=9223372036854775807
theorem Sm.i64 {n:Int} (h:Sm n):Qi n:=by unfold Sm at h; unfold Qi; omega
def zI:Af:=Af.mk 0 ⟨#[]⟩ ⟨#[]⟩ (Am.mk 0 0) 0 (Am.mk 0 0) 0 0 false 0 [] (Eu.mk 0 0)
def Y0 (c:Af):Af:=Af.mk c.Serial c.Issuer c.Subject c.Key c.KeyId c.Hash c.From c.To c.Authority c.Path c.Names (Eu.mk 0 0)
def Z4 (c:Af) (s:Eu):Af:=Af.mk c.Serial c.Issuer c.Subject c.Key c.KeyId c.Hash c.From c.To c.Authority c.Path c.Names s
theorem sW {c:Af} (h1:c.Names.length < 1000000000) (h2:∀ s∈c.Names,s.size<=9223372036854775807) (h3:c.Issuer.size<=9223372036854775807) (h4:c.Subject.size<=9223372036854775807)
  (a1:Qi c.Serial) (a2:Qi c.Key.Alg) (a3:Qi c.Key.Bits) (a4:Qi c.KeyId) (a5:Qi c.Hash.Alg) (a6:Qi c.Hash.Bits) (a7:Qi c.From) (a8:Qi c.To) (a9:Qi c.Path) (b1:Qi c.Seal.Key) (b2:Qi c.Seal.Sum):P7 c:=by
 refine⟨h1,h2,h3,h4,?_⟩
 intro n hn
 simp only [aFt,aGi,aIe] at hn
 rcases hn with rfl | rfl | rfl | rfl | rfl | rfl | rfl | rfl | rfl | rfl | rfl <;> assumption
structure aE6 (c:Af):Prop where
 a1:Qi c.Serial
 a2:Qi c.Key.Alg
 a3:Qi c.Key.Bits
 a4:Qi c.KeyId
 a5:Qi c.Hash.Alg
 a6:Qi c.Hash.Bits
 a7:Qi c.From
 a8:Qi c.To
 a9:Qi c.Path
 b1:Qi c.Seal.Key
 b2:Qi c.Seal.Sum
theorem P7.is {c:Af} (h:P7 c):aE6 c:=by
 have:=h.ints
 constructor <;> exact this _ (by simp)
theorem iI:Qi 0:=⟨by decide,by decide⟩
theorem Zv {c:Af} (h:P7 c) {s:Eu} (h1:Qi s.Key) (h2:Qi s.Sum):P7 (Z4 c s):=by
 have i:=h.is
 exact sW h.names h.name h.issuer h.subject i.a1 i.a2 i.a3 i.a4 i.a5 i.a6 i.a7 i.a8 i.a9 h1 h2
theorem wU (c:Af) (h:P7 c):Ls c=some c:=by
 unfold Ls
 have:=h.names
 rw [Fr (by simp; omega)]
 rfl
def nQ (c:Af) (key:Int):Af×Int:=bif Fx (Y0 c) && (decide (0<=key) && decide (key<=2147483648)) then (Z4 c ⟨key,cN (O9 (Y0 c)).1⟩,0) else (zI,9)
theorem uN (b:List UInt8):Qi (cN b):=oN _
theorem vJ (c:Af) (h:P7 c) (key:Int):Fm c key=some (nQ c key):=by
 have hu:P7 (Y0 c):=Zv h iI iI
 unfold Fm
 rw [wU c h,aAc]
 have e:Ba (Af.mk c.Serial c.Issuer c.Subject c.Key c.KeyId c.Hash c.From c.To c.Authority c.Path c.Names (Eu.mk 0 0))=some (bif Fx (Y0 c) then 0 else 9):=dT (Y0 c) hu
 rw [e,aAc]
 have j:∀ b,Fm.j1 key c b=some (bif b then (zI,9) else (Z4 c ⟨key,cN (O9 (Y0 c)).1⟩,0)):=by
  intro b
  unfold Fm.j1
  cases b with
  | true=>rfl
  | false=>
   rw [aCx]
   have e2:Ka (Af.mk c.Serial c.Issuer c.Subject c.Key c.KeyId c.Hash c.From c.To c.Authority c.Path c.Names (Eu.mk 0 0))=some (O9 (Y0 c)):=qN (Y0 c) hu
   rw [e2,aAc,yX _ (qB _)]
   rfl
 simp only [j]
 unfold nQ
 cases Fx (Y0 c) with
 | false=>rfl
 | true=>
  by_cases a:key < 0
  ·rw [aAe a,aAg (show ¬ 0<=key by omega)]; rfl
  ·rw [aAg a,aAe (show 0<=key by omega)]
   by_cases b:key<=2147483648
   ·rw [aAe b,aAg (show ¬ 2147483648 < key by omega)]; rfl
   ·rw [aAg b,aAe (show 2147483648 < key by omega)]; rfl
end Go.Proofs.YtchpcpaacenodaaGreat
