/- Plain texts, joined. No program is in sight here. -/
import Derived.Test.YtlfeokjhphpjeaaGreatL3
import Derived.Test.YtlfeokjhphpjeaaGreatK6
set_option linter.unusedVariables false
set_option linter.unusedSimpArgs false
set_option maxRecDepth 100000
namespace Go.Proofs.YtlfeokjhphpjeaaGreat
section
open Go
structure Ss (d:Ak):Prop where
 lo:Lo d.L
 at0:0<=d.At
 at1:d.At<=d.L.length
theorem sZ (e n:Int) (hn:1<=n) (hn2:n<=4611686018427387904):Ok (L1 e n) (fun y=>0<=y/\y < n):=by
 unfold L1
 rw [decide_eq_false (by omega),cond_false]
 have h1:=Int.tmod_lt_of_pos e (show 0 < n by omega)
 have h2:-n < e.tmod n:=Int.lt_tmod_of_pos e (by omega)
 have h3:=Int.tmod_lt_of_pos (e.tmod n + n) (show 0 < n by omega)
 have h4:=Int.tmod_nonneg n (show 0<=e.tmod n + n by omega)
 unfold Rj
 rw [if_neg (by omega),Option.bind_some,Fv (by omega),if_neg (by omega)]
 exact⟨_,rfl,h4,h3⟩
theorem Jf {d:Ak} (h:Ss d) (n:Int) (hn:1<=n) (hn2:n<=4611686018427387904):Ok (Cs d n) (fun y=>(0<=y.1/\y.1 < n)/\Ss y.2):=by
 have hl:=h.lo
 unfold Lo at hl
 have h0:=h.at0
 have h1:=h.at1
 unfold Cs
 refine Ok.cond (fun hb=>?_) fun hb=>?_
 ·exact Ok.ret ⟨⟨Int.le_refl _,by show (0:Int) < n; omega⟩,h⟩
 ·have hb:=of_decide_eq_false hb
  rw [Fv (x:=d.At + 1) (by omega),Fv (by omega)]
  refine Ok.bind (N4 (by omega) (by omega)) fun e he=>?_
  refine Ok.bind (sZ e n hn hn2) fun y hy=>?_
  exact Ok.ret ⟨hy,⟨h.lo,by show 0<=d.At + 1; omega,by show d.At + 1<=(d.L.length:Int); omega⟩⟩
theorem Kv {d:Ak} (h:Ss d) (l:List Int) (hl:1<=l.length) (hl2:l.length<=1000):Ok (Bo d l) (fun y=>y.1∈l/\Ss y.2):=by
 unfold Bo
 refine Ok.bind (Jf h _ (by omega) (by omega)) fun y hy=>?_
 refine Ok.bind (Vy (by omega) (by omega)) fun e he=>?_
 exact Ok.ret ⟨he,hy.2⟩
theorem R5 {d:Ak} (h:Ss d) (l:List ByteArray) (hl:1<=l.length) (hl2:l.length<=1000):Ok (En d l) (fun y=>y.1∈l/\Ss y.2):=by
 unfold En
 refine Ok.bind (Jf h _ (by omega) (by omega)) fun y hy=>?_
 refine Ok.bind (Vy (by omega) (by omega)) fun e he=>?_
 exact Ok.ret ⟨he,hy.2⟩
theorem kR {d:Ak} (h:Ss d) (n:Int) (hn:1<=n) (hn2:n<=1000):Ok (Gx d n) (fun y=>Ss y.2):=by
 unfold Gx
 refine Ok.bind (Jf h _ (by omega) (by omega)) fun y hy=>?_
 exact Ok.ret hy.2
def Sm (n:Int):Prop:=0<=n/\n<=100000
theorem Yl {l:List Int} (h:l.all (fun n=>decide (0<=n) && decide (n<=100000))=true) {n:Int} (hn:n∈l):Sm n:=by
 have:=List.all_eq_true.1 h n hn
 simpa [Sm] using this
theorem pD {d:Ak} (h:Ss d) (a:Int):Ok (B4 d a) (fun y=>Sm y.1/\Ss y.2):=by
 have O:∀ l:List Int,1<=l.length->l.length<=1000->l.all (fun n=>decide (0<=n) && decide (n<=100000))=true->Ok ((Bo d l).bind fun y=>some (y.1,y.2)) (fun y=>Sm y.1/\Ss y.2):=fun l h1 h2 h3=>
  Ok.bind (Kv h l h1 h2) fun y hy=>Ok.ret ⟨Yl h3 hy.1,hy.2⟩
 have j3:∀ b,Ok (B4.j3 d b) (fun y=>Sm y.1/\Ss y.2):=fun b=>by
  unfold B4.j3
  exact Ok.cond (fun _=>O _ (by decide) (by decide) (by decide)) fun _=>Ok.ret ⟨⟨Int.le_refl 0,by show (0:Int)<=100000; decide⟩,h⟩
 have j2:∀ b,Ok (B4.j2 d a b) (fun y=>Sm y.1/\Ss y.2):=fun b=>by
  unfold B4.j2
  exact Ok.cond (fun _=>O _ (by decide) (by decide) (by decide)) fun _=>Ok.cond (fun _=>O _ (by decide) (by decide) (by decide)) fun _=>Ok.cond (fun _=>O _ (by decide) (by decide) (by decide)) fun _=>Ok.cond (fun _=>O _ (by decide) (by decide) (by decide)) fun _=>Ok.cond (fun _=>O _ (by decide) (by decide) (by decide)) fun _=>Ok.cond (fun _=>j3 _) fun _=>j3 _
 have j1:∀ b,Ok (B4.j1 d a b) (fun y=>Sm y.1/\Ss y.2):=fun b=>by
  unfold B4.j1
  exact Ok.cond (fun _=>O _ (by decide) (by decide) (by decide)) fun _=>Ok.cond (fun _=>j2 _) fun _=>j2 _
 unfold B4
 exact Ok.cond (fun _=>j1 _) fun _=>Ok.cond (fun _=>j1 _) fun _=>Ok.cond (fun _=>j1 _) fun _=>j1 _
def SmU (u:A3):Prop:=Sm u.Alg/\Sm u.Bits
theorem vY {d:Ak} (h:Ss d):Ok (Mj d) (fun y=>SmU y.1/\Ss y.2):=by
 unfold Mj
 refine Ok.bind (Kv h _ (by decide) (by decide)) fun y hy=>?_
 refine Ok.bind (pD hy.2 y.1) fun z hz=>?_
 exact Ok.ret ⟨⟨Yl (by decide) hy.1,hz.1⟩,hz.2⟩
def K8 (n:Int):Prop:=-9223372036854775808<=n/\n<=9223372036854775807
theorem Sm.i64 {n:Int} (h:Sm n):K8 n:=by unfold Sm at h; unfold K8; omega
def cG:Ab:=Ab.mk 0 ⟨#[]⟩ ⟨#[]⟩ (A3.mk 0 0) 0 (A3.mk 0 0) 0 0 false 0 [] (Bv.mk 0 0)
def O2 (c:Ab):Ab:=Ab.mk c.Serial c.Issuer c.Subject c.Key c.KeyId c.Hash c.From c.To c.Authority c.Path c.Names (Bv.mk 0 0)
def Zf (c:Ab) (s:Bv):Ab:=Ab.mk c.Serial c.Issuer c.Subject c.Key c.KeyId c.Hash c.From c.To c.Authority c.Path c.Names s
theorem I4 {c:Ab} (h1:c.Names.length < 1000000000) (h2:∀ s∈c.Names,s.size<=9223372036854775807) (h3:c.Issuer.size<=9223372036854775807) (h4:c.Subject.size<=9223372036854775807)
  (a1:K8 c.Serial) (a2:K8 c.Key.Alg) (a3:K8 c.Key.Bits) (a4:K8 c.KeyId) (a5:K8 c.Hash.Alg) (a6:K8 c.Hash.Bits) (a7:K8 c.From) (a8:K8 c.To) (a9:K8 c.Path) (b1:K8 c.Seal.Key) (b2:K8 c.Seal.Sum):Ik c:=by
 refine⟨h1,h2,h3,h4,?_⟩
 intro n hn
 simp only [List.mem_cons,List.not_mem_nil,or_false] at hn
 rcases hn with rfl | rfl | rfl | rfl | rfl | rfl | rfl | rfl | rfl | rfl | rfl <;> assumption
structure xW (c:Ab):Prop where
 a1:K8 c.Serial
 a2:K8 c.Key.Alg
 a3:K8 c.Key.Bits
 a4:K8 c.KeyId
 a5:K8 c.Hash.Alg
 a6:K8 c.Hash.Bits
 a7:K8 c.From
 a8:K8 c.To
 a9:K8 c.Path
 b1:K8 c.Seal.Key
 b2:K8 c.Seal.Sum
theorem Ik.is {c:Ab} (h:Ik c):xW c:=by
 have:=h.ints
 constructor <;> exact this _ (by simp)
theorem Ho:K8 0:=⟨by decide,by decide⟩
theorem iT:Ik cG:=I4 (by decide) (by intro s hs; cases hs) (by decide) (by decide) Ho Ho Ho Ho Ho Ho Ho Ho Ho Ho Ho
theorem Q0 {c:Ab} (h:Ik c) {s:Bv} (h1:K8 s.Key) (h2:K8 s.Sum):Ik (Zf c s):=by
 have i:=h.is
 exact I4 h.names h.name h.issuer h.subject i.a1 i.a2 i.a3 i.a4 i.a5 i.a6 i.a7 i.a8 i.a9 h1 h2
theorem qA (c:Ab) (h:Ik c):Jx c=some c:=by
 unfold Jx
 have:=h.names
 rw [D5 (by simp; omega)]
 rfl
def Nl (c:Ab) (key:Int):Ab×Int:=bif Fq (O2 c) && (decide (0<=key) && decide (key<=2147483648)) then (Zf c ⟨key,aM (G4 (O2 c)).1⟩,0) else (cG,9)
theorem mN (b:List UInt8):K8 (aM b):=Zd _
theorem kN (c:Ab) (h:Ik c) (key:Int):Ed c key=some (Nl c key):=by
 have hu:Ik (O2 c):=Q0 h Ho Ho
 unfold Ed
 rw [qA c h,Option.bind_some]
 have e:Ar (Ab.mk c.Serial c.Issuer c.Subject c.Key c.KeyId c.Hash c.From c.To c.Authority c.Path c.Names (Bv.mk 0 0))=some (bif Fq (O2 c) then 0 else 9):=S4 (O2 c) hu
 rw [e,Option.bind_some]
 have j:∀ b,Ed.j1 key c b=some (bif b then (cG,9) else (Zf c ⟨key,aM (G4 (O2 c)).1⟩,0)):=by
  intro b
  unfold Ed.j1
  cases b with
  | true=>rfl
  | false=>
   rw [cond_false]
   have e2:H1 (Ab.mk c.Serial c.Issuer c.Subject c.Key c.KeyId c.Hash c.From c.To c.Authority c.Path c.Names (Bv.mk 0 0))=some (G4 (O2 c)):=iZ (O2 c) hu
   rw [e2,Option.bind_some,qG _ (Sy _)]
   rfl
 simp only [j]
 unfold Nl
 cases Fq (O2 c) with
 | false=>rfl
 | true=>
  by_cases a:key < 0
  ·rw [decide_eq_true a,decide_eq_false (show ¬ 0<=key by omega)]; rfl
  ·rw [decide_eq_false a,decide_eq_true (show 0<=key by omega)]
   by_cases b:key<=2147483648
   ·rw [decide_eq_true b,decide_eq_false (show ¬ 2147483648 < key by omega)]; rfl
   ·rw [decide_eq_false b,decide_eq_true (show 2147483648 < key by omega)]; rfl
theorem Yw {c:Ab} (h:Ik c) {key:Int} (hk:K8 key):Ik (Nl c key).1:=by
 unfold Nl
 cases Fq (O2 c) && (decide (0<=key) && decide (key<=2147483648)) with
 | false=>exact iT
 | true=>exact Q0 h hk (mN _)
end
section
open Go
end
section
open Go
theorem qO (s:ByteArray):Xy (Ln s)=s:=by
 cases s
 rfl
theorem iH {c:Ab}:Fq c=true↔((0<=c.Serial/\c.Serial<=1099511627776)/\Iy c.Issuer=true/\Iy c.Subject=true/\Kw c.Names=true/\(c.Names.length:Int)<=8/\Uj c.Key 2=true/\(0<=c.KeyId/\c.KeyId<=2147483648)/\Uj c.Hash 1=true/\(0<=c.Seal.Key/\c.Seal.Key<=2147483648)/\(0<=c.Seal.Sum/\c.Seal.Sum < 4294967296)/\(0<=c.From/\c.From<=c.To/\c.To<=40000)/\(0<=c.Path/\c.Path<=8)/\(c.Authority=true\/c.Path=0)):=by
 unfold Fq Sl
 simp only [List.any_cons,List.any_nil,id,aCe,Bool.or_eq_false_iff,decide_eq_false_iff_not,Bool.not_eq_false',Bool.and_eq_false_iff,aDa,Bool.or_false]
 constructor
 ·rintro⟨h1,h2,h3,h4,h5,h6,h7,h8,h9,h10,h11,h12,h13,h14,h15,h16,h17,h18,h19,h20⟩
  exact⟨⟨by omega,by omega⟩,h3,h4,h5,by omega,h7,⟨by omega,by omega⟩,h10,⟨by omega,by omega⟩,⟨by omega,by omega⟩,⟨by omega,by omega,by omega⟩,⟨by omega,by omega⟩,h20⟩
 ·rintro⟨⟨h1,h2⟩,h3,h4,h5,h6,h7,⟨h8,h9⟩,h10,⟨h11,h12⟩,⟨h13,h14⟩,⟨h15,h16,h17⟩,⟨h18,h19⟩,h20⟩
  exact⟨by omega,by omega,h3,h4,h5,by omega,h7,by omega,by omega,h10,by omega,by omega,by omega,by omega,by omega,by omega,by omega,by omega,by omega,h20⟩
end
end Go.Proofs.YtlfeokjhphpjeaaGreat
