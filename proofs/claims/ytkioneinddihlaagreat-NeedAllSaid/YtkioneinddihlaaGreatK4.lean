/- Plain texts, joined. No program is in sight here. -/
import Derived.Test.YtkioneinddihlaaGreatL3
import Derived.Test.YtkioneinddihlaaGreatP1
set_option linter.unusedVariables false
set_option linter.unusedSimpArgs false
namespace Go.Proofs.YtkioneinddihlaaGreat
section
open Go
def E9 (s b:Int):Int:=if b=0 then s else 0
def zA (b:Int):Int:=if b < 1024 then 56 else if b < 2048 then 80 else if b < 3072 then 112 else if b < 7680 then 128 else if b < 15360 then 192 else 256
def Gv (b:Int):Int:=if 512<=b/\b<=16384 then zA b else 0
def O2 (b:Int):Int:=if b=160\/b=224\/b=256\/b=384\/b=521 then b / 2 else 0
def Qx (sizes strengths:List Int) (b:Int):Int:=match sizes.findIdx? (fun e=>decide (b=e)) with | some i=>strengths.getD i 0 | none=>0
def Ib:Nat->Int->Int
 | 1=>E9 18
 | 2=>E9 60
 | 3=>E9 128
 | 4=>E9 192
 | 5=>Gv
 | 6=>Gv
 | 7=>O2
 | 8=>E9 128
 | 9=>Qx [44,65,87] [128,192,256]
 | 10=>Gv
 | 11=>Gv
 | 12=>O2
 | 13=>Qx [512,768,1024] [128,192,256]
 | 14=>Qx [40,128] [40,60]
 | 15=>Qx [112,168] [80,112]
 | 16=>Qx [128,256] [128,256]
 | 17=>Qx [128,256] [128,256]
 | 18=>E9 256
 | 19=>E9 64
 | 20=>E9 80
 | 21=>E9 128
 | 22=>E9 256
 | _=>fun _=>0
def aFq:Nat->Int
 | 1=>1
 | 2=>1
 | 3=>1
 | 4=>1
 | 5=>2
 | 6=>2
 | 7=>2
 | 8=>2
 | 9=>2
 | 10=>3
 | 11=>3
 | 12=>3
 | 13=>3
 | 14=>4
 | 15=>4
 | 16=>4
 | 17=>4
 | 18=>4
 | 19=>5
 | 20=>5
 | 21=>5
 | 22=>5
 | _=>0
def Q1 (u:Av):Int:=if 1<=u.Alg/\u.Alg<=22 then Ib u.Alg.toNat u.Bits else 0
def Qp (a:Int):Int:=if 1<=a/\a<=22 then aFq a.toNat else 0
theorem F5 (b:Int) (sizes strengths:List Int) (h:sizes.length=strengths.length) (hl:sizes.length < 1000000):Cd b sizes strengths=some (Qx sizes strengths b):=by
 unfold Cd Qx
 refine (Vn (body:=fun q'=>Cd.l1 b sizes strengths q') sizes (fun i=>(i:Int)) (fun e=>decide (b=e)) (fun i=>strengths.getD i 0) 0 (fun i x hx=>?_) ?_).trans ?_
 ·have h1:=I9 hx
  show Cd.l1 b sizes strengths (i:Int)=_
  unfold Cd.l1
  rw [H3 hx,Cr,Ia (by omega)]
  have hs:strengths[i]?=some (strengths.getD i 0):=by
   rw [aK8,aAy (by omega)]; rfl
  by_cases e:b=x
  ·rw [aAg e.symm,aAg e,hs]; rfl
  ·rw [aAk (fun e'=>e e'.symm),aAk e]; rfl
 ·show Cd.l1 b sizes strengths (sizes.length:Int)=_
  unfold Cd.l1
  rw [Fz]; rfl
 ·rfl
theorem Mf (s:List Int) (v:Int) (hl:s.length < 4611686018427387904):Ck s v=some (match s.findIdx? (fun e=>decide (v=e)) with | some i=>(i:Int) | none=>-1):=by
 unfold Ck
 refine Vn (body:=fun q'=>Ck.l1 s v q') s (fun i=>(i:Int)) (fun e=>decide (v=e)) (fun i=>(i:Int)) (-1) (fun i x hx=>?_) ?_
 ·have h1:=I9 hx
  show Ck.l1 s v (i:Int)=_
  unfold Ck.l1
  rw [H3 hx,Ia (by omega)]
  cases decide (v=x) <;> rfl
 ·show Ck.l1 s v (s.length:Int)=_
  unfold Ck.l1
  rw [Fz]; rfl
theorem Qc (s:List Int) (v:Int) (hl:s.length < 4611686018427387904):Er s v=some (decide (v∈s)):=by
 unfold Er
 rw [Mf s v hl,aAc]
 cases h:s.findIdx? (fun e=>decide (v=e)) with
 | none=>
  have:=List.findIdx?_eq_none_iff.1 h
  have hn:¬ v∈s:=fun hm=>by have:=this v hm; simp at this
  rw [aAk hn]; rfl
 | some i=>
  have h2:=List.findIdx?_isSome (xs:=s) (p:=fun e=>decide (v=e))
  rw [h] at h2
  have:v∈s:=by
   have h3:=h2.symm
   rw [Option.isSome_some,aIi] at h3
   obtain⟨x,hx,e⟩:=h3
   rw [aCe e]; exact hx
  rw [aAg this]
  simp
theorem Xt (b:Int):Dq b=some (zA b):=by
 have s0:Dq.l1 b 0=some (if b < 1024 then .done 56 else .next 1):=by
  by_cases h:b < 1024
  ·rw [if_pos h]; show cond (decide (b < 1024)) _ _=_; rw [aAg h]; rfl
  ·rw [if_neg h]; show cond (decide (b < 1024)) _ _=_; rw [aAk h]; rfl
 have s1:Dq.l1 b 1=some (if b < 2048 then .done 80 else .next 2):=by
  by_cases h:b < 2048
  ·rw [if_pos h]; show cond (decide (b < 2048)) _ _=_; rw [aAg h]; rfl
  ·rw [if_neg h]; show cond (decide (b < 2048)) _ _=_; rw [aAk h]; rfl
 have s2:Dq.l1 b 2=some (if b < 3072 then .done 112 else .next 3):=by
  by_cases h:b < 3072
  ·rw [if_pos h]; show cond (decide (b < 3072)) _ _=_; rw [aAg h]; rfl
  ·rw [if_neg h]; show cond (decide (b < 3072)) _ _=_; rw [aAk h]; rfl
 have s3:Dq.l1 b 3=some (if b < 7680 then .done 128 else .next 4):=by
  by_cases h:b < 7680
  ·rw [if_pos h]; show cond (decide (b < 7680)) _ _=_; rw [aAg h]; rfl
  ·rw [if_neg h]; show cond (decide (b < 7680)) _ _=_; rw [aAk h]; rfl
 have s4:Dq.l1 b 4=some (if b < 15360 then .done 192 else .next 5):=by
  by_cases h:b < 15360
  ·rw [if_pos h]; show cond (decide (b < 15360)) _ _=_; rw [aAg h]; rfl
  ·rw [if_neg h]; show cond (decide (b < 15360)) _ _=_; rw [aAk h]; rfl
 have s5:Dq.l1 b 5=some (.done 256):=rfl
 unfold Dq zA
 rw [Hp,s0]
 split
 ·rfl
 show B1 _ (1:Int)=_
 rw [Hp,s1]
 split
 ·rfl
 show B1 _ (2:Int)=_
 rw [Hp,s2]
 split
 ·rfl
 show B1 _ (3:Int)=_
 rw [Hp,s3]
 split
 ·rfl
 show B1 _ (4:Int)=_
 rw [Hp,s4]
 split
 ·rfl
 show B1 _ (5:Int)=_
 rw [Hp,s5]; rfl
theorem X1 (b:Int):D1 b=some (Gv b):=by
 unfold D1 D1.j1 Gv zA
 by_cases h1:b < 512
 ·rw [aAg h1,if_neg (by omega)]; rfl
 ·by_cases h2:16384 < b
  ·rw [aAk h1,aAg h2,if_neg (by omega)]; rfl
  ·rw [aAk h1,aAk h2,if_pos (by omega)]
   simp only [aD6]
   by_cases a:b < 1024
   ·simp [a]
   by_cases a2:b < 2048
   ·simp [a,a2]
   by_cases a3:b < 3072
   ·simp [a,a2,a3]
   by_cases a4:b < 7680
   ·simp [a,a2,a3,a4]
   by_cases a5:b < 15360 <;> simp [a,a2,a3,a4,a5]
theorem aFy (b:Int):A9 ⟨1,b⟩=some (Ib 1 b):=by
 show cond (decide (b=0)) (some 18) (some 0)=some (E9 18 b)
 unfold E9
 by_cases h:b=0 <;> simp [h]
theorem aFh (b:Int):Ay ⟨1,b⟩=some (Ib 1 b):=by
 show (Cd b [0] [18]).bind (fun y_8=>some y_8)=some (E9 18 b)
 rw [F5 b [0] [18] rfl (by decide)]
 unfold Qx E9
 by_cases h:b=0 <;> simp [h]
theorem aGh (b:Int):A9 ⟨2,b⟩=some (Ib 2 b):=by
 show cond (decide (b=0)) (some 60) (some 0)=some (E9 60 b)
 unfold E9
 by_cases h:b=0 <;> simp [h]
theorem aGb (b:Int):Ay ⟨2,b⟩=some (Ib 2 b):=by
 show (Cd b [0] [60]).bind (fun y_8=>some y_8)=some (E9 60 b)
 rw [F5 b [0] [60] rfl (by decide)]
 unfold Qx E9
 by_cases h:b=0 <;> simp [h]
theorem aFb (b:Int):A9 ⟨3,b⟩=some (Ib 3 b):=by
 show cond (decide (b=0)) (some 128) (some 0)=some (E9 128 b)
 unfold E9
 by_cases h:b=0 <;> simp [h]
theorem aHq (b:Int):Ay ⟨3,b⟩=some (Ib 3 b):=by
 show (Cd b [0] [128]).bind (fun y_8=>some y_8)=some (E9 128 b)
 rw [F5 b [0] [128] rfl (by decide)]
 unfold Qx E9
 by_cases h:b=0 <;> simp [h]
theorem aHa (b:Int):A9 ⟨4,b⟩=some (Ib 4 b):=by
 show cond (decide (b=0)) (some 192) (some 0)=some (E9 192 b)
 unfold E9
 by_cases h:b=0 <;> simp [h]
theorem aGx (b:Int):Ay ⟨4,b⟩=some (Ib 4 b):=by
 show (Cd b [0] [192]).bind (fun y_8=>some y_8)=some (E9 192 b)
 rw [F5 b [0] [192] rfl (by decide)]
 unfold Qx E9
 by_cases h:b=0 <;> simp [h]
theorem aG1 (b:Int):A9 ⟨5,b⟩=some (Ib 5 b):=by
 show cond (decide (512<=b)) (A9.j1 ⟨5,b⟩ (decide (b<=16384))) (A9.j1 ⟨5,b⟩ false)=some (Gv b)
 unfold A9.j1 Gv
 rw [Xt]
 by_cases h1:512<=b <;> by_cases h2:b<=16384 <;> simp [h1,h2]
theorem aEt (b:Int):Ay ⟨5,b⟩=some (Ib 5 b):=by
 show (D1 b).bind (fun y=>some y)=some (Gv b)
 rw [X1]; rfl
theorem aGq (b:Int):A9 ⟨6,b⟩=some (Ib 6 b):=by
 show cond (decide (512<=b)) (A9.j1 ⟨6,b⟩ (decide (b<=16384))) (A9.j1 ⟨6,b⟩ false)=some (Gv b)
 unfold A9.j1 Gv
 rw [Xt]
 by_cases h1:512<=b <;> by_cases h2:b<=16384 <;> simp [h1,h2]
theorem aEu (b:Int):Ay ⟨6,b⟩=some (Ib 6 b):=by
 show (D1 b).bind (fun y=>some y)=some (Gv b)
 rw [X1]; rfl
theorem aHn (b:Int):A9 ⟨7,b⟩=some (Ib 7 b):=by
 show (Er [160,224,256,384,521] b).bind (fun y_3=>cond y_3 ((Ml b 2).bind fun q=>some q) (some 0))=some (O2 b)
 rw [Qc _ _ (by decide)]
 unfold O2
 by_cases h:b=160\/b=224\/b=256\/b=384\/b=521
 ·rw [if_pos h,aAg (by simpa using h)]
  rcases h with h | h | h | h | h <;> (subst h; rfl)
 ·rw [if_neg h,aAk (by simpa using h)]; rfl
theorem aFt (b:Int):Ay ⟨7,b⟩=some (Ib 7 b):=by
 show Ay.j2 ⟨7,b⟩ true=some (O2 b)
 unfold Ay.j2 Ay.j3 O2
 by_cases h:b=160\/b=224\/b=256\/b=384\/b=521
 ·rw [if_pos h]
  rcases h with h | h | h | h | h <;> (subst h; rfl)
 ·rw [if_neg h]
  have h1:¬ b=160:=by omega
  have h2:¬ b=224:=by omega
  have h3:¬ b=256:=by omega
  have h4:¬ b=384:=by omega
  have h5:¬ b=521:=by omega
  simp [h1,h2,h3,h4,h5]
theorem aGa (b:Int):A9 ⟨8,b⟩=some (Ib 8 b):=by
 show cond (decide (b=0)) (some 128) (some 0)=some (E9 128 b)
 unfold E9
 by_cases h:b=0 <;> simp [h]
theorem aF5 (b:Int):Ay ⟨8,b⟩=some (Ib 8 b):=by
 show (Cd b [0] [128]).bind (fun y_8=>some y_8)=some (E9 128 b)
 rw [F5 b [0] [128] rfl (by decide)]
 unfold Qx E9
 by_cases h:b=0 <;> simp [h]
theorem aF6 (b:Int):A9 ⟨9,b⟩=some (Ib 9 b):=by
 show (Ck [44,65,87] b).bind (fun y_4=>cond (decide (0<=y_4)) ((Bo [128,192,256] y_4).bind fun e_2=>some e_2) (some 0))=some (Qx [44,65,87] [128,192,256] b)
 rw [Mf _ _ (by decide)]
 unfold Qx
 cases h:List.findIdx? (fun e=>decide (b=e)) [44,65,87] with
 | none=>rfl
 | some i=>
  have hi:=(aJd.1 h).1
  have:i < 3:=hi
  rcases (by omega:i=0\/i=1\/i=2) with h | h | h <;> (subst h; rfl)
theorem aFz (b:Int):Ay ⟨9,b⟩=some (Ib 9 b):=by
 show (Cd b [44,65,87] [128,192,256]).bind (fun y=>some y)=some (Qx [44,65,87] [128,192,256] b)
 rw [F5 b [44,65,87] [128,192,256] rfl (by decide)]; rfl
theorem aDm (b:Int):A9 ⟨10,b⟩=some (Ib 10 b):=by
 show cond (decide (512<=b)) (A9.j1 ⟨10,b⟩ (decide (b<=16384))) (A9.j1 ⟨10,b⟩ false)=some (Gv b)
 unfold A9.j1 Gv
 rw [Xt]
 by_cases h1:512<=b <;> by_cases h2:b<=16384 <;> simp [h1,h2]
theorem aDx (b:Int):Ay ⟨10,b⟩=some (Ib 10 b):=by
 show (D1 b).bind (fun y=>some y)=some (Gv b)
 rw [X1]; rfl
theorem aEk (b:Int):A9 ⟨11,b⟩=some (Ib 11 b):=by
 show cond (decide (512<=b)) (A9.j1 ⟨11,b⟩ (decide (b<=16384))) (A9.j1 ⟨11,b⟩ false)=some (Gv b)
 unfold A9.j1 Gv
 rw [Xt]
 by_cases h1:512<=b <;> by_cases h2:b<=16384 <;> simp [h1,h2]
theorem aD5 (b:Int):Ay ⟨11,b⟩=some (Ib 11 b):=by
 show (D1 b).bind (fun y=>some y)=some (Gv b)
 rw [X1]; rfl
theorem aDe (b:Int):A9 ⟨12,b⟩=some (Ib 12 b):=by
 show (Er [160,224,256,384,521] b).bind (fun y_3=>cond y_3 ((Ml b 2).bind fun q=>some q) (some 0))=some (O2 b)
 rw [Qc _ _ (by decide)]
 unfold O2
 by_cases h:b=160\/b=224\/b=256\/b=384\/b=521
 ·rw [if_pos h,aAg (by simpa using h)]
  rcases h with h | h | h | h | h <;> (subst h; rfl)
 ·rw [if_neg h,aAk (by simpa using h)]; rfl
theorem aEg (b:Int):Ay ⟨12,b⟩=some (Ib 12 b):=by
 show Ay.j2 ⟨12,b⟩ true=some (O2 b)
 unfold Ay.j2 Ay.j3 O2
 by_cases h:b=160\/b=224\/b=256\/b=384\/b=521
 ·rw [if_pos h]
  rcases h with h | h | h | h | h <;> (subst h; rfl)
 ·rw [if_neg h]
  have h1:¬ b=160:=by omega
  have h2:¬ b=224:=by omega
  have h3:¬ b=256:=by omega
  have h4:¬ b=384:=by omega
  have h5:¬ b=521:=by omega
  simp [h1,h2,h3,h4,h5]
theorem aD3 (b:Int):A9 ⟨13,b⟩=some (Ib 13 b):=by
 show (Ck [512,768,1024] b).bind (fun y_4=>cond (decide (0<=y_4)) ((Bo [128,192,256] y_4).bind fun e_2=>some e_2) (some 0))=some (Qx [512,768,1024] [128,192,256] b)
 rw [Mf _ _ (by decide)]
 unfold Qx
 cases h:List.findIdx? (fun e=>decide (b=e)) [512,768,1024] with
 | none=>rfl
 | some i=>
  have hi:=(aJd.1 h).1
  have:i < 3:=hi
  rcases (by omega:i=0\/i=1\/i=2) with h | h | h <;> (subst h; rfl)
theorem aCj (b:Int):Ay ⟨13,b⟩=some (Ib 13 b):=by
 show (Cd b [512,768,1024] [128,192,256]).bind (fun y=>some y)=some (Qx [512,768,1024] [128,192,256] b)
 rw [F5 b [512,768,1024] [128,192,256] rfl (by decide)]; rfl
theorem aEa (b:Int):A9 ⟨14,b⟩=some (Ib 14 b):=by
 show (Ck [40,128] b).bind (fun y_4=>cond (decide (0<=y_4)) ((Bo [40,60] y_4).bind fun e_2=>some e_2) (some 0))=some (Qx [40,128] [40,60] b)
 rw [Mf _ _ (by decide)]
 unfold Qx
 cases h:List.findIdx? (fun e=>decide (b=e)) [40,128] with
 | none=>rfl
 | some i=>
  have hi:=(aJd.1 h).1
  have:i < 2:=hi
  rcases (by omega:i=0\/i=1) with h | h <;> (subst h; rfl)
theorem aBq (b:Int):Ay ⟨14,b⟩=some (Ib 14 b):=by
 show (Cd b [40,128] [40,60]).bind (fun y=>some y)=some (Qx [40,128] [40,60] b)
 rw [F5 b [40,128] [40,60] rfl (by decide)]; rfl
theorem aEe (b:Int):A9 ⟨15,b⟩=some (Ib 15 b):=by
 show (Ck [112,168] b).bind (fun y_4=>cond (decide (0<=y_4)) ((Bo [80,112] y_4).bind fun e_2=>some e_2) (some 0))=some (Qx [112,168] [80,112] b)
 rw [Mf _ _ (by decide)]
 unfold Qx
 cases h:List.findIdx? (fun e=>decide (b=e)) [112,168] with
 | none=>rfl
 | some i=>
  have hi:=(aJd.1 h).1
  have:i < 2:=hi
  rcases (by omega:i=0\/i=1) with h | h <;> (subst h; rfl)
theorem aDu (b:Int):Ay ⟨15,b⟩=some (Ib 15 b):=by
 show (Cd b [112,168] [80,112]).bind (fun y=>some y)=some (Qx [112,168] [80,112] b)
 rw [F5 b [112,168] [80,112] rfl (by decide)]; rfl
theorem aBp (b:Int):A9 ⟨16,b⟩=some (Ib 16 b):=by
 show (Ck [128,256] b).bind (fun y_4=>cond (decide (0<=y_4)) ((Bo [128,256] y_4).bind fun e_2=>some e_2) (some 0))=some (Qx [128,256] [128,256] b)
 rw [Mf _ _ (by decide)]
 unfold Qx
 cases h:List.findIdx? (fun e=>decide (b=e)) [128,256] with
 | none=>rfl
 | some i=>
  have hi:=(aJd.1 h).1
  have:i < 2:=hi
  rcases (by omega:i=0\/i=1) with h | h <;> (subst h; rfl)
theorem aDt (b:Int):Ay ⟨16,b⟩=some (Ib 16 b):=by
 show (Cd b [128,256] [128,256]).bind (fun y=>some y)=some (Qx [128,256] [128,256] b)
 rw [F5 b [128,256] [128,256] rfl (by decide)]; rfl
theorem aBd (b:Int):A9 ⟨17,b⟩=some (Ib 17 b):=by
 show (Ck [128,256] b).bind (fun y_4=>cond (decide (0<=y_4)) ((Bo [128,256] y_4).bind fun e_2=>some e_2) (some 0))=some (Qx [128,256] [128,256] b)
 rw [Mf _ _ (by decide)]
 unfold Qx
 cases h:List.findIdx? (fun e=>decide (b=e)) [128,256] with
 | none=>rfl
 | some i=>
  have hi:=(aJd.1 h).1
  have:i < 2:=hi
  rcases (by omega:i=0\/i=1) with h | h <;> (subst h; rfl)
theorem aAw (b:Int):Ay ⟨17,b⟩=some (Ib 17 b):=by
 show (Cd b [128,256] [128,256]).bind (fun y=>some y)=some (Qx [128,256] [128,256] b)
 rw [F5 b [128,256] [128,256] rfl (by decide)]; rfl
theorem aDl (b:Int):A9 ⟨18,b⟩=some (Ib 18 b):=by
 show cond (decide (b=0)) (some 256) (some 0)=some (E9 256 b)
 unfold E9
 by_cases h:b=0 <;> simp [h]
theorem aC0 (b:Int):Ay ⟨18,b⟩=some (Ib 18 b):=by
 show (Cd b [0] [256]).bind (fun y_8=>some y_8)=some (E9 256 b)
 rw [F5 b [0] [256] rfl (by decide)]
 unfold Qx E9
 by_cases h:b=0 <;> simp [h]
theorem aEd (b:Int):A9 ⟨19,b⟩=some (Ib 19 b):=by
 show cond (decide (b=0)) (some 64) (some 0)=some (E9 64 b)
 unfold E9
 by_cases h:b=0 <;> simp [h]
theorem aDf (b:Int):Ay ⟨19,b⟩=some (Ib 19 b):=by
 show (Cd b [0] [64]).bind (fun y_8=>some y_8)=some (E9 64 b)
 rw [F5 b [0] [64] rfl (by decide)]
 unfold Qx E9
 by_cases h:b=0 <;> simp [h]
theorem aCy (b:Int):A9 ⟨20,b⟩=some (Ib 20 b):=by
 show cond (decide (b=0)) (some 80) (some 0)=some (E9 80 b)
 unfold E9
 by_cases h:b=0 <;> simp [h]
theorem aEi (b:Int):Ay ⟨20,b⟩=some (Ib 20 b):=by
 show (Cd b [0] [80]).bind (fun y_8=>some y_8)=some (E9 80 b)
 rw [F5 b [0] [80] rfl (by decide)]
 unfold Qx E9
 by_cases h:b=0 <;> simp [h]
theorem aCd (b:Int):A9 ⟨21,b⟩=some (Ib 21 b):=by
 show cond (decide (b=0)) (some 128) (some 0)=some (E9 128 b)
 unfold E9
 by_cases h:b=0 <;> simp [h]
theorem aBe (b:Int):Ay ⟨21,b⟩=some (Ib 21 b):=by
 show (Cd b [0] [128]).bind (fun y_8=>some y_8)=some (E9 128 b)
 rw [F5 b [0] [128] rfl (by decide)]
 unfold Qx E9
 by_cases h:b=0 <;> simp [h]
theorem aAs (b:Int):A9 ⟨22,b⟩=some (Ib 22 b):=by
 show cond (decide (b=0)) (some 256) (some 0)=some (E9 256 b)
 unfold E9
 by_cases h:b=0 <;> simp [h]
theorem aEb (b:Int):Ay ⟨22,b⟩=some (Ib 22 b):=by
 show (Cd b [0] [256]).bind (fun y_8=>some y_8)=some (E9 256 b)
 rw [F5 b [0] [256] rfl (by decide)]
 unfold Qx E9
 by_cases h:b=0 <;> simp [h]
theorem Sa {a:Int} (h:1<=a/\a<=22):a=1\/a=2\/a=3\/a=4\/a=5\/a=6\/a=7\/a=8\/a=9\/a=10\/a=11\/a=12\/a=13\/a=14\/a=15\/a=16\/a=17\/a=18\/a=19\/a=20\/a=21\/a=22:=by omega
theorem eH (u:Av):A9 u=some (Q1 u):=by
 obtain⟨a,b⟩:=u
 unfold Q1
 by_cases h0:1<=a/\a<=22
 ·rw [if_pos h0]
  rcases Sa h0 with h | h | h | h | h | h | h | h | h | h | h | h | h | h | h | h | h | h | h | h | h | h <;> subst h
  ·exact aFy b
  ·exact aGh b
  ·exact aFb b
  ·exact aHa b
  ·exact aG1 b
  ·exact aGq b
  ·exact aHn b
  ·exact aGa b
  ·exact aF6 b
  ·exact aDm b
  ·exact aEk b
  ·exact aDe b
  ·exact aD3 b
  ·exact aEa b
  ·exact aEe b
  ·exact aBp b
  ·exact aBd b
  ·exact aDl b
  ·exact aEd b
  ·exact aCy b
  ·exact aCd b
  ·exact aAs b
 ·rw [if_neg h0]
  unfold A9 E2
  by_cases h1:a < 1
  ·simp [h1,E2.j1]
  ·have h2:22 < a:=by omega
   simp [h1,h2,E2.j1]
theorem T4 (u:Av):Ay u=some (Q1 u):=by
 obtain⟨a,b⟩:=u
 unfold Q1
 by_cases h0:1<=a/\a<=22
 ·rw [if_pos h0]
  rcases Sa h0 with h | h | h | h | h | h | h | h | h | h | h | h | h | h | h | h | h | h | h | h | h | h <;> subst h
  ·exact aFh b
  ·exact aGb b
  ·exact aHq b
  ·exact aGx b
  ·exact aEt b
  ·exact aEu b
  ·exact aFt b
  ·exact aF5 b
  ·exact aFz b
  ·exact aDx b
  ·exact aD5 b
  ·exact aEg b
  ·exact aCj b
  ·exact aBq b
  ·exact aDu b
  ·exact aDt b
  ·exact aAw b
  ·exact aC0 b
  ·exact aDf b
  ·exact aEi b
  ·exact aBe b
  ·exact aEb b
 ·rw [if_neg h0]
  have h1:¬ a=1:=by omega
  have h2:¬ a=2:=by omega
  have h3:¬ a=3:=by omega
  have h4:¬ a=4:=by omega
  have h5:¬ a=5:=by omega
  have h6:¬ a=6:=by omega
  have h7:¬ a=7:=by omega
  have h8:¬ a=8:=by omega
  have h9:¬ a=9:=by omega
  have h10:¬ a=10:=by omega
  have h11:¬ a=11:=by omega
  have h12:¬ a=12:=by omega
  have h13:¬ a=13:=by omega
  have h14:¬ a=14:=by omega
  have h15:¬ a=15:=by omega
  have h16:¬ a=16:=by omega
  have h17:¬ a=17:=by omega
  have h18:¬ a=18:=by omega
  have h19:¬ a=19:=by omega
  have h20:¬ a=20:=by omega
  have h21:¬ a=21:=by omega
  have h22:¬ a=22:=by omega
  simp [Ay,Ay.j1,Ay.j2,Ay.j4,Dw,Dw.j1,Dw.j2,h1,h2,h3,h4,h5,h6,h7,h8,h9,h10,h11,h12,h13,h14,h15,h16,h17,h18,h19,h20,h21,h22]
  rw [F5 b [0] [0] rfl (by decide)]
  unfold Qx
  by_cases h:b=0 <;> simp [h]
theorem Yv (a:Int):H2 a=some (Qp a):=by
 unfold Qp
 by_cases h0:1<=a/\a<=22
 ·rw [if_pos h0]
  rcases Sa h0 with h | h | h | h | h | h | h | h | h | h | h | h | h | h | h | h | h | h | h | h | h | h <;> (subst h; rfl)
 ·rw [if_neg h0]
  unfold H2 E2
  by_cases h1:a < 1
  ·simp [h1,E2.j1]
  ·have h2:22 < a:=by omega
   simp [h1,h2,E2.j1]
theorem Z3 (a:Int):Fg a=some (Qp a):=by
 unfold Qp
 by_cases h0:1<=a/\a<=22
 ·rw [if_pos h0]
  rcases Sa h0 with h | h | h | h | h | h | h | h | h | h | h | h | h | h | h | h | h | h | h | h | h | h <;> (subst h; rfl)
 ·rw [if_neg h0]
  unfold Fg
  by_cases h1:a < 1
  ·simp [h1,Fg.j1]
  ·have h2:22 < a:=by omega
   simp [h1,h2,Fg.j1]
theorem V8 (u:Av):Hb u=some (decide (0 < Q1 u)):=by unfold Hb; rw [eH]; rfl
theorem Wn (u:Av):Iq u=some (decide (0 < Q1 u)):=by unfold Iq; rw [T4]; rfl
end
section
open Go
theorem Sd {i n:Nat} (h:i < n) (hn:n<=9223372036854775807):W ((i:Int) + 1)=((i + 1:Nat):Int):=by
 rw [Db (by omega)]; omega
theorem Qi (s:ByteArray):(K0 s).length=s.size:=by unfold K0; rw [Array.length_toList]; rfl
theorem lU {s:ByteArray} {i:Nat} {c:UInt8} (h:(K0 s)[i]?=some c):idxT s (i:Int)=some c:=by
 unfold idxT
 rw [if_neg (by omega),aIm]
 unfold K0 at h
 rw [<- h]; simp
def chS (c:UInt8):Bool:=decide (33<=(c.toNat:Int)) && decide ((c.toNat:Int)<=126)
def Fm (s:ByteArray):Bool:=decide (1<=(s.size:Int)) && decide ((s.size:Int)<=32) && !(K0 s).any (fun c=>!chS c)
theorem Sb (s:ByteArray) (hs:s.size<=9223372036854775807):C4 s=some (Fm s):=by
 unfold C4 Fm
 refine (Pu (body:=fun q'=>C4.l1 s q') (K0 s) (fun i=>(i:Int)) (fun c=>!chS c) false (decide (1<=(s.size:Int)) && decide ((s.size:Int)<=32)) (fun i c hc=>?_) ?_).trans ?_
 ·have h1:=I9 hc
  rw [Qi] at h1
  show C4.l1 s (i:Int)=_
  unfold C4.l1 C4.j2 chS
  rw [H3 hc,Sd h1 hs]
  by_cases a:(c.toNat:Int)<=32
  ·rw [aAg a,aAk (show ¬ (33:Int)<=(c.toNat:Int) by omega)]; rfl
  ·rw [aAk a,aAg (show (33:Int)<=(c.toNat:Int) by omega)]
   by_cases b:126 < (c.toNat:Int)
   ·rw [aAg b,aAk (by omega)]; rfl
   ·rw [aAk b,aAg (by omega)]; rfl
 ·show C4.l1 s ((K0 s).length:Int)=_
  unfold C4.l1
  rw [Fz]
  by_cases a:(1:Int)<=(s.size:Int) <;> simp [a,up]
 ·cases (K0 s).any fun c=>!chS c <;> simp
theorem Tx (s:ByteArray) (hs:s.size<=9223372036854775807):C2 s=some (Fm s):=by
 unfold C2 Fm
 have hl:C2.j1 s false=some (!(K0 s).any fun c=>!chS c):=by
  unfold C2.j1
  rw [aD6]
  refine (Pu (body:=fun q'=>C2.l2 s q') (K0 s) (fun i=>(i:Int)) (fun c=>!chS c) false true (fun i c hc=>?_) ?_).trans ?_
  ·have h1:=I9 hc
   rw [Qi] at h1
   show C2.l2 s (i:Int)=_
   unfold C2.l2 C2.j3 chS
   rw [aAg (by omega),aEw,lU hc,aAc,aAc,Sd h1 hs]
   by_cases a:(c.toNat:Int) < 33
   ·rw [aAg a,aAk (show ¬ (33:Int)<=(c.toNat:Int) by omega)]; rfl
   ·rw [aAk a,aAg (show (33:Int)<=(c.toNat:Int) by omega)]
    by_cases b:126 < (c.toNat:Int)
    ·rw [aAg b,aAk (by omega)]; rfl
    ·rw [aAk b,aAg (by omega)]; rfl
  ·show C2.l2 s ((K0 s).length:Int)=_
   unfold C2.l2
   rw [Qi,Fz]; rfl
  ·cases (K0 s).any fun c=>!chS c <;> rfl
 by_cases a:(s.size:Int) < 1
 ·rw [aAg a,aAk (show ¬ (1:Int)<=(s.size:Int) by omega)]; rfl
 ·rw [aAk a,aAg (show (1:Int)<=(s.size:Int) by omega),aD6]
  by_cases b:32 < (s.size:Int)
  ·rw [aAg b,aAk (by omega)]; rfl
  ·rw [aAk b,aAg (by omega),hl]; simp
def cW (l:List ByteArray) (i:Nat):Bool:=!Fm (l.getD i ⟨#[]⟩) || (decide (0 < i) && !fS (K0 (l.getD (i - 1) ⟨#[]⟩)) (K0 (l.getD i ⟨#[]⟩)))
def Li (l:List ByteArray):Bool:=!(List.range l.length).any (cW l)
theorem Ur {α:Type} {l:List α} {i:Nat} {x d:α} (h:l[i]?=some x):l.getD i d=x:=by
 rw [aK8,h]; rfl
theorem jY (l:List ByteArray) (hl:l.length<=9223372036854775807) (hs:∀ s∈l,s.size<=9223372036854775807):Ci l=some (Li l && decide ((l.length:Int)<=8)):=by
 unfold Ci Li
 refine (V0 (body:=fun q'=>Ci.l1 l q') l.length (fun i=>(i:Int)) (cW l) false (decide ((l.length:Int)<=8)) (fun i hi=>?_) ?_).trans ?_
 ·obtain⟨s,hx⟩:∃ s,l[i]?=some s:=⟨_,aAy hi⟩
  show Ci.l1 l (i:Int)=_
  unfold Ci.l1 cW
  rw [H3 hx,Sb s (hs s (Eg hx)),aAc,Ur hx]
  cases hn:Fm s with
  | false=>rfl
  | true=>
   rw [aHz,aD6,Bool.false_or]
   cases i with
   | zero=>rfl
   | succ i=>
    obtain⟨p,hp⟩:∃ p,l[i]?=some p:=⟨_,aAy (by omega)⟩
    rw [aAg (by omega),aEw,Db (by omega),show ((i + 1:Nat):Int) - 1=(i:Int) by omega,Cr,hp,aAc,show i + 1 - 1=i from rfl,Ur hp,aAg (by omega),aMv]
    unfold Ci.j2
    rw [Sd (n:=l.length) (by omega) hl]
    cases fS (K0 p) (K0 s) <;> rfl
 ·show Ci.l1 l (l.length:Int)=_
  unfold Ci.l1
  rw [Fz]; rfl
 ·cases (List.range l.length).any (cW l) <;> rfl
end
section
open Go
def M7 (u:Av) (k:Int):Bool:=decide (0 < Q1 u) && decide (Qp u.Alg=k)
def Vf (c:Ah):List Bool:=[decide (c.Serial < 0),decide (1099511627776 < c.Serial),!Fm c.Issuer,!Fm c.Subject,!Li c.Names,decide (8 < (c.Names.length:Int)),!M7 c.Key 2,decide (c.KeyId < 0),decide (2147483648 < c.KeyId),!M7 c.Hash 1,decide (c.Seal.Key < 0),decide (2147483648 < c.Seal.Key),decide (c.Seal.Sum < 0),decide (4294967296<=c.Seal.Sum),decide (c.From < 0),decide (c.To < c.From),decide (40000 < c.To),decide (c.Path < 0),decide (8 < c.Path),!c.Authority && !decide (c.Path=0)]
def Ge (c:Ah):Bool:=!(Vf c).any id
structure Px (c:Ah):Prop where
 names:c.Names.length < 1000000000
 name:∀ s∈c.Names,s.size<=9223372036854775807
 issuer:c.Issuer.size<=9223372036854775807
 subject:c.Subject.size<=9223372036854775807
 ints:∀ n∈[c.Serial,c.Key.Alg,c.Key.Bits,c.KeyId,c.Hash.Alg,c.Hash.Bits,c.From,c.To,c.Path,c.Seal.Key,c.Seal.Sum],-9223372036854775808<=n/\n<=9223372036854775807
structure iR (c:Ah):Prop where
 names:c.Names.length<=9223372036854775807
 name:∀ s∈c.Names,s.size<=9223372036854775807
 issuer:c.Issuer.size<=9223372036854775807
 subject:c.Subject.size<=9223372036854775807
theorem Px.w {c:Ah} (h:Px c):iR c:=⟨by have:=h.names; omega,h.name,h.issuer,h.subject⟩
theorem rJ (u:Av) (k:Int):Hy u k=some (M7 u k):=by
 unfold Hy M7
 rw [V8,Yv,aAc]
 cases decide (0 < Q1 u) <;> rfl
theorem S8 (u:Av):G7 u=some (M7 u 2):=by
 unfold G7 M7
 rw [Wn,Z3,aAc]
 cases decide (0 < Q1 u) <;> rfl
theorem Xy (n:Int):Fc n=some (!(decide (n < 0) || decide (2147483648 < n))):=by
 unfold Fc
 by_cases a:n < 0
 ·rw [aAg a,aAk (show ¬ 0<=n by omega)]; rfl
 ·rw [aAk a,aAg (show 0<=n by omega)]
  by_cases b:n<=2147483648
  ·rw [aAg b,aAk (show ¬ 2147483648 < n by omega)]; rfl
  ·rw [aAk b,aAg (show 2147483648 < n by omega)]; rfl
theorem zG (n:Int):Il n=some (!(decide (n < 0) || decide (4294967296<=n))):=by
 unfold Il
 by_cases a:n < 0
 ·rw [aAg a,aAk (show ¬ 0<=n by omega)]; rfl
 ·rw [aAk a,aAg (show 0<=n by omega)]
  by_cases b:n < 4294967296
  ·rw [aAg b,aAk (show ¬ 4294967296<=n by omega)]; rfl
  ·rw [aAk b,aAg (show 4294967296<=n by omega)]; rfl
theorem aJm (n:Nat):decide ((n:Int)<=8)=!decide (8 < (n:Int)):=by
 by_cases h:(n:Int)<=8
 ·rw [aAg h,aAk (by omega)]; rfl
 ·rw [aAk h,aAg (by omega)]; rfl
theorem vN (c:Ah):Bj.j3 c false=some (!(decide (c.Path < 0) || decide (8 < c.Path) || (!c.Authority && !decide (c.Path=0)))):=by
 unfold Bj.j3
 by_cases a:c.Path < 0
 ·rw [aAg a,aAk (show ¬ 0<=c.Path by omega)]; rfl
 ·rw [aAk a,aAg (show 0<=c.Path by omega)]
  by_cases b:c.Path<=8
  ·rw [aAg b,aAk (show ¬ 8 < c.Path by omega)]
   cases c.Authority <;> simp
  ·rw [aAk b,aAg (show 8 < c.Path by omega)]; rfl
theorem qV (c:Ah) (x:Bool):Bj.j3 c x=some (!(x || decide (c.Path < 0) || decide (8 < c.Path) || (!c.Authority && !decide (c.Path=0)))):=by
 cases x
 ·rw [vN]; simp
 ·simp [Bj.j3]
theorem kP (c:Ah) (h:iR c):Bj c=some (Ge c):=by
 unfold Bj Bj.j1 Bj.j2
 simp only [qV]
 rw [Sb _ h.issuer,Sb _ h.subject,jY _ h.names h.name,rJ,Xy,rJ,Xy,zG,aJm]
 simp only [aAc]
 unfold Ge Vf
 simp only [aOh,aP4,id]
 generalize decide (c.Serial < 0)=b1
 cases b1
 case true=>simp
 generalize decide (1099511627776 < c.Serial)=b2
 cases b2
 case true=>simp
 generalize Fm c.Issuer=b3
 cases b3
 case false=>simp
 generalize Fm c.Subject=b4
 cases b4
 case false=>simp
 generalize Li c.Names=b5
 cases b5
 case false=>simp
 generalize decide (8 < (c.Names.length:Int))=b6
 cases b6
 case true=>simp
 generalize M7 c.Key 2=b7
 cases b7
 case false=>simp
 generalize decide (c.KeyId < 0)=b8
 cases b8
 case true=>simp
 generalize decide (2147483648 < c.KeyId)=b9
 cases b9
 case true=>simp
 generalize M7 c.Hash 1=b10
 cases b10
 case false=>simp
 generalize decide (c.Seal.Key < 0)=b11
 cases b11
 case true=>simp
 generalize decide (2147483648 < c.Seal.Key)=b12
 cases b12
 case true=>simp
 generalize decide (c.Seal.Sum < 0)=b13
 cases b13
 case true=>simp
 generalize decide (4294967296<=c.Seal.Sum)=b14
 cases b14
 case true=>simp
 generalize decide (c.From < 0)=b15
 cases b15
 case true=>simp
 generalize decide (c.To < c.From)=b16
 cases b16
 case true=>simp
 generalize decide (40000 < c.To)=b17
 cases b17
 case true=>simp
 generalize decide (c.Path < 0)=b18
 generalize decide (8 < c.Path)=b19
 generalize decide (c.Path=0)=b20
 cases b18 <;> cases b19 <;> cases b20 <;> simp
end
section
open Go
def Uu (c:Ah):Bool:=decide (c.Seal.Key < 0) || (decide (2147483648 < c.Seal.Key) || (decide (c.Seal.Sum < 0) || decide (4294967296<=c.Seal.Sum)))
theorem aCw (c:Ah) (h:iR c) (x:Bool):Ba.j3 c x=some (bif (x || !Li c.Names || Uu c) then 9 else 0):=by
 cases x
 ·unfold Ba.j3
  rw [aD6]
  refine (V0 (body:=fun q'=>Ba.l4 c q') c.Names.length (fun i=>(i:Int)) (cW c.Names) 9 (bif Uu c then 9 else 0) (fun i hi=>?_) ?_).trans ?_
  ·obtain⟨s,hx⟩:∃ s,c.Names[i]?=some s:=⟨_,aAy hi⟩
   have hN:=h.names
   show Ba.l4 c (i:Int)=_
   unfold Ba.l4 cW
   rw [H3 hx,Tx s (h.name s (Eg hx)),aAc,Ur hx]
   cases hn:Fm s with
   | false=>rfl
   | true=>
    rw [aHz,aD6,Bool.false_or]
    cases i with
    | zero=>rfl
    | succ i=>
     obtain⟨p,hp⟩:∃ p,c.Names[i]?=some p:=⟨_,aAy (by omega)⟩
     rw [aAg (by omega),aEw,Db (by omega),show ((i + 1:Nat):Int) - 1=(i:Int) by omega,Cr,hp,aAc,show i + 1 - 1=i from rfl,Ur hp,aAg (by omega),aMv]
     unfold Ba.j5
     rw [Sd (n:=c.Names.length) (by omega) hN]
     cases fS (K0 p) (K0 s) <;> rfl
  ·show Ba.l4 c (c.Names.length:Int)=_
   unfold Ba.l4 Ba.j6 Uu
   rw [Fz]
   cases decide (c.Seal.Key < 0) <;> cases decide (2147483648 < c.Seal.Key) <;> cases decide (c.Seal.Sum < 0) <;> cases decide (4294967296<=c.Seal.Sum) <;> rfl
  ·unfold Li
   cases (List.range c.Names.length).any (cW c.Names) <;> cases Uu c <;> rfl
 ·rfl
theorem Zo (c:Ah) (h:iR c):Ba c=some (bif Ge c then 0 else 9):=by
 unfold Ba Ba.j1 Ba.j2
 simp only [aCw c h]
 rw [Tx _ h.issuer,Tx _ h.subject,S8,Wn,Z3]
 simp only [aAc]
 unfold Ge Vf Uu
 simp only [aOh,aP4,id]
 have hu:M7 c.Hash 1=(decide (0 < Q1 c.Hash) && decide (Qp c.Hash.Alg=1)):=rfl
 rw [hu]
 generalize decide (c.Serial < 0)=b1
 cases b1
 case true=>simp
 generalize decide (1099511627776 < c.Serial)=b2
 cases b2
 case true=>simp
 generalize Fm c.Issuer=b3
 cases b3
 case false=>simp
 generalize Fm c.Subject=b4
 cases b4
 case false=>simp
 generalize M7 c.Key 2=b7
 cases b7
 case false=>simp
 generalize decide (c.KeyId < 0)=b8
 cases b8
 case true=>simp
 generalize decide (2147483648 < c.KeyId)=b9
 cases b9
 case true=>simp
 generalize decide (0 < Q1 c.Hash)=b10
 cases b10
 case false=>simp
 generalize decide (Qp c.Hash.Alg=1)=b10'
 cases b10'
 case false=>simp
 generalize decide (c.From < 0)=b15
 cases b15
 case true=>simp
 generalize decide (c.To < c.From)=b16
 cases b16
 case true=>simp
 generalize decide (40000 < c.To)=b17
 cases b17
 case true=>simp
 generalize decide (c.Path < 0)=b18
 cases b18
 case true=>simp
 generalize decide (8 < c.Path)=b19
 cases b19
 case true=>simp
 generalize decide (c.Path=0)=b20
 generalize c.Authority=b21
 generalize decide (8 < (c.Names.length:Int))=b6
 generalize Li c.Names=b5
 cases b20 <;> cases b21 <;> cases b6 <;> cases b5 <;> simp <;> generalize decide (c.Seal.Key < 0)=b11 <;> generalize decide (2147483648 < c.Seal.Key)=b12 <;> generalize decide (c.Seal.Sum < 0)=b13 <;> generalize decide (4294967296<=c.Seal.Sum)=b14 <;> cases b11 <;> cases b12 <;> cases b13 <;> cases b14 <;> rfl
theorem cH (c:Ah) (h:Px c):Ba c=some (bif Ge c then 0 else 9):=Zo c h.w
end
end Go.Proofs.YtkioneinddihlaaGreat
