/- Plain texts, joined. No program is in sight here. -/
import Derived.Test.YtkoflhimdenjaaaGreatL3
import Derived.Test.YtkoflhimdenjaaaGreatP1
set_option linter.unusedVariables false
set_option linter.unusedSimpArgs false
namespace Go.Proofs.YtkoflhimdenjaaaGreat
section
open Go
def E6 (s b:Int):Int:=if b=0 then s else 0
def yT (b:Int):Int:=if b < 1024 then 56 else if b < 2048 then 80 else if b < 3072 then 112 else if b < 7680 then 128 else if b < 15360 then 192 else 256
def Gu (b:Int):Int:=if 512<=b/\b<=16384 then yT b else 0
def P8 (b:Int):Int:=if b=160\/b=224\/b=256\/b=384\/b=521 then b / 2 else 0
def Sj (sizes strengths:List Int) (b:Int):Int:=match sizes.findIdx? (fun e=>decide (b=e)) with | some i=>strengths.getD i 0 | none=>0
def Iy:Nat->Int->Int
 | 1=>E6 18
 | 2=>E6 60
 | 3=>E6 128
 | 4=>E6 192
 | 5=>Gu
 | 6=>Gu
 | 7=>P8
 | 8=>E6 128
 | 9=>Sj [44,65,87] [128,192,256]
 | 10=>Gu
 | 11=>Gu
 | 12=>P8
 | 13=>Sj [512,768,1024] [128,192,256]
 | 14=>Sj [40,128] [40,60]
 | 15=>Sj [112,168] [80,112]
 | 16=>Sj [128,256] [128,256]
 | 17=>Sj [128,256] [128,256]
 | 18=>E6 256
 | 19=>E6 64
 | 20=>E6 80
 | 21=>E6 128
 | 22=>E6 256
 | _=>fun _=>0
def aGn:Nat->Int
 | 1=>1
 | 2=>1
 | 3=>1
 | 4=>1
 | 5=>2
 | 6=>2
 | 7=>2
 | 8=>2
 | 9=>2
 | 10=>3
 | 11=>3
 | 12=>3
 | 13=>3
 | 14=>4
 | 15=>4
 | 16=>4
 | 17=>4
 | 18=>4
 | 19=>5
 | 20=>5
 | 21=>5
 | 22=>5
 | _=>0
def Pw (u:Ar):Int:=if 1<=u.Alg/\u.Alg<=22 then Iy u.Alg.toNat u.Bits else 0
def Px (a:Int):Int:=if 1<=a/\a<=22 then aGn a.toNat else 0
theorem Fz (b:Int) (sizes strengths:List Int) (h:sizes.length=strengths.length) (hl:sizes.length < 1000000):B9 b sizes strengths=some (Sj sizes strengths b):=by
 unfold B9 Sj
 refine (W5 (body:=fun q'=>B9.l1 b sizes strengths q') sizes (fun i=>(i:Int)) (fun e=>decide (b=e)) (fun i=>strengths.getD i 0) 0 (fun i x hx=>?_) ?_).trans ?_
 ·have h1:=Jo hx
  show B9.l1 b sizes strengths (i:Int)=_
  unfold B9.l1
  rw [Gt hx,Hx,H6 (by omega)]
  have hs:strengths[i]?=some (strengths.getD i 0):=by
   rw [aKt,aA9 (by omega)]; rfl
  by_cases e:b=x
  ·rw [aAv e.symm,aAv e,hs]; rfl
  ·rw [aAy (fun e'=>e e'.symm),aAy e]; rfl
 ·show B9.l1 b sizes strengths (sizes.length:Int)=_
  unfold B9.l1
  rw [E4]; rfl
 ·rfl
theorem Mj (s:List Int) (v:Int) (hl:s.length < 4611686018427387904):Ci s v=some (match s.findIdx? (fun e=>decide (v=e)) with | some i=>(i:Int) | none=>-1):=by
 unfold Ci
 refine W5 (body:=fun q'=>Ci.l1 s v q') s (fun i=>(i:Int)) (fun e=>decide (v=e)) (fun i=>(i:Int)) (-1) (fun i x hx=>?_) ?_
 ·have h1:=Jo hx
  show Ci.l1 s v (i:Int)=_
  unfold Ci.l1
  rw [Gt hx,H6 (by omega)]
  cases decide (v=x) <;> rfl
 ·show Ci.l1 s v (s.length:Int)=_
  unfold Ci.l1
  rw [E4]; rfl
theorem H3 (s:List Int) (v:Int) (hl:s.length < 4611686018427387904):C5 s v=some (decide (v∈s)):=by
 unfold C5
 rw [Mj s v hl,aAf]
 cases h:s.findIdx? (fun e=>decide (v=e)) with
 | none=>
  have:=aJ8.1 h
  have hn:¬ v∈s:=fun hm=>by have:=this v hm; simp at this
  rw [aAy hn]; rfl
 | some i=>
  have h2:=List.findIdx?_isSome (xs:=s) (p:=fun e=>decide (v=e))
  rw [h] at h2
  have:v∈s:=by
   have h3:=h2.symm
   rw [Option.isSome_some,aIc] at h3
   obtain⟨x,hx,e⟩:=h3
   rw [aBs e]; exact hx
  rw [aAv this]
  simp
theorem Y9 (b:Int):Dm b=some (yT b):=by
 have s0:Dm.l1 b 0=some (if b < 1024 then .done 56 else .next 1):=by
  by_cases h:b < 1024
  ·rw [if_pos h]; show cond (decide (b < 1024)) _ _=_; rw [aAv h]; rfl
  ·rw [if_neg h]; show cond (decide (b < 1024)) _ _=_; rw [aAy h]; rfl
 have s1:Dm.l1 b 1=some (if b < 2048 then .done 80 else .next 2):=by
  by_cases h:b < 2048
  ·rw [if_pos h]; show cond (decide (b < 2048)) _ _=_; rw [aAv h]; rfl
  ·rw [if_neg h]; show cond (decide (b < 2048)) _ _=_; rw [aAy h]; rfl
 have s2:Dm.l1 b 2=some (if b < 3072 then .done 112 else .next 3):=by
  by_cases h:b < 3072
  ·rw [if_pos h]; show cond (decide (b < 3072)) _ _=_; rw [aAv h]; rfl
  ·rw [if_neg h]; show cond (decide (b < 3072)) _ _=_; rw [aAy h]; rfl
 have s3:Dm.l1 b 3=some (if b < 7680 then .done 128 else .next 4):=by
  by_cases h:b < 7680
  ·rw [if_pos h]; show cond (decide (b < 7680)) _ _=_; rw [aAv h]; rfl
  ·rw [if_neg h]; show cond (decide (b < 7680)) _ _=_; rw [aAy h]; rfl
 have s4:Dm.l1 b 4=some (if b < 15360 then .done 192 else .next 5):=by
  by_cases h:b < 15360
  ·rw [if_pos h]; show cond (decide (b < 15360)) _ _=_; rw [aAv h]; rfl
  ·rw [if_neg h]; show cond (decide (b < 15360)) _ _=_; rw [aAy h]; rfl
 have s5:Dm.l1 b 5=some (.done 256):=rfl
 unfold Dm yT
 rw [H2,s0]
 split
 ·rfl
 show Cp _ (1:Int)=_
 rw [H2,s1]
 split
 ·rfl
 show Cp _ (2:Int)=_
 rw [H2,s2]
 split
 ·rfl
 show Cp _ (3:Int)=_
 rw [H2,s3]
 split
 ·rfl
 show Cp _ (4:Int)=_
 rw [H2,s4]
 split
 ·rfl
 show Cp _ (5:Int)=_
 rw [H2,s5]; rfl
theorem Yz (b:Int):Dv b=some (Gu b):=by
 unfold Dv Dv.j1 Gu yT
 by_cases h1:b < 512
 ·rw [aAv h1,if_neg (by omega)]; rfl
 ·by_cases h2:16384 < b
  ·rw [aAy h1,aAv h2,if_neg (by omega)]; rfl
  ·rw [aAy h1,aAy h2,if_pos (by omega)]
   simp only [aDk]
   by_cases a:b < 1024
   ·simp [a]
   by_cases a2:b < 2048
   ·simp [a,a2]
   by_cases a3:b < 3072
   ·simp [a,a2,a3]
   by_cases a4:b < 7680
   ·simp [a,a2,a3,a4]
   by_cases a5:b < 15360 <;> simp [a,a2,a3,a4,a5]
theorem aEr (b:Int):Ba ⟨1,b⟩=some (Iy 1 b):=by
 show cond (decide (b=0)) (some 18) (some 0)=some (E6 18 b)
 unfold E6
 by_cases h:b=0 <;> simp [h]
theorem aFs (b:Int):Az ⟨1,b⟩=some (Iy 1 b):=by
 show (B9 b [0] [18]).bind (fun y_8=>some y_8)=some (E6 18 b)
 rw [Fz b [0] [18] rfl (by decide)]
 unfold Sj E6
 by_cases h:b=0 <;> simp [h]
theorem aF7 (b:Int):Ba ⟨2,b⟩=some (Iy 2 b):=by
 show cond (decide (b=0)) (some 60) (some 0)=some (E6 60 b)
 unfold E6
 by_cases h:b=0 <;> simp [h]
theorem aG5 (b:Int):Az ⟨2,b⟩=some (Iy 2 b):=by
 show (B9 b [0] [60]).bind (fun y_8=>some y_8)=some (E6 60 b)
 rw [Fz b [0] [60] rfl (by decide)]
 unfold Sj E6
 by_cases h:b=0 <;> simp [h]
theorem aG1 (b:Int):Ba ⟨3,b⟩=some (Iy 3 b):=by
 show cond (decide (b=0)) (some 128) (some 0)=some (E6 128 b)
 unfold E6
 by_cases h:b=0 <;> simp [h]
theorem aGb (b:Int):Az ⟨3,b⟩=some (Iy 3 b):=by
 show (B9 b [0] [128]).bind (fun y_8=>some y_8)=some (E6 128 b)
 rw [Fz b [0] [128] rfl (by decide)]
 unfold Sj E6
 by_cases h:b=0 <;> simp [h]
theorem aF8 (b:Int):Ba ⟨4,b⟩=some (Iy 4 b):=by
 show cond (decide (b=0)) (some 192) (some 0)=some (E6 192 b)
 unfold E6
 by_cases h:b=0 <;> simp [h]
theorem aEx (b:Int):Az ⟨4,b⟩=some (Iy 4 b):=by
 show (B9 b [0] [192]).bind (fun y_8=>some y_8)=some (E6 192 b)
 rw [Fz b [0] [192] rfl (by decide)]
 unfold Sj E6
 by_cases h:b=0 <;> simp [h]
theorem aFh (b:Int):Ba ⟨5,b⟩=some (Iy 5 b):=by
 show cond (decide (512<=b)) (Ba.j1 ⟨5,b⟩ (decide (b<=16384))) (Ba.j1 ⟨5,b⟩ false)=some (Gu b)
 unfold Ba.j1 Gu
 rw [Y9]
 by_cases h1:512<=b <;> by_cases h2:b<=16384 <;> simp [h1,h2]
theorem aGe (b:Int):Az ⟨5,b⟩=some (Iy 5 b):=by
 show (Dv b).bind (fun y=>some y)=some (Gu b)
 rw [Yz]; rfl
theorem aEq (b:Int):Ba ⟨6,b⟩=some (Iy 6 b):=by
 show cond (decide (512<=b)) (Ba.j1 ⟨6,b⟩ (decide (b<=16384))) (Ba.j1 ⟨6,b⟩ false)=some (Gu b)
 unfold Ba.j1 Gu
 rw [Y9]
 by_cases h1:512<=b <;> by_cases h2:b<=16384 <;> simp [h1,h2]
theorem aFa (b:Int):Az ⟨6,b⟩=some (Iy 6 b):=by
 show (Dv b).bind (fun y=>some y)=some (Gu b)
 rw [Yz]; rfl
theorem aG6 (b:Int):Ba ⟨7,b⟩=some (Iy 7 b):=by
 show (C5 [160,224,256,384,521] b).bind (fun y_3=>cond y_3 ((M2 b 2).bind fun q=>some q) (some 0))=some (P8 b)
 rw [H3 _ _ (by decide)]
 unfold P8
 by_cases h:b=160\/b=224\/b=256\/b=384\/b=521
 ·rw [if_pos h,aAv (by simpa using h)]
  rcases h with h | h | h | h | h <;> (subst h; rfl)
 ·rw [if_neg h,aAy (by simpa using h)]; rfl
theorem aG7 (b:Int):Az ⟨7,b⟩=some (Iy 7 b):=by
 show Az.j2 ⟨7,b⟩ true=some (P8 b)
 unfold Az.j2 Az.j3 P8
 by_cases h:b=160\/b=224\/b=256\/b=384\/b=521
 ·rw [if_pos h]
  rcases h with h | h | h | h | h <;> (subst h; rfl)
 ·rw [if_neg h]
  have h1:¬ b=160:=by omega
  have h2:¬ b=224:=by omega
  have h3:¬ b=256:=by omega
  have h4:¬ b=384:=by omega
  have h5:¬ b=521:=by omega
  simp [h1,h2,h3,h4,h5]
theorem aFu (b:Int):Ba ⟨8,b⟩=some (Iy 8 b):=by
 show cond (decide (b=0)) (some 128) (some 0)=some (E6 128 b)
 unfold E6
 by_cases h:b=0 <;> simp [h]
theorem aE9 (b:Int):Az ⟨8,b⟩=some (Iy 8 b):=by
 show (B9 b [0] [128]).bind (fun y_8=>some y_8)=some (E6 128 b)
 rw [Fz b [0] [128] rfl (by decide)]
 unfold Sj E6
 by_cases h:b=0 <;> simp [h]
theorem aGx (b:Int):Ba ⟨9,b⟩=some (Iy 9 b):=by
 show (Ci [44,65,87] b).bind (fun y_4=>cond (decide (0<=y_4)) ((B5 [128,192,256] y_4).bind fun e_2=>some e_2) (some 0))=some (Sj [44,65,87] [128,192,256] b)
 rw [Mj _ _ (by decide)]
 unfold Sj
 cases h:List.findIdx? (fun e=>decide (b=e)) [44,65,87] with
 | none=>rfl
 | some i=>
  have hi:=(aH6.1 h).1
  have:i < 3:=hi
  rcases (by omega:i=0\/i=1\/i=2) with h | h | h <;> (subst h; rfl)
theorem aFf (b:Int):Az ⟨9,b⟩=some (Iy 9 b):=by
 show (B9 b [44,65,87] [128,192,256]).bind (fun y=>some y)=some (Sj [44,65,87] [128,192,256] b)
 rw [Fz b [44,65,87] [128,192,256] rfl (by decide)]; rfl
theorem aBy (b:Int):Ba ⟨10,b⟩=some (Iy 10 b):=by
 show cond (decide (512<=b)) (Ba.j1 ⟨10,b⟩ (decide (b<=16384))) (Ba.j1 ⟨10,b⟩ false)=some (Gu b)
 unfold Ba.j1 Gu
 rw [Y9]
 by_cases h1:512<=b <;> by_cases h2:b<=16384 <;> simp [h1,h2]
theorem aBc (b:Int):Az ⟨10,b⟩=some (Iy 10 b):=by
 show (Dv b).bind (fun y=>some y)=some (Gu b)
 rw [Yz]; rfl
theorem aBu (b:Int):Ba ⟨11,b⟩=some (Iy 11 b):=by
 show cond (decide (512<=b)) (Ba.j1 ⟨11,b⟩ (decide (b<=16384))) (Ba.j1 ⟨11,b⟩ false)=some (Gu b)
 unfold Ba.j1 Gu
 rw [Y9]
 by_cases h1:512<=b <;> by_cases h2:b<=16384 <;> simp [h1,h2]
theorem aBp (b:Int):Az ⟨11,b⟩=some (Iy 11 b):=by
 show (Dv b).bind (fun y=>some y)=some (Gu b)
 rw [Yz]; rfl
theorem aD5 (b:Int):Ba ⟨12,b⟩=some (Iy 12 b):=by
 show (C5 [160,224,256,384,521] b).bind (fun y_3=>cond y_3 ((M2 b 2).bind fun q=>some q) (some 0))=some (P8 b)
 rw [H3 _ _ (by decide)]
 unfold P8
 by_cases h:b=160\/b=224\/b=256\/b=384\/b=521
 ·rw [if_pos h,aAv (by simpa using h)]
  rcases h with h | h | h | h | h <;> (subst h; rfl)
 ·rw [if_neg h,aAy (by simpa using h)]; rfl
theorem aC0 (b:Int):Az ⟨12,b⟩=some (Iy 12 b):=by
 show Az.j2 ⟨12,b⟩ true=some (P8 b)
 unfold Az.j2 Az.j3 P8
 by_cases h:b=160\/b=224\/b=256\/b=384\/b=521
 ·rw [if_pos h]
  rcases h with h | h | h | h | h <;> (subst h; rfl)
 ·rw [if_neg h]
  have h1:¬ b=160:=by omega
  have h2:¬ b=224:=by omega
  have h3:¬ b=256:=by omega
  have h4:¬ b=384:=by omega
  have h5:¬ b=521:=by omega
  simp [h1,h2,h3,h4,h5]
theorem aC6 (b:Int):Ba ⟨13,b⟩=some (Iy 13 b):=by
 show (Ci [512,768,1024] b).bind (fun y_4=>cond (decide (0<=y_4)) ((B5 [128,192,256] y_4).bind fun e_2=>some e_2) (some 0))=some (Sj [512,768,1024] [128,192,256] b)
 rw [Mj _ _ (by decide)]
 unfold Sj
 cases h:List.findIdx? (fun e=>decide (b=e)) [512,768,1024] with
 | none=>rfl
 | some i=>
  have hi:=(aH6.1 h).1
  have:i < 3:=hi
  rcases (by omega:i=0\/i=1\/i=2) with h | h | h <;> (subst h; rfl)
theorem aB3 (b:Int):Az ⟨13,b⟩=some (Iy 13 b):=by
 show (B9 b [512,768,1024] [128,192,256]).bind (fun y=>some y)=some (Sj [512,768,1024] [128,192,256] b)
 rw [Fz b [512,768,1024] [128,192,256] rfl (by decide)]; rfl
theorem aEi (b:Int):Ba ⟨14,b⟩=some (Iy 14 b):=by
 show (Ci [40,128] b).bind (fun y_4=>cond (decide (0<=y_4)) ((B5 [40,60] y_4).bind fun e_2=>some e_2) (some 0))=some (Sj [40,128] [40,60] b)
 rw [Mj _ _ (by decide)]
 unfold Sj
 cases h:List.findIdx? (fun e=>decide (b=e)) [40,128] with
 | none=>rfl
 | some i=>
  have hi:=(aH6.1 h).1
  have:i < 2:=hi
  rcases (by omega:i=0\/i=1) with h | h <;> (subst h; rfl)
theorem aEe (b:Int):Az ⟨14,b⟩=some (Iy 14 b):=by
 show (B9 b [40,128] [40,60]).bind (fun y=>some y)=some (Sj [40,128] [40,60] b)
 rw [Fz b [40,128] [40,60] rfl (by decide)]; rfl
theorem aA5 (b:Int):Ba ⟨15,b⟩=some (Iy 15 b):=by
 show (Ci [112,168] b).bind (fun y_4=>cond (decide (0<=y_4)) ((B5 [80,112] y_4).bind fun e_2=>some e_2) (some 0))=some (Sj [112,168] [80,112] b)
 rw [Mj _ _ (by decide)]
 unfold Sj
 cases h:List.findIdx? (fun e=>decide (b=e)) [112,168] with
 | none=>rfl
 | some i=>
  have hi:=(aH6.1 h).1
  have:i < 2:=hi
  rcases (by omega:i=0\/i=1) with h | h <;> (subst h; rfl)
theorem aCu (b:Int):Az ⟨15,b⟩=some (Iy 15 b):=by
 show (B9 b [112,168] [80,112]).bind (fun y=>some y)=some (Sj [112,168] [80,112] b)
 rw [Fz b [112,168] [80,112] rfl (by decide)]; rfl
theorem aBi (b:Int):Ba ⟨16,b⟩=some (Iy 16 b):=by
 show (Ci [128,256] b).bind (fun y_4=>cond (decide (0<=y_4)) ((B5 [128,256] y_4).bind fun e_2=>some e_2) (some 0))=some (Sj [128,256] [128,256] b)
 rw [Mj _ _ (by decide)]
 unfold Sj
 cases h:List.findIdx? (fun e=>decide (b=e)) [128,256] with
 | none=>rfl
 | some i=>
  have hi:=(aH6.1 h).1
  have:i < 2:=hi
  rcases (by omega:i=0\/i=1) with h | h <;> (subst h; rfl)
theorem aCt (b:Int):Az ⟨16,b⟩=some (Iy 16 b):=by
 show (B9 b [128,256] [128,256]).bind (fun y=>some y)=some (Sj [128,256] [128,256] b)
 rw [Fz b [128,256] [128,256] rfl (by decide)]; rfl
theorem aDq (b:Int):Ba ⟨17,b⟩=some (Iy 17 b):=by
 show (Ci [128,256] b).bind (fun y_4=>cond (decide (0<=y_4)) ((B5 [128,256] y_4).bind fun e_2=>some e_2) (some 0))=some (Sj [128,256] [128,256] b)
 rw [Mj _ _ (by decide)]
 unfold Sj
 cases h:List.findIdx? (fun e=>decide (b=e)) [128,256] with
 | none=>rfl
 | some i=>
  have hi:=(aH6.1 h).1
  have:i < 2:=hi
  rcases (by omega:i=0\/i=1) with h | h <;> (subst h; rfl)
theorem aDe (b:Int):Az ⟨17,b⟩=some (Iy 17 b):=by
 show (B9 b [128,256] [128,256]).bind (fun y=>some y)=some (Sj [128,256] [128,256] b)
 rw [Fz b [128,256] [128,256] rfl (by decide)]; rfl
theorem aA6 (b:Int):Ba ⟨18,b⟩=some (Iy 18 b):=by
 show cond (decide (b=0)) (some 256) (some 0)=some (E6 256 b)
 unfold E6
 by_cases h:b=0 <;> simp [h]
theorem aDl (b:Int):Az ⟨18,b⟩=some (Iy 18 b):=by
 show (B9 b [0] [256]).bind (fun y_8=>some y_8)=some (E6 256 b)
 rw [Fz b [0] [256] rfl (by decide)]
 unfold Sj E6
 by_cases h:b=0 <;> simp [h]
theorem aCo (b:Int):Ba ⟨19,b⟩=some (Iy 19 b):=by
 show cond (decide (b=0)) (some 64) (some 0)=some (E6 64 b)
 unfold E6
 by_cases h:b=0 <;> simp [h]
theorem aD6 (b:Int):Az ⟨19,b⟩=some (Iy 19 b):=by
 show (B9 b [0] [64]).bind (fun y_8=>some y_8)=some (E6 64 b)
 rw [Fz b [0] [64] rfl (by decide)]
 unfold Sj E6
 by_cases h:b=0 <;> simp [h]
theorem aDo (b:Int):Ba ⟨20,b⟩=some (Iy 20 b):=by
 show cond (decide (b=0)) (some 80) (some 0)=some (E6 80 b)
 unfold E6
 by_cases h:b=0 <;> simp [h]
theorem aAm (b:Int):Az ⟨20,b⟩=some (Iy 20 b):=by
 show (B9 b [0] [80]).bind (fun y_8=>some y_8)=some (E6 80 b)
 rw [Fz b [0] [80] rfl (by decide)]
 unfold Sj E6
 by_cases h:b=0 <;> simp [h]
theorem aCs (b:Int):Ba ⟨21,b⟩=some (Iy 21 b):=by
 show cond (decide (b=0)) (some 128) (some 0)=some (E6 128 b)
 unfold E6
 by_cases h:b=0 <;> simp [h]
theorem aDs (b:Int):Az ⟨21,b⟩=some (Iy 21 b):=by
 show (B9 b [0] [128]).bind (fun y_8=>some y_8)=some (E6 128 b)
 rw [Fz b [0] [128] rfl (by decide)]
 unfold Sj E6
 by_cases h:b=0 <;> simp [h]
theorem aAp (b:Int):Ba ⟨22,b⟩=some (Iy 22 b):=by
 show cond (decide (b=0)) (some 256) (some 0)=some (E6 256 b)
 unfold E6
 by_cases h:b=0 <;> simp [h]
theorem aDt (b:Int):Az ⟨22,b⟩=some (Iy 22 b):=by
 show (B9 b [0] [256]).bind (fun y_8=>some y_8)=some (E6 256 b)
 rw [Fz b [0] [256] rfl (by decide)]
 unfold Sj E6
 by_cases h:b=0 <;> simp [h]
theorem Ub {a:Int} (h:1<=a/\a<=22):a=1\/a=2\/a=3\/a=4\/a=5\/a=6\/a=7\/a=8\/a=9\/a=10\/a=11\/a=12\/a=13\/a=14\/a=15\/a=16\/a=17\/a=18\/a=19\/a=20\/a=21\/a=22:=by omega
theorem eF (u:Ar):Ba u=some (Pw u):=by
 obtain⟨a,b⟩:=u
 unfold Pw
 by_cases h0:1<=a/\a<=22
 ·rw [if_pos h0]
  rcases Ub h0 with h | h | h | h | h | h | h | h | h | h | h | h | h | h | h | h | h | h | h | h | h | h <;> subst h
  ·exact aEr b
  ·exact aF7 b
  ·exact aG1 b
  ·exact aF8 b
  ·exact aFh b
  ·exact aEq b
  ·exact aG6 b
  ·exact aFu b
  ·exact aGx b
  ·exact aBy b
  ·exact aBu b
  ·exact aD5 b
  ·exact aC6 b
  ·exact aEi b
  ·exact aA5 b
  ·exact aBi b
  ·exact aDq b
  ·exact aA6 b
  ·exact aCo b
  ·exact aDo b
  ·exact aCs b
  ·exact aAp b
 ·rw [if_neg h0]
  unfold Ba En
  by_cases h1:a < 1
  ·simp [h1,En.j1]
  ·have h2:22 < a:=by omega
   simp [h1,h2,En.j1]
theorem fN (u:Ar):Az u=some (Pw u):=by
 obtain⟨a,b⟩:=u
 unfold Pw
 by_cases h0:1<=a/\a<=22
 ·rw [if_pos h0]
  rcases Ub h0 with h | h | h | h | h | h | h | h | h | h | h | h | h | h | h | h | h | h | h | h | h | h <;> subst h
  ·exact aFs b
  ·exact aG5 b
  ·exact aGb b
  ·exact aEx b
  ·exact aGe b
  ·exact aFa b
  ·exact aG7 b
  ·exact aE9 b
  ·exact aFf b
  ·exact aBc b
  ·exact aBp b
  ·exact aC0 b
  ·exact aB3 b
  ·exact aEe b
  ·exact aCu b
  ·exact aCt b
  ·exact aDe b
  ·exact aDl b
  ·exact aD6 b
  ·exact aAm b
  ·exact aDs b
  ·exact aDt b
 ·rw [if_neg h0]
  have h1:¬ a=1:=by omega
  have h2:¬ a=2:=by omega
  have h3:¬ a=3:=by omega
  have h4:¬ a=4:=by omega
  have h5:¬ a=5:=by omega
  have h6:¬ a=6:=by omega
  have h7:¬ a=7:=by omega
  have h8:¬ a=8:=by omega
  have h9:¬ a=9:=by omega
  have h10:¬ a=10:=by omega
  have h11:¬ a=11:=by omega
  have h12:¬ a=12:=by omega
  have h13:¬ a=13:=by omega
  have h14:¬ a=14:=by omega
  have h15:¬ a=15:=by omega
  have h16:¬ a=16:=by omega
  have h17:¬ a=17:=by omega
  have h18:¬ a=18:=by omega
  have h19:¬ a=19:=by omega
  have h20:¬ a=20:=by omega
  have h21:¬ a=21:=by omega
  have h22:¬ a=22:=by omega
  simp [Az,Az.j1,Az.j2,Az.j4,Do,Do.j1,Do.j2,h1,h2,h3,h4,h5,h6,h7,h8,h9,h10,h11,h12,h13,h14,h15,h16,h17,h18,h19,h20,h21,h22]
  rw [Fz b [0] [0] rfl (by decide)]
  unfold Sj
  by_cases h:b=0 <;> simp [h]
theorem Vs (a:Int):G8 a=some (Px a):=by
 unfold Px
 by_cases h0:1<=a/\a<=22
 ·rw [if_pos h0]
  rcases Ub h0 with h | h | h | h | h | h | h | h | h | h | h | h | h | h | h | h | h | h | h | h | h | h <;> (subst h; rfl)
 ·rw [if_neg h0]
  unfold G8 En
  by_cases h1:a < 1
  ·simp [h1,En.j1]
  ·have h2:22 < a:=by omega
   simp [h1,h2,En.j1]
theorem bB (a:Int):Ew a=some (Px a):=by
 unfold Px
 by_cases h0:1<=a/\a<=22
 ·rw [if_pos h0]
  rcases Ub h0 with h | h | h | h | h | h | h | h | h | h | h | h | h | h | h | h | h | h | h | h | h | h <;> (subst h; rfl)
 ·rw [if_neg h0]
  unfold Ew
  by_cases h1:a < 1
  ·simp [h1,Ew.j1]
  ·have h2:22 < a:=by omega
   simp [h1,h2,Ew.j1]
theorem W7 (u:Ar):Gq u=some (decide (0 < Pw u)):=by unfold Gq; rw [eF]; rfl
theorem W8 (u:Ar):I9 u=some (decide (0 < Pw u)):=by unfold I9; rw [fN]; rfl
end
section
open Go
theorem Tt {i n:Nat} (h:i < n) (hn:n<=9223372036854775807):W ((i:Int) + 1)=((i + 1:Nat):Int):=by
 rw [Ex (by omega)]; omega
theorem Ro (s:ByteArray):(Iv s).length=s.size:=by unfold Iv; rw [Array.length_toList]; rfl
theorem nD {s:ByteArray} {i:Nat} {c:UInt8} (h:(Iv s)[i]?=some c):fY s (i:Int)=some c:=by
 unfold fY
 rw [if_neg (by omega),aId]
 unfold Iv at h
 rw [<- h]; simp
def zQ (c:UInt8):Bool:=decide (33<=(c.toNat:Int)) && decide ((c.toNat:Int)<=126)
def F8 (s:ByteArray):Bool:=decide (1<=(s.size:Int)) && decide ((s.size:Int)<=32) && !(Iv s).any (fun c=>!zQ c)
theorem N3 (s:ByteArray) (hs:s.size<=9223372036854775807):Cj s=some (F8 s):=by
 unfold Cj F8
 refine (Qr (body:=fun q'=>Cj.l1 s q') (Iv s) (fun i=>(i:Int)) (fun c=>!zQ c) false (decide (1<=(s.size:Int)) && decide ((s.size:Int)<=32)) (fun i c hc=>?_) ?_).trans ?_
 ·have h1:=Jo hc
  rw [Ro] at h1
  show Cj.l1 s (i:Int)=_
  unfold Cj.l1 Cj.j2 zQ
  rw [Gt hc,Tt h1 hs]
  by_cases a:(c.toNat:Int)<=32
  ·rw [aAv a,aAy (show ¬ (33:Int)<=(c.toNat:Int) by omega)]; rfl
  ·rw [aAy a,aAv (show (33:Int)<=(c.toNat:Int) by omega)]
   by_cases b:126 < (c.toNat:Int)
   ·rw [aAv b,aAy (by omega)]; rfl
   ·rw [aAy b,aAv (by omega)]; rfl
 ·show Cj.l1 s ((Iv s).length:Int)=_
  unfold Cj.l1
  rw [E4]
  by_cases a:(1:Int)<=(s.size:Int) <;> simp [a,up]
 ·cases (Iv s).any fun c=>!zQ c <;> simp
theorem We (s:ByteArray) (hs:s.size<=9223372036854775807):Cn s=some (F8 s):=by
 unfold Cn F8
 have hl:Cn.j1 s false=some (!(Iv s).any fun c=>!zQ c):=by
  unfold Cn.j1
  rw [aDk]
  refine (Qr (body:=fun q'=>Cn.l2 s q') (Iv s) (fun i=>(i:Int)) (fun c=>!zQ c) false true (fun i c hc=>?_) ?_).trans ?_
  ·have h1:=Jo hc
   rw [Ro] at h1
   show Cn.l2 s (i:Int)=_
   unfold Cn.l2 Cn.j3 zQ
   rw [aAv (by omega),aEn,nD hc,aAf,aAf,Tt h1 hs]
   by_cases a:(c.toNat:Int) < 33
   ·rw [aAv a,aAy (show ¬ (33:Int)<=(c.toNat:Int) by omega)]; rfl
   ·rw [aAy a,aAv (show (33:Int)<=(c.toNat:Int) by omega)]
    by_cases b:126 < (c.toNat:Int)
    ·rw [aAv b,aAy (by omega)]; rfl
    ·rw [aAy b,aAv (by omega)]; rfl
  ·show Cn.l2 s ((Iv s).length:Int)=_
   unfold Cn.l2
   rw [Ro,E4]; rfl
  ·cases (Iv s).any fun c=>!zQ c <;> rfl
 by_cases a:(s.size:Int) < 1
 ·rw [aAv a,aAy (show ¬ (1:Int)<=(s.size:Int) by omega)]; rfl
 ·rw [aAy a,aAv (show (1:Int)<=(s.size:Int) by omega),aDk]
  by_cases b:32 < (s.size:Int)
  ·rw [aAv b,aAy (by omega)]; rfl
  ·rw [aAy b,aAv (by omega),hl]; simp
def dT (l:List ByteArray) (i:Nat):Bool:=!F8 (l.getD i ⟨#[]⟩) || (decide (0 < i) && !L4 (Iv (l.getD (i - 1) ⟨#[]⟩)) (Iv (l.getD i ⟨#[]⟩)))
def Nh (l:List ByteArray):Bool:=!(List.range l.length).any (dT l)
theorem R4 {α:Type} {l:List α} {i:Nat} {x d:α} (h:l[i]?=some x):l.getD i d=x:=by
 rw [aKt,h]; rfl
theorem lP (l:List ByteArray) (hl:l.length<=9223372036854775807) (hs:∀ s∈l,s.size<=9223372036854775807):Cb l=some (Nh l && decide ((l.length:Int)<=8)):=by
 unfold Cb Nh
 refine (Xq (body:=fun q'=>Cb.l1 l q') l.length (fun i=>(i:Int)) (dT l) false (decide ((l.length:Int)<=8)) (fun i hi=>?_) ?_).trans ?_
 ·obtain⟨s,hx⟩:∃ s,l[i]?=some s:=⟨_,aA9 hi⟩
  show Cb.l1 l (i:Int)=_
  unfold Cb.l1 dT
  rw [Gt hx,N3 s (hs s (Ff hx)),aAf,R4 hx]
  cases hn:F8 s with
  | false=>rfl
  | true=>
   rw [aI6,aDk,aLf]
   cases i with
   | zero=>rfl
   | succ i=>
    obtain⟨p,hp⟩:∃ p,l[i]?=some p:=⟨_,aA9 (by omega)⟩
    rw [aAv (by omega),aEn,Ex (by omega),show ((i + 1:Nat):Int) - 1=(i:Int) by omega,Hx,hp,aAf,show i + 1 - 1=i from rfl,R4 hp,aAv (by omega),aJu]
    unfold Cb.j2
    rw [Tt (n:=l.length) (by omega) hl]
    cases L4 (Iv p) (Iv s) <;> rfl
 ·show Cb.l1 l (l.length:Int)=_
  unfold Cb.l1
  rw [E4]; rfl
 ·cases (List.range l.length).any (dT l) <;> rfl
end
section
open Go
def Q7 (u:Ar) (k:Int):Bool:=decide (0 < Pw u) && decide (Px u.Alg=k)
def Vk (c:Ae):List Bool:=[decide (c.Serial < 0),decide (1099511627776 < c.Serial),!F8 c.Issuer,!F8 c.Subject,!Nh c.Names,decide (8 < (c.Names.length:Int)),!Q7 c.Key 2,decide (c.KeyId < 0),decide (2147483648 < c.KeyId),!Q7 c.Hash 1,decide (c.Seal.Key < 0),decide (2147483648 < c.Seal.Key),decide (c.Seal.Sum < 0),decide (4294967296<=c.Seal.Sum),decide (c.From < 0),decide (c.To < c.From),decide (40000 < c.To),decide (c.Path < 0),decide (8 < c.Path),!c.Authority && !decide (c.Path=0)]
def G2 (c:Ae):Bool:=!(Vk c).any id
structure S3 (c:Ae):Prop where
 names:c.Names.length < 1000000000
 name:∀ s∈c.Names,s.size<=9223372036854775807
 issuer:c.Issuer.size<=9223372036854775807
 subject:c.Subject.size<=9223372036854775807
 ints:∀ n∈[c.Serial,c.Key.Alg,c.Key.Bits,c.KeyId,c.Hash.Alg,c.Hash.Bits,c.From,c.To,c.Path,c.Seal.Key,c.Seal.Sum],-9223372036854775808<=n/\n<=9223372036854775807
structure iD (c:Ae):Prop where
 names:c.Names.length<=9223372036854775807
 name:∀ s∈c.Names,s.size<=9223372036854775807
 issuer:c.Issuer.size<=9223372036854775807
 subject:c.Subject.size<=9223372036854775807
theorem S3.w {c:Ae} (h:S3 c):iD c:=⟨by have:=h.names; omega,h.name,h.issuer,h.subject⟩
theorem uP (u:Ar) (k:Int):H9 u k=some (Q7 u k):=by
 unfold H9 Q7
 rw [W7,Vs,aAf]
 cases decide (0 < Pw u) <;> rfl
theorem Uy (u:Ar):Hh u=some (Q7 u 2):=by
 unfold Hh Q7
 rw [W8,bB,aAf]
 cases decide (0 < Pw u) <;> rfl
theorem Y6 (n:Int):E9 n=some (!(decide (n < 0) || decide (2147483648 < n))):=by
 unfold E9
 by_cases a:n < 0
 ·rw [aAv a,aAy (show ¬ 0<=n by omega)]; rfl
 ·rw [aAy a,aAv (show 0<=n by omega)]
  by_cases b:n<=2147483648
  ·rw [aAv b,aAy (show ¬ 2147483648 < n by omega)]; rfl
  ·rw [aAy b,aAv (show 2147483648 < n by omega)]; rfl
theorem xR (n:Int):I6 n=some (!(decide (n < 0) || decide (4294967296<=n))):=by
 unfold I6
 by_cases a:n < 0
 ·rw [aAv a,aAy (show ¬ 0<=n by omega)]; rfl
 ·rw [aAy a,aAv (show 0<=n by omega)]
  by_cases b:n < 4294967296
  ·rw [aAv b,aAy (show ¬ 4294967296<=n by omega)]; rfl
  ·rw [aAy b,aAv (show 4294967296<=n by omega)]; rfl
theorem aI0 (n:Nat):decide ((n:Int)<=8)=!decide (8 < (n:Int)):=by
 by_cases h:(n:Int)<=8
 ·rw [aAv h,aAy (by omega)]; rfl
 ·rw [aAy h,aAv (by omega)]; rfl
theorem wW (c:Ae):Bl.j3 c false=some (!(decide (c.Path < 0) || decide (8 < c.Path) || (!c.Authority && !decide (c.Path=0)))):=by
 unfold Bl.j3
 by_cases a:c.Path < 0
 ·rw [aAv a,aAy (show ¬ 0<=c.Path by omega)]; rfl
 ·rw [aAy a,aAv (show 0<=c.Path by omega)]
  by_cases b:c.Path<=8
  ·rw [aAv b,aAy (show ¬ 8 < c.Path by omega)]
   cases c.Authority <;> simp
  ·rw [aAy b,aAv (show 8 < c.Path by omega)]; rfl
theorem rO (c:Ae) (x:Bool):Bl.j3 c x=some (!(x || decide (c.Path < 0) || decide (8 < c.Path) || (!c.Authority && !decide (c.Path=0)))):=by
 cases x
 ·rw [wW]; simp
 ·simp [Bl.j3]
theorem kN (c:Ae) (h:iD c):Bl c=some (G2 c):=by
 unfold Bl Bl.j1 Bl.j2
 simp only [rO]
 rw [N3 _ h.issuer,N3 _ h.subject,lP _ h.names h.name,uP,Y6,uP,Y6,xR,aI0]
 simp only [aAf]
 unfold G2 Vk
 simp only [aJ7,aLi,id]
 generalize decide (c.Serial < 0)=b1
 cases b1
 case true=>simp
 generalize decide (1099511627776 < c.Serial)=b2
 cases b2
 case true=>simp
 generalize F8 c.Issuer=b3
 cases b3
 case false=>simp
 generalize F8 c.Subject=b4
 cases b4
 case false=>simp
 generalize Nh c.Names=b5
 cases b5
 case false=>simp
 generalize decide (8 < (c.Names.length:Int))=b6
 cases b6
 case true=>simp
 generalize Q7 c.Key 2=b7
 cases b7
 case false=>simp
 generalize decide (c.KeyId < 0)=b8
 cases b8
 case true=>simp
 generalize decide (2147483648 < c.KeyId)=b9
 cases b9
 case true=>simp
 generalize Q7 c.Hash 1=b10
 cases b10
 case false=>simp
 generalize decide (c.Seal.Key < 0)=b11
 cases b11
 case true=>simp
 generalize decide (2147483648 < c.Seal.Key)=b12
 cases b12
 case true=>simp
 generalize decide (c.Seal.Sum < 0)=b13
 cases b13
 case true=>simp
 generalize decide (4294967296<=c.Seal.Sum)=b14
 cases b14
 case true=>simp
 generalize decide (c.From < 0)=b15
 cases b15
 case true=>simp
 generalize decide (c.To < c.From)=b16
 cases b16
 case true=>simp
 generalize decide (40000 < c.To)=b17
 cases b17
 case true=>simp
 generalize decide (c.Path < 0)=b18
 generalize decide (8 < c.Path)=b19
 generalize decide (c.Path=0)=b20
 cases b18 <;> cases b19 <;> cases b20 <;> simp
end
section
open Go
def Wf (c:Ae):Bool:=decide (c.Seal.Key < 0) || (decide (2147483648 < c.Seal.Key) || (decide (c.Seal.Sum < 0) || decide (4294967296<=c.Seal.Sum)))
theorem aB8 (c:Ae) (h:iD c) (x:Bool):A9.j3 c x=some (bif (x || !Nh c.Names || Wf c) then 9 else 0):=by
 cases x
 ·unfold A9.j3
  rw [aDk]
  refine (Xq (body:=fun q'=>A9.l4 c q') c.Names.length (fun i=>(i:Int)) (dT c.Names) 9 (bif Wf c then 9 else 0) (fun i hi=>?_) ?_).trans ?_
  ·obtain⟨s,hx⟩:∃ s,c.Names[i]?=some s:=⟨_,aA9 hi⟩
   have hN:=h.names
   show A9.l4 c (i:Int)=_
   unfold A9.l4 dT
   rw [Gt hx,We s (h.name s (Ff hx)),aAf,R4 hx]
   cases hn:F8 s with
   | false=>rfl
   | true=>
    rw [aI6,aDk,aLf]
    cases i with
    | zero=>rfl
    | succ i=>
     obtain⟨p,hp⟩:∃ p,c.Names[i]?=some p:=⟨_,aA9 (by omega)⟩
     rw [aAv (by omega),aEn,Ex (by omega),show ((i + 1:Nat):Int) - 1=(i:Int) by omega,Hx,hp,aAf,show i + 1 - 1=i from rfl,R4 hp,aAv (by omega),aJu]
     unfold A9.j5
     rw [Tt (n:=c.Names.length) (by omega) hN]
     cases L4 (Iv p) (Iv s) <;> rfl
  ·show A9.l4 c (c.Names.length:Int)=_
   unfold A9.l4 A9.j6 Wf
   rw [E4]
   cases decide (c.Seal.Key < 0) <;> cases decide (2147483648 < c.Seal.Key) <;> cases decide (c.Seal.Sum < 0) <;> cases decide (4294967296<=c.Seal.Sum) <;> rfl
  ·unfold Nh
   cases (List.range c.Names.length).any (dT c.Names) <;> cases Wf c <;> rfl
 ·rfl
theorem Zz (c:Ae) (h:iD c):A9 c=some (bif G2 c then 0 else 9):=by
 unfold A9 A9.j1 A9.j2
 simp only [aB8 c h]
 rw [We _ h.issuer,We _ h.subject,Uy,W8,bB]
 simp only [aAf]
 unfold G2 Vk Wf
 simp only [aJ7,aLi,id]
 have hu:Q7 c.Hash 1=(decide (0 < Pw c.Hash) && decide (Px c.Hash.Alg=1)):=rfl
 rw [hu]
 generalize decide (c.Serial < 0)=b1
 cases b1
 case true=>simp
 generalize decide (1099511627776 < c.Serial)=b2
 cases b2
 case true=>simp
 generalize F8 c.Issuer=b3
 cases b3
 case false=>simp
 generalize F8 c.Subject=b4
 cases b4
 case false=>simp
 generalize Q7 c.Key 2=b7
 cases b7
 case false=>simp
 generalize decide (c.KeyId < 0)=b8
 cases b8
 case true=>simp
 generalize decide (2147483648 < c.KeyId)=b9
 cases b9
 case true=>simp
 generalize decide (0 < Pw c.Hash)=b10
 cases b10
 case false=>simp
 generalize decide (Px c.Hash.Alg=1)=b10'
 cases b10'
 case false=>simp
 generalize decide (c.From < 0)=b15
 cases b15
 case true=>simp
 generalize decide (c.To < c.From)=b16
 cases b16
 case true=>simp
 generalize decide (40000 < c.To)=b17
 cases b17
 case true=>simp
 generalize decide (c.Path < 0)=b18
 cases b18
 case true=>simp
 generalize decide (8 < c.Path)=b19
 cases b19
 case true=>simp
 generalize decide (c.Path=0)=b20
 generalize c.Authority=b21
 generalize decide (8 < (c.Names.length:Int))=b6
 generalize Nh c.Names=b5
 cases b20 <;> cases b21 <;> cases b6 <;> cases b5 <;> simp <;> generalize decide (c.Seal.Key < 0)=b11 <;> generalize decide (2147483648 < c.Seal.Key)=b12 <;> generalize decide (c.Seal.Sum < 0)=b13 <;> generalize decide (4294967296<=c.Seal.Sum)=b14 <;> cases b11 <;> cases b12 <;> cases b13 <;> cases b14 <;> rfl
theorem cO (c:Ae) (h:S3 c):A9 c=some (bif G2 c then 0 else 9):=Zz c h.w
end
end Go.Proofs.YtkoflhimdenjaaaGreat
