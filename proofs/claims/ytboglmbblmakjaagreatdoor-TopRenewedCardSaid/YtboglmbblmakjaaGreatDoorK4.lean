/- Plain texts, joined. No program is in sight here. -/
import Derived.Test.YtboglmbblmakjaaGreatDoorL3
import Derived.Test.YtboglmbblmakjaaGreatDoorP1
set_option linter.unusedVariables false
set_option linter.unusedSimpArgs false
namespace Go.Proofs.YtboglmbblmakjaaGreatDoor
section
open Go
def Gv (s b:Int):Int:=if b=0 then s else 0
def aEc (b:Int):Int:=if b < 1024 then 56 else if b < 2048 then 80 else if b < 3072 then 112 else if b < 7680 then 128 else if b < 15360 then 192 else 256
def H9 (b:Int):Int:=if 512<=b/\b<=16384 then aEc b else 0
def Sa (b:Int):Int:=if b=160\/b=224\/b=256\/b=384\/b=521 then b / 2 else 0
def Vn (sizes strengths:List Int) (b:Int):Int:=match sizes.findIdx? (fun e=>decide (b=e)) with | some i=>strengths.getD i 0 | none=>0
def K1:Nat->Int->Int
 | 1=>Gv 18
 | 2=>Gv 60
 | 3=>Gv 128
 | 4=>Gv 192
 | 5=>H9
 | 6=>H9
 | 7=>Sa
 | 8=>Gv 128
 | 9=>Vn [44,65,87] [128,192,256]
 | 10=>H9
 | 11=>H9
 | 12=>Sa
 | 13=>Vn [512,768,1024] [128,192,256]
 | 14=>Vn [40,128] [40,60]
 | 15=>Vn [112,168] [80,112]
 | 16=>Vn [128,256] [128,256]
 | 17=>Vn [128,256] [128,256]
 | 18=>Gv 256
 | 19=>Gv 64
 | 20=>Gv 80
 | 21=>Gv 128
 | 22=>Gv 256
 | _=>fun _=>0
def aQ7:Nat->Int
 | 1=>1
 | 2=>1
 | 3=>1
 | 4=>1
 | 5=>2
 | 6=>2
 | 7=>2
 | 8=>2
 | 9=>2
 | 10=>3
 | 11=>3
 | 12=>3
 | 13=>3
 | 14=>4
 | 15=>4
 | 16=>4
 | 17=>4
 | 18=>4
 | 19=>5
 | 20=>5
 | 21=>5
 | 22=>5
 | _=>0
def P8 (u:Ah):Int:=if 1<=u.Alg/\u.Alg<=22 then K1 u.Alg.toNat u.Bits else 0
def Y6 (a:Int):Int:=if 1<=a/\a<=22 then aQ7 a.toNat else 0
theorem H7 (b:Int) (sizes strengths:List Int) (h:sizes.length=strengths.length) (hl:sizes.length < 1000000):C3 b sizes strengths=some (Vn sizes strengths b):=by
 unfold C3 Vn
 refine (Yb (body:=fun q'=>C3.l1 b sizes strengths q') sizes (fun i=>(i:Int)) (fun e=>decide (b=e)) (fun i=>strengths.getD i 0) 0 (fun i x hx=>?_) ?_).trans ?_
 ·have h1:=I3 hx
  show C3.l1 b sizes strengths (i:Int)=_
  unfold C3.l1
  rw [G0 hx,F4,Kf (by omega)]
  have hs:strengths[i]?=some (strengths.getD i 0):=by
   rw [aVq,aBb (by omega)]; rfl
  by_cases e:b=x
  ·rw [aBd e.symm,aBd e,hs]; rfl
  ·rw [aBc (fun e'=>e e'.symm),aBc e]; rfl
 ·show C3.l1 b sizes strengths (sizes.length:Int)=_
  unfold C3.l1
  rw [Fq]; rfl
 ·rfl
theorem Rh (s:List Int) (v:Int) (hl:s.length < 4611686018427387904):C0 s v=some (match s.findIdx? (fun e=>decide (v=e)) with | some i=>(i:Int) | none=>-1):=by
 unfold C0
 refine Yb (body:=fun q'=>C0.l1 s v q') s (fun i=>(i:Int)) (fun e=>decide (v=e)) (fun i=>(i:Int)) (-1) (fun i x hx=>?_) ?_
 ·have h1:=I3 hx
  show C0.l1 s v (i:Int)=_
  unfold C0.l1
  rw [G0 hx,Kf (by omega)]
  cases decide (v=x) <;> rfl
 ·show C0.l1 s v (s.length:Int)=_
  unfold C0.l1
  rw [Fq]; rfl
theorem Qd (s:List Int) (v:Int) (hl:s.length < 4611686018427387904):Ds s v=some (decide (v∈s)):=by
 unfold Ds
 rw [Rh s v hl,aAy]
 cases h:s.findIdx? (fun e=>decide (v=e)) with
 | none=>
  have:=bA4.1 h
  have hn:¬ v∈s:=fun hm=>by have:=this v hm; simp at this
  rw [aBc hn]; rfl
 | some i=>
  have h2:=bD0 (xs:=s) (p:=fun e=>decide (v=e))
  rw [h] at h2
  have:v∈s:=by
   have h3:=h2.symm
   rw [Option.isSome_some,aLm] at h3
   obtain⟨x,hx,e⟩:=h3
   rw [aDm e]; exact hx
  rw [aBd this]
  simp
theorem gR (b:Int):E0 b=some (aEc b):=by
 have s0:E0.l1 b 0=some (if b < 1024 then .done 56 else .next 1):=by
  by_cases h:b < 1024
  ·rw [if_pos h]; show cond (decide (b < 1024)) _ _=_; rw [aBd h]; rfl
  ·rw [if_neg h]; show cond (decide (b < 1024)) _ _=_; rw [aBc h]; rfl
 have s1:E0.l1 b 1=some (if b < 2048 then .done 80 else .next 2):=by
  by_cases h:b < 2048
  ·rw [if_pos h]; show cond (decide (b < 2048)) _ _=_; rw [aBd h]; rfl
  ·rw [if_neg h]; show cond (decide (b < 2048)) _ _=_; rw [aBc h]; rfl
 have s2:E0.l1 b 2=some (if b < 3072 then .done 112 else .next 3):=by
  by_cases h:b < 3072
  ·rw [if_pos h]; show cond (decide (b < 3072)) _ _=_; rw [aBd h]; rfl
  ·rw [if_neg h]; show cond (decide (b < 3072)) _ _=_; rw [aBc h]; rfl
 have s3:E0.l1 b 3=some (if b < 7680 then .done 128 else .next 4):=by
  by_cases h:b < 7680
  ·rw [if_pos h]; show cond (decide (b < 7680)) _ _=_; rw [aBd h]; rfl
  ·rw [if_neg h]; show cond (decide (b < 7680)) _ _=_; rw [aBc h]; rfl
 have s4:E0.l1 b 4=some (if b < 15360 then .done 192 else .next 5):=by
  by_cases h:b < 15360
  ·rw [if_pos h]; show cond (decide (b < 15360)) _ _=_; rw [aBd h]; rfl
  ·rw [if_neg h]; show cond (decide (b < 15360)) _ _=_; rw [aBc h]; rfl
 have s5:E0.l1 b 5=some (.done 256):=rfl
 unfold E0 aEc
 rw [G8,s0]
 split
 ·rfl
 show C7 _ (1:Int)=_
 rw [G8,s1]
 split
 ·rfl
 show C7 _ (2:Int)=_
 rw [G8,s2]
 split
 ·rfl
 show C7 _ (3:Int)=_
 rw [G8,s3]
 split
 ·rfl
 show C7 _ (4:Int)=_
 rw [G8,s4]
 split
 ·rfl
 show C7 _ (5:Int)=_
 rw [G8,s5]; rfl
theorem gL (b:Int):Fk b=some (H9 b):=by
 unfold Fk Fk.j1 H9 aEc
 by_cases h1:b < 512
 ·rw [aBd h1,if_neg (by omega)]; rfl
 ·by_cases h2:16384 < b
  ·rw [aBc h1,aBd h2,if_neg (by omega)]; rfl
  ·rw [aBc h1,aBc h2,if_pos (by omega)]
   simp only [aE8]
   by_cases a:b < 1024
   ·simp [a]
   by_cases a2:b < 2048
   ·simp [a,a2]
   by_cases a3:b < 3072
   ·simp [a,a2,a3]
   by_cases a4:b < 7680
   ·simp [a,a2,a3,a4]
   by_cases a5:b < 15360 <;> simp [a,a2,a3,a4,a5]
theorem aUi (b:Int):A6 ⟨1,b⟩=some (K1 1 b):=by
 show cond (decide (b=0)) (some 18) (some 0)=some (Gv 18 b)
 unfold Gv
 by_cases h:b=0 <;> simp [h]
theorem aTg (b:Int):Au ⟨1,b⟩=some (K1 1 b):=by
 show (C3 b [0] [18]).bind (fun y_8=>some y_8)=some (Gv 18 b)
 rw [H7 b [0] [18] rfl (by decide)]
 unfold Vn Gv
 by_cases h:b=0 <;> simp [h]
theorem aTr (b:Int):A6 ⟨2,b⟩=some (K1 2 b):=by
 show cond (decide (b=0)) (some 60) (some 0)=some (Gv 60 b)
 unfold Gv
 by_cases h:b=0 <;> simp [h]
theorem aSt (b:Int):Au ⟨2,b⟩=some (K1 2 b):=by
 show (C3 b [0] [60]).bind (fun y_8=>some y_8)=some (Gv 60 b)
 rw [H7 b [0] [60] rfl (by decide)]
 unfold Vn Gv
 by_cases h:b=0 <;> simp [h]
theorem aS0 (b:Int):A6 ⟨3,b⟩=some (K1 3 b):=by
 show cond (decide (b=0)) (some 128) (some 0)=some (Gv 128 b)
 unfold Gv
 by_cases h:b=0 <;> simp [h]
theorem aT6 (b:Int):Au ⟨3,b⟩=some (K1 3 b):=by
 show (C3 b [0] [128]).bind (fun y_8=>some y_8)=some (Gv 128 b)
 rw [H7 b [0] [128] rfl (by decide)]
 unfold Vn Gv
 by_cases h:b=0 <;> simp [h]
theorem aSl (b:Int):A6 ⟨4,b⟩=some (K1 4 b):=by
 show cond (decide (b=0)) (some 192) (some 0)=some (Gv 192 b)
 unfold Gv
 by_cases h:b=0 <;> simp [h]
theorem aRf (b:Int):Au ⟨4,b⟩=some (K1 4 b):=by
 show (C3 b [0] [192]).bind (fun y_8=>some y_8)=some (Gv 192 b)
 rw [H7 b [0] [192] rfl (by decide)]
 unfold Vn Gv
 by_cases h:b=0 <;> simp [h]
theorem aRh (b:Int):A6 ⟨5,b⟩=some (K1 5 b):=by
 show cond (decide (512<=b)) (A6.j1 ⟨5,b⟩ (decide (b<=16384))) (A6.j1 ⟨5,b⟩ false)=some (H9 b)
 unfold A6.j1 H9
 rw [gR]
 by_cases h1:512<=b <;> by_cases h2:b<=16384 <;> simp [h1,h2]
theorem aS1 (b:Int):Au ⟨5,b⟩=some (K1 5 b):=by
 show (Fk b).bind (fun y=>some y)=some (H9 b)
 rw [gL]; rfl
theorem aRi (b:Int):A6 ⟨6,b⟩=some (K1 6 b):=by
 show cond (decide (512<=b)) (A6.j1 ⟨6,b⟩ (decide (b<=16384))) (A6.j1 ⟨6,b⟩ false)=some (H9 b)
 unfold A6.j1 H9
 rw [gR]
 by_cases h1:512<=b <;> by_cases h2:b<=16384 <;> simp [h1,h2]
theorem aQw (b:Int):Au ⟨6,b⟩=some (K1 6 b):=by
 show (Fk b).bind (fun y=>some y)=some (H9 b)
 rw [gL]; rfl
theorem aSb (b:Int):A6 ⟨7,b⟩=some (K1 7 b):=by
 show (Ds [160,224,256,384,521] b).bind (fun y_3=>cond y_3 ((cD b 2).bind fun q=>some q) (some 0))=some (Sa b)
 rw [Qd _ _ (by decide)]
 unfold Sa
 by_cases h:b=160\/b=224\/b=256\/b=384\/b=521
 ·rw [if_pos h,aBd (by simpa using h)]
  rcases h with h | h | h | h | h <;> (subst h; rfl)
 ·rw [if_neg h,aBc (by simpa using h)]; rfl
theorem aR2 (b:Int):Au ⟨7,b⟩=some (K1 7 b):=by
 show Au.j2 ⟨7,b⟩ true=some (Sa b)
 unfold Au.j2 Au.j3 Sa
 by_cases h:b=160\/b=224\/b=256\/b=384\/b=521
 ·rw [if_pos h]
  rcases h with h | h | h | h | h <;> (subst h; rfl)
 ·rw [if_neg h]
  have h1:¬ b=160:=by omega
  have h2:¬ b=224:=by omega
  have h3:¬ b=256:=by omega
  have h4:¬ b=384:=by omega
  have h5:¬ b=521:=by omega
  simp [h1,h2,h3,h4,h5]
theorem aTa (b:Int):A6 ⟨8,b⟩=some (K1 8 b):=by
 show cond (decide (b=0)) (some 128) (some 0)=some (Gv 128 b)
 unfold Gv
 by_cases h:b=0 <;> simp [h]
theorem aSh (b:Int):Au ⟨8,b⟩=some (K1 8 b):=by
 show (C3 b [0] [128]).bind (fun y_8=>some y_8)=some (Gv 128 b)
 rw [H7 b [0] [128] rfl (by decide)]
 unfold Vn Gv
 by_cases h:b=0 <;> simp [h]
theorem aQi (b:Int):A6 ⟨9,b⟩=some (K1 9 b):=by
 show (C0 [44,65,87] b).bind (fun y_4=>cond (decide (0<=y_4)) ((Bn [128,192,256] y_4).bind fun e_2=>some e_2) (some 0))=some (Vn [44,65,87] [128,192,256] b)
 rw [Rh _ _ (by decide)]
 unfold Vn
 cases h:List.findIdx? (fun e=>decide (b=e)) [44,65,87] with
 | none=>rfl
 | some i=>
  have hi:=(aLb.1 h).1
  have:i < 3:=hi
  rcases (by omega:i=0\/i=1\/i=2) with h | h | h <;> (subst h; rfl)
theorem aQp (b:Int):Au ⟨9,b⟩=some (K1 9 b):=by
 show (C3 b [44,65,87] [128,192,256]).bind (fun y=>some y)=some (Vn [44,65,87] [128,192,256] b)
 rw [H7 b [44,65,87] [128,192,256] rfl (by decide)]; rfl
theorem aLq (b:Int):A6 ⟨10,b⟩=some (K1 10 b):=by
 show cond (decide (512<=b)) (A6.j1 ⟨10,b⟩ (decide (b<=16384))) (A6.j1 ⟨10,b⟩ false)=some (H9 b)
 unfold A6.j1 H9
 rw [gR]
 by_cases h1:512<=b <;> by_cases h2:b<=16384 <;> simp [h1,h2]
theorem aL0 (b:Int):Au ⟨10,b⟩=some (K1 10 b):=by
 show (Fk b).bind (fun y=>some y)=some (H9 b)
 rw [gL]; rfl
theorem aOh (b:Int):A6 ⟨11,b⟩=some (K1 11 b):=by
 show cond (decide (512<=b)) (A6.j1 ⟨11,b⟩ (decide (b<=16384))) (A6.j1 ⟨11,b⟩ false)=some (H9 b)
 unfold A6.j1 H9
 rw [gR]
 by_cases h1:512<=b <;> by_cases h2:b<=16384 <;> simp [h1,h2]
theorem aMy (b:Int):Au ⟨11,b⟩=some (K1 11 b):=by
 show (Fk b).bind (fun y=>some y)=some (H9 b)
 rw [gL]; rfl
theorem aM2 (b:Int):A6 ⟨12,b⟩=some (K1 12 b):=by
 show (Ds [160,224,256,384,521] b).bind (fun y_3=>cond y_3 ((cD b 2).bind fun q=>some q) (some 0))=some (Sa b)
 rw [Qd _ _ (by decide)]
 unfold Sa
 by_cases h:b=160\/b=224\/b=256\/b=384\/b=521
 ·rw [if_pos h,aBd (by simpa using h)]
  rcases h with h | h | h | h | h <;> (subst h; rfl)
 ·rw [if_neg h,aBc (by simpa using h)]; rfl
theorem aOo (b:Int):Au ⟨12,b⟩=some (K1 12 b):=by
 show Au.j2 ⟨12,b⟩ true=some (Sa b)
 unfold Au.j2 Au.j3 Sa
 by_cases h:b=160\/b=224\/b=256\/b=384\/b=521
 ·rw [if_pos h]
  rcases h with h | h | h | h | h <;> (subst h; rfl)
 ·rw [if_neg h]
  have h1:¬ b=160:=by omega
  have h2:¬ b=224:=by omega
  have h3:¬ b=256:=by omega
  have h4:¬ b=384:=by omega
  have h5:¬ b=521:=by omega
  simp [h1,h2,h3,h4,h5]
theorem aMo (b:Int):A6 ⟨13,b⟩=some (K1 13 b):=by
 show (C0 [512,768,1024] b).bind (fun y_4=>cond (decide (0<=y_4)) ((Bn [128,192,256] y_4).bind fun e_2=>some e_2) (some 0))=some (Vn [512,768,1024] [128,192,256] b)
 rw [Rh _ _ (by decide)]
 unfold Vn
 cases h:List.findIdx? (fun e=>decide (b=e)) [512,768,1024] with
 | none=>rfl
 | some i=>
  have hi:=(aLb.1 h).1
  have:i < 3:=hi
  rcases (by omega:i=0\/i=1\/i=2) with h | h | h <;> (subst h; rfl)
theorem aPj (b:Int):Au ⟨13,b⟩=some (K1 13 b):=by
 show (C3 b [512,768,1024] [128,192,256]).bind (fun y=>some y)=some (Vn [512,768,1024] [128,192,256] b)
 rw [H7 b [512,768,1024] [128,192,256] rfl (by decide)]; rfl
theorem aOk (b:Int):A6 ⟨14,b⟩=some (K1 14 b):=by
 show (C0 [40,128] b).bind (fun y_4=>cond (decide (0<=y_4)) ((Bn [40,60] y_4).bind fun e_2=>some e_2) (some 0))=some (Vn [40,128] [40,60] b)
 rw [Rh _ _ (by decide)]
 unfold Vn
 cases h:List.findIdx? (fun e=>decide (b=e)) [40,128] with
 | none=>rfl
 | some i=>
  have hi:=(aLb.1 h).1
  have:i < 2:=hi
  rcases (by omega:i=0\/i=1) with h | h <;> (subst h; rfl)
theorem aO6 (b:Int):Au ⟨14,b⟩=some (K1 14 b):=by
 show (C3 b [40,128] [40,60]).bind (fun y=>some y)=some (Vn [40,128] [40,60] b)
 rw [H7 b [40,128] [40,60] rfl (by decide)]; rfl
theorem aM5 (b:Int):A6 ⟨15,b⟩=some (K1 15 b):=by
 show (C0 [112,168] b).bind (fun y_4=>cond (decide (0<=y_4)) ((Bn [80,112] y_4).bind fun e_2=>some e_2) (some 0))=some (Vn [112,168] [80,112] b)
 rw [Rh _ _ (by decide)]
 unfold Vn
 cases h:List.findIdx? (fun e=>decide (b=e)) [112,168] with
 | none=>rfl
 | some i=>
  have hi:=(aLb.1 h).1
  have:i < 2:=hi
  rcases (by omega:i=0\/i=1) with h | h <;> (subst h; rfl)
theorem aMw (b:Int):Au ⟨15,b⟩=some (K1 15 b):=by
 show (C3 b [112,168] [80,112]).bind (fun y=>some y)=some (Vn [112,168] [80,112] b)
 rw [H7 b [112,168] [80,112] rfl (by decide)]; rfl
theorem aOq (b:Int):A6 ⟨16,b⟩=some (K1 16 b):=by
 show (C0 [128,256] b).bind (fun y_4=>cond (decide (0<=y_4)) ((Bn [128,256] y_4).bind fun e_2=>some e_2) (some 0))=some (Vn [128,256] [128,256] b)
 rw [Rh _ _ (by decide)]
 unfold Vn
 cases h:List.findIdx? (fun e=>decide (b=e)) [128,256] with
 | none=>rfl
 | some i=>
  have hi:=(aLb.1 h).1
  have:i < 2:=hi
  rcases (by omega:i=0\/i=1) with h | h <;> (subst h; rfl)
theorem aMf (b:Int):Au ⟨16,b⟩=some (K1 16 b):=by
 show (C3 b [128,256] [128,256]).bind (fun y=>some y)=some (Vn [128,256] [128,256] b)
 rw [H7 b [128,256] [128,256] rfl (by decide)]; rfl
theorem aL4 (b:Int):A6 ⟨17,b⟩=some (K1 17 b):=by
 show (C0 [128,256] b).bind (fun y_4=>cond (decide (0<=y_4)) ((Bn [128,256] y_4).bind fun e_2=>some e_2) (some 0))=some (Vn [128,256] [128,256] b)
 rw [Rh _ _ (by decide)]
 unfold Vn
 cases h:List.findIdx? (fun e=>decide (b=e)) [128,256] with
 | none=>rfl
 | some i=>
  have hi:=(aLb.1 h).1
  have:i < 2:=hi
  rcases (by omega:i=0\/i=1) with h | h <;> (subst h; rfl)
theorem aLt (b:Int):Au ⟨17,b⟩=some (K1 17 b):=by
 show (C3 b [128,256] [128,256]).bind (fun y=>some y)=some (Vn [128,256] [128,256] b)
 rw [H7 b [128,256] [128,256] rfl (by decide)]; rfl
theorem aOe (b:Int):A6 ⟨18,b⟩=some (K1 18 b):=by
 show cond (decide (b=0)) (some 256) (some 0)=some (Gv 256 b)
 unfold Gv
 by_cases h:b=0 <;> simp [h]
theorem aNl (b:Int):Au ⟨18,b⟩=some (K1 18 b):=by
 show (C3 b [0] [256]).bind (fun y_8=>some y_8)=some (Gv 256 b)
 rw [H7 b [0] [256] rfl (by decide)]
 unfold Vn Gv
 by_cases h:b=0 <;> simp [h]
theorem aOz (b:Int):A6 ⟨19,b⟩=some (K1 19 b):=by
 show cond (decide (b=0)) (some 64) (some 0)=some (Gv 64 b)
 unfold Gv
 by_cases h:b=0 <;> simp [h]
theorem aNk (b:Int):Au ⟨19,b⟩=some (K1 19 b):=by
 show (C3 b [0] [64]).bind (fun y_8=>some y_8)=some (Gv 64 b)
 rw [H7 b [0] [64] rfl (by decide)]
 unfold Vn Gv
 by_cases h:b=0 <;> simp [h]
theorem aOx (b:Int):A6 ⟨20,b⟩=some (K1 20 b):=by
 show cond (decide (b=0)) (some 80) (some 0)=some (Gv 80 b)
 unfold Gv
 by_cases h:b=0 <;> simp [h]
theorem aLp (b:Int):Au ⟨20,b⟩=some (K1 20 b):=by
 show (C3 b [0] [80]).bind (fun y_8=>some y_8)=some (Gv 80 b)
 rw [H7 b [0] [80] rfl (by decide)]
 unfold Vn Gv
 by_cases h:b=0 <;> simp [h]
theorem aOy (b:Int):A6 ⟨21,b⟩=some (K1 21 b):=by
 show cond (decide (b=0)) (some 128) (some 0)=some (Gv 128 b)
 unfold Gv
 by_cases h:b=0 <;> simp [h]
theorem aOs (b:Int):Au ⟨21,b⟩=some (K1 21 b):=by
 show (C3 b [0] [128]).bind (fun y_8=>some y_8)=some (Gv 128 b)
 rw [H7 b [0] [128] rfl (by decide)]
 unfold Vn Gv
 by_cases h:b=0 <;> simp [h]
theorem aNg (b:Int):A6 ⟨22,b⟩=some (K1 22 b):=by
 show cond (decide (b=0)) (some 256) (some 0)=some (Gv 256 b)
 unfold Gv
 by_cases h:b=0 <;> simp [h]
theorem aPt (b:Int):Au ⟨22,b⟩=some (K1 22 b):=by
 show (C3 b [0] [256]).bind (fun y_8=>some y_8)=some (Gv 256 b)
 rw [H7 b [0] [256] rfl (by decide)]
 unfold Vn Gv
 by_cases h:b=0 <;> simp [h]
theorem Yc {a:Int} (h:1<=a/\a<=22):a=1\/a=2\/a=3\/a=4\/a=5\/a=6\/a=7\/a=8\/a=9\/a=10\/a=11\/a=12\/a=13\/a=14\/a=15\/a=16\/a=17\/a=18\/a=19\/a=20\/a=21\/a=22:=by omega
theorem bW (u:Ah):A6 u=some (P8 u):=by
 obtain⟨a,b⟩:=u
 unfold P8
 by_cases h0:1<=a/\a<=22
 ·rw [if_pos h0]
  rcases Yc h0 with h | h | h | h | h | h | h | h | h | h | h | h | h | h | h | h | h | h | h | h | h | h <;> subst h
  ·exact aUi b
  ·exact aTr b
  ·exact aS0 b
  ·exact aSl b
  ·exact aRh b
  ·exact aRi b
  ·exact aSb b
  ·exact aTa b
  ·exact aQi b
  ·exact aLq b
  ·exact aOh b
  ·exact aM2 b
  ·exact aMo b
  ·exact aOk b
  ·exact aM5 b
  ·exact aOq b
  ·exact aL4 b
  ·exact aOe b
  ·exact aOz b
  ·exact aOx b
  ·exact aOy b
  ·exact aNg b
 ·rw [if_neg h0]
  unfold A6 Gr
  by_cases h1:a < 1
  ·simp [h1,Gr.j1]
  ·have h2:22 < a:=by omega
   simp [h1,h2,Gr.j1]
theorem oT (u:Ah):Au u=some (P8 u):=by
 obtain⟨a,b⟩:=u
 unfold P8
 by_cases h0:1<=a/\a<=22
 ·rw [if_pos h0]
  rcases Yc h0 with h | h | h | h | h | h | h | h | h | h | h | h | h | h | h | h | h | h | h | h | h | h <;> subst h
  ·exact aTg b
  ·exact aSt b
  ·exact aT6 b
  ·exact aRf b
  ·exact aS1 b
  ·exact aQw b
  ·exact aR2 b
  ·exact aSh b
  ·exact aQp b
  ·exact aL0 b
  ·exact aMy b
  ·exact aOo b
  ·exact aPj b
  ·exact aO6 b
  ·exact aMw b
  ·exact aMf b
  ·exact aLt b
  ·exact aNl b
  ·exact aNk b
  ·exact aLp b
  ·exact aOs b
  ·exact aPt b
 ·rw [if_neg h0]
  have h1:¬ a=1:=by omega
  have h2:¬ a=2:=by omega
  have h3:¬ a=3:=by omega
  have h4:¬ a=4:=by omega
  have h5:¬ a=5:=by omega
  have h6:¬ a=6:=by omega
  have h7:¬ a=7:=by omega
  have h8:¬ a=8:=by omega
  have h9:¬ a=9:=by omega
  have h10:¬ a=10:=by omega
  have h11:¬ a=11:=by omega
  have h12:¬ a=12:=by omega
  have h13:¬ a=13:=by omega
  have h14:¬ a=14:=by omega
  have h15:¬ a=15:=by omega
  have h16:¬ a=16:=by omega
  have h17:¬ a=17:=by omega
  have h18:¬ a=18:=by omega
  have h19:¬ a=19:=by omega
  have h20:¬ a=20:=by omega
  have h21:¬ a=21:=by omega
  have h22:¬ a=22:=by omega
  simp [Au,Au.j1,Au.j2,Au.j4,E8,E8.j1,E8.j2,h1,h2,h3,h4,h5,h6,h7,h8,h9,h10,h11,h12,h13,h14,h15,h16,h17,h18,h19,h20,h21,h22]
  rw [H7 b [0] [0] rfl (by decide)]
  unfold Vn
  by_cases h:b=0 <;> simp [h]
theorem jN (a:Int):Kw a=some (Y6 a):=by
 unfold Y6
 by_cases h0:1<=a/\a<=22
 ·rw [if_pos h0]
  rcases Yc h0 with h | h | h | h | h | h | h | h | h | h | h | h | h | h | h | h | h | h | h | h | h | h <;> (subst h; rfl)
 ·rw [if_neg h0]
  unfold Kw Gr
  by_cases h1:a < 1
  ·simp [h1,Gr.j1]
  ·have h2:22 < a:=by omega
   simp [h1,h2,Gr.j1]
theorem rP (a:Int):Hg a=some (Y6 a):=by
 unfold Y6
 by_cases h0:1<=a/\a<=22
 ·rw [if_pos h0]
  rcases Yc h0 with h | h | h | h | h | h | h | h | h | h | h | h | h | h | h | h | h | h | h | h | h | h <;> (subst h; rfl)
 ·rw [if_neg h0]
  unfold Hg
  by_cases h1:a < 1
  ·simp [h1,Hg.j1]
  ·have h2:22 < a:=by omega
   simp [h1,h2,Hg.j1]
theorem Rl (u:Ah):Gx u=some (decide (0 < P8 u)):=by unfold Gx; rw [bW]; rfl
theorem mQ (u:Ah):Ni u=some (decide (0 < P8 u)):=by unfold Ni; rw [oT]; rfl
end
section
open Go
theorem aD {i n:Nat} (h:i < n) (hn:n<=9223372036854775807):W ((i:Int) + 1)=((i + 1:Nat):Int):=by
 rw [Hh (by omega)]; omega
theorem aH (s:ByteArray):(Q2 s).length=s.size:=by unfold Q2; rw [Array.length_toList]; rfl
theorem aJ6 {s:ByteArray} {i:Nat} {c:UInt8} (h:(Q2 s)[i]?=some c):Wo s (i:Int)=some c:=by
 unfold Wo
 rw [if_neg (by omega),aQb]
 unfold Q2 at h
 rw [<- h]; simp
def chS (c:UInt8):Bool:=decide (33<=(c.toNat:Int)) && decide ((c.toNat:Int)<=126)
def Mh (s:ByteArray):Bool:=decide (1<=(s.size:Int)) && decide ((s.size:Int)<=32) && !(Q2 s).any (fun c=>!chS c)
theorem Yg (s:ByteArray) (hs:s.size<=9223372036854775807):Dm s=some (Mh s):=by
 unfold Dm Mh
 refine (Xk (body:=fun q'=>Dm.l1 s q') (Q2 s) (fun i=>(i:Int)) (fun c=>!chS c) false (decide (1<=(s.size:Int)) && decide ((s.size:Int)<=32)) (fun i c hc=>?_) ?_).trans ?_
 ·have h1:=I3 hc
  rw [aH] at h1
  show Dm.l1 s (i:Int)=_
  unfold Dm.l1 Dm.j2 chS
  rw [G0 hc,aD h1 hs]
  by_cases a:(c.toNat:Int)<=32
  ·rw [aBd a,aBc (show ¬ (33:Int)<=(c.toNat:Int) by omega)]; rfl
  ·rw [aBc a,aBd (show (33:Int)<=(c.toNat:Int) by omega)]
   by_cases b:126 < (c.toNat:Int)
   ·rw [aBd b,aBc (by omega)]; rfl
   ·rw [aBc b,aBd (by omega)]; rfl
 ·show Dm.l1 s ((Q2 s).length:Int)=_
  unfold Dm.l1
  rw [Fq]
  by_cases a:(1:Int)<=(s.size:Int) <;> simp [a,up]
 ·cases (Q2 s).any fun c=>!chS c <;> simp
theorem gZ (s:ByteArray) (hs:s.size<=9223372036854775807):Dx s=some (Mh s):=by
 unfold Dx Mh
 have hl:Dx.j1 s false=some (!(Q2 s).any fun c=>!chS c):=by
  unfold Dx.j1
  rw [aE8]
  refine (Xk (body:=fun q'=>Dx.l2 s q') (Q2 s) (fun i=>(i:Int)) (fun c=>!chS c) false true (fun i c hc=>?_) ?_).trans ?_
  ·have h1:=I3 hc
   rw [aH] at h1
   show Dx.l2 s (i:Int)=_
   unfold Dx.l2 Dx.j3 chS
   rw [aBd (by omega),aHj,aJ6 hc,aAy,aAy,aD h1 hs]
   by_cases a:(c.toNat:Int) < 33
   ·rw [aBd a,aBc (show ¬ (33:Int)<=(c.toNat:Int) by omega)]; rfl
   ·rw [aBc a,aBd (show (33:Int)<=(c.toNat:Int) by omega)]
    by_cases b:126 < (c.toNat:Int)
    ·rw [aBd b,aBc (by omega)]; rfl
    ·rw [aBc b,aBd (by omega)]; rfl
  ·show Dx.l2 s ((Q2 s).length:Int)=_
   unfold Dx.l2
   rw [aH,Fq]; rfl
  ·cases (Q2 s).any fun c=>!chS c <;> rfl
 by_cases a:(s.size:Int) < 1
 ·rw [aBd a,aBc (show ¬ (1:Int)<=(s.size:Int) by omega)]; rfl
 ·rw [aBc a,aBd (show (1:Int)<=(s.size:Int) by omega),aE8]
  by_cases b:32 < (s.size:Int)
  ·rw [aBd b,aBc (by omega)]; rfl
  ·rw [aBc b,aBd (by omega),hl]; simp
def oI (l:List ByteArray) (i:Nat):Bool:=!Mh (l.getD i ⟨#[]⟩) || (decide (0 < i) && !tP (Q2 (l.getD (i - 1) ⟨#[]⟩)) (Q2 (l.getD i ⟨#[]⟩)))
def R8 (l:List ByteArray):Bool:=!(List.range l.length).any (oI l)
theorem Vz {α:Type} {l:List α} {i:Nat} {x d:α} (h:l[i]?=some x):l.getD i d=x:=by
 rw [aVq,h]; rfl
theorem uL (l:List ByteArray) (hl:l.length<=9223372036854775807) (hs:∀ s∈l,s.size<=9223372036854775807):Dd l=some (R8 l && decide ((l.length:Int)<=8)):=by
 unfold Dd R8
 refine (Yl (body:=fun q'=>Dd.l1 l q') l.length (fun i=>(i:Int)) (oI l) false (decide ((l.length:Int)<=8)) (fun i hi=>?_) ?_).trans ?_
 ·obtain⟨s,hx⟩:∃ s,l[i]?=some s:=⟨_,aBb hi⟩
  show Dd.l1 l (i:Int)=_
  unfold Dd.l1 oI
  rw [G0 hx,Yg s (hs s (E7 hx)),aAy,Vz hx]
  cases hn:Mh s with
  | false=>rfl
  | true=>
   rw [aI7,aE8,bB6]
   cases i with
   | zero=>rfl
   | succ i=>
    obtain⟨p,hp⟩:∃ p,l[i]?=some p:=⟨_,aBb (by omega)⟩
    rw [aBd (by omega),aHj,Hh (by omega),show ((i + 1:Nat):Int) - 1=(i:Int) by omega,F4,hp,aAy,show i + 1 - 1=i from rfl,Vz hp,aBd (by omega),bD1]
    unfold Dd.j2
    rw [aD (n:=l.length) (by omega) hl]
    cases tP (Q2 p) (Q2 s) <;> rfl
 ·show Dd.l1 l (l.length:Int)=_
  unfold Dd.l1
  rw [Fq]; rfl
 ·cases (List.range l.length).any (oI l) <;> rfl
end
section
open Go
def W5 (u:Ah) (k:Int):Bool:=decide (0 < P8 u) && decide (Y6 u.Alg=k)
def bC (c:Ab):List Bool:=[decide (c.Serial < 0),decide (1099511627776 < c.Serial),!Mh c.Issuer,!Mh c.Subject,!R8 c.Names,decide (8 < (c.Names.length:Int)),!W5 c.Key 2,decide (c.KeyId < 0),decide (2147483648 < c.KeyId),!W5 c.Hash 1,decide (c.Seal.Key < 0),decide (2147483648 < c.Seal.Key),decide (c.Seal.Sum < 0),decide (4294967296<=c.Seal.Sum),decide (c.From < 0),decide (c.To < c.From),decide (40000 < c.To),decide (c.Path < 0),decide (8 < c.Path),!c.Authority && !decide (c.Path=0)]
def Is (c:Ab):Bool:=!(bC c).any id
structure T1 (c:Ab):Prop where
 names:c.Names.length < 1000000000
 name:∀ s∈c.Names,s.size<=9223372036854775807
 issuer:c.Issuer.size<=9223372036854775807
 subject:c.Subject.size<=9223372036854775807
 ints:∀ n∈[c.Serial,c.Key.Alg,c.Key.Bits,c.KeyId,c.Hash.Alg,c.Hash.Bits,c.From,c.To,c.Path,c.Seal.Key,c.Seal.Sum],-9223372036854775808<=n/\n<=9223372036854775807
structure vF (c:Ab):Prop where
 names:c.Names.length<=9223372036854775807
 name:∀ s∈c.Names,s.size<=9223372036854775807
 issuer:c.Issuer.size<=9223372036854775807
 subject:c.Subject.size<=9223372036854775807
theorem T1.w {c:Ab} (h:T1 c):vF c:=⟨by have:=h.names; omega,h.name,h.issuer,h.subject⟩
theorem aCm (u:Ah) (k:Int):Km u k=some (W5 u k):=by
 unfold Km W5
 rw [Rl,jN,aAy]
 cases decide (0 < P8 u) <;> rfl
theorem lK (u:Ah):Le u=some (W5 u 2):=by
 unfold Le W5
 rw [mQ,rP,aAy]
 cases decide (0 < P8 u) <;> rfl
theorem gU (n:Int):Gn n=some (!(decide (n < 0) || decide (2147483648 < n))):=by
 unfold Gn
 by_cases a:n < 0
 ·rw [aBd a,aBc (show ¬ 0<=n by omega)]; rfl
 ·rw [aBc a,aBd (show 0<=n by omega)]
  by_cases b:n<=2147483648
  ·rw [aBd b,aBc (show ¬ 2147483648 < n by omega)]; rfl
  ·rw [aBc b,aBd (show 2147483648 < n by omega)]; rfl
theorem aGn (n:Int):Lc n=some (!(decide (n < 0) || decide (4294967296<=n))):=by
 unfold Lc
 by_cases a:n < 0
 ·rw [aBd a,aBc (show ¬ 0<=n by omega)]; rfl
 ·rw [aBc a,aBd (show 0<=n by omega)]
  by_cases b:n < 4294967296
  ·rw [aBd b,aBc (show ¬ 4294967296<=n by omega)]; rfl
  ·rw [aBc b,aBd (show 4294967296<=n by omega)]; rfl
theorem aWg (n:Nat):decide ((n:Int)<=8)=!decide (8 < (n:Int)):=by
 by_cases h:(n:Int)<=8
 ·rw [aBd h,aBc (by omega)]; rfl
 ·rw [aBc h,aBd (by omega)]; rfl
theorem aH5 (c:Ab):Bj.j3 c false=some (!(decide (c.Path < 0) || decide (8 < c.Path) || (!c.Authority && !decide (c.Path=0)))):=by
 unfold Bj.j3
 by_cases a:c.Path < 0
 ·rw [aBd a,aBc (show ¬ 0<=c.Path by omega)]; rfl
 ·rw [aBc a,aBd (show 0<=c.Path by omega)]
  by_cases b:c.Path<=8
  ·rw [aBd b,aBc (show ¬ 8 < c.Path by omega)]
   cases c.Authority <;> simp
  ·rw [aBc b,aBd (show 8 < c.Path by omega)]; rfl
theorem aDo (c:Ab) (x:Bool):Bj.j3 c x=some (!(x || decide (c.Path < 0) || decide (8 < c.Path) || (!c.Authority && !decide (c.Path=0)))):=by
 cases x
 ·rw [aH5]; simp
 ·simp [Bj.j3]
theorem jC (c:Ab) (h:vF c):Bj c=some (Is c):=by
 unfold Bj Bj.j1 Bj.j2
 simp only [aDo]
 rw [Yg _ h.issuer,Yg _ h.subject,uL _ h.names h.name,aCm,gU,aCm,gU,aGn,aWg]
 simp only [aAy]
 unfold Is bC
 simp only [aXx,List.any_nil,id]
 generalize decide (c.Serial < 0)=b1
 cases b1
 case true=>simp
 generalize decide (1099511627776 < c.Serial)=b2
 cases b2
 case true=>simp
 generalize Mh c.Issuer=b3
 cases b3
 case false=>simp
 generalize Mh c.Subject=b4
 cases b4
 case false=>simp
 generalize R8 c.Names=b5
 cases b5
 case false=>simp
 generalize decide (8 < (c.Names.length:Int))=b6
 cases b6
 case true=>simp
 generalize W5 c.Key 2=b7
 cases b7
 case false=>simp
 generalize decide (c.KeyId < 0)=b8
 cases b8
 case true=>simp
 generalize decide (2147483648 < c.KeyId)=b9
 cases b9
 case true=>simp
 generalize W5 c.Hash 1=b10
 cases b10
 case false=>simp
 generalize decide (c.Seal.Key < 0)=b11
 cases b11
 case true=>simp
 generalize decide (2147483648 < c.Seal.Key)=b12
 cases b12
 case true=>simp
 generalize decide (c.Seal.Sum < 0)=b13
 cases b13
 case true=>simp
 generalize decide (4294967296<=c.Seal.Sum)=b14
 cases b14
 case true=>simp
 generalize decide (c.From < 0)=b15
 cases b15
 case true=>simp
 generalize decide (c.To < c.From)=b16
 cases b16
 case true=>simp
 generalize decide (40000 < c.To)=b17
 cases b17
 case true=>simp
 generalize decide (c.Path < 0)=b18
 generalize decide (8 < c.Path)=b19
 generalize decide (c.Path=0)=b20
 cases b18 <;> cases b19 <;> cases b20 <;> simp
theorem mW (c:Ab) (h:T1 c):Bj c=some (Is c):=jC c h.w
end
section
open Go
def bG (c:Ab):Bool:=decide (c.Seal.Key < 0) || (decide (2147483648 < c.Seal.Key) || (decide (c.Seal.Sum < 0) || decide (4294967296<=c.Seal.Sum)))
theorem aL9 (c:Ab) (h:vF c) (x:Bool):A8.j3 c x=some (bif (x || !R8 c.Names || bG c) then 9 else 0):=by
 cases x
 ·unfold A8.j3
  rw [aE8]
  refine (Yl (body:=fun q'=>A8.l4 c q') c.Names.length (fun i=>(i:Int)) (oI c.Names) 9 (bif bG c then 9 else 0) (fun i hi=>?_) ?_).trans ?_
  ·obtain⟨s,hx⟩:∃ s,c.Names[i]?=some s:=⟨_,aBb hi⟩
   have hN:=h.names
   show A8.l4 c (i:Int)=_
   unfold A8.l4 oI
   rw [G0 hx,gZ s (h.name s (E7 hx)),aAy,Vz hx]
   cases hn:Mh s with
   | false=>rfl
   | true=>
    rw [aI7,aE8,bB6]
    cases i with
    | zero=>rfl
    | succ i=>
     obtain⟨p,hp⟩:∃ p,c.Names[i]?=some p:=⟨_,aBb (by omega)⟩
     rw [aBd (by omega),aHj,Hh (by omega),show ((i + 1:Nat):Int) - 1=(i:Int) by omega,F4,hp,aAy,show i + 1 - 1=i from rfl,Vz hp,aBd (by omega),bD1]
     unfold A8.j5
     rw [aD (n:=c.Names.length) (by omega) hN]
     cases tP (Q2 p) (Q2 s) <;> rfl
  ·show A8.l4 c (c.Names.length:Int)=_
   unfold A8.l4 A8.j6 bG
   rw [Fq]
   cases decide (c.Seal.Key < 0) <;> cases decide (2147483648 < c.Seal.Key) <;> cases decide (c.Seal.Sum < 0) <;> cases decide (4294967296<=c.Seal.Sum) <;> rfl
  ·unfold R8
   cases (List.range c.Names.length).any (oI c.Names) <;> cases bG c <;> rfl
 ·rfl
theorem tV (c:Ab) (h:vF c):A8 c=some (bif Is c then 0 else 9):=by
 unfold A8 A8.j1 A8.j2
 simp only [aL9 c h]
 rw [gZ _ h.issuer,gZ _ h.subject,lK,mQ,rP]
 simp only [aAy]
 unfold Is bC bG
 simp only [aXx,List.any_nil,id]
 have hu:W5 c.Hash 1=(decide (0 < P8 c.Hash) && decide (Y6 c.Hash.Alg=1)):=rfl
 rw [hu]
 generalize decide (c.Serial < 0)=b1
 cases b1
 case true=>simp
 generalize decide (1099511627776 < c.Serial)=b2
 cases b2
 case true=>simp
 generalize Mh c.Issuer=b3
 cases b3
 case false=>simp
 generalize Mh c.Subject=b4
 cases b4
 case false=>simp
 generalize W5 c.Key 2=b7
 cases b7
 case false=>simp
 generalize decide (c.KeyId < 0)=b8
 cases b8
 case true=>simp
 generalize decide (2147483648 < c.KeyId)=b9
 cases b9
 case true=>simp
 generalize decide (0 < P8 c.Hash)=b10
 cases b10
 case false=>simp
 generalize decide (Y6 c.Hash.Alg=1)=b10'
 cases b10'
 case false=>simp
 generalize decide (c.From < 0)=b15
 cases b15
 case true=>simp
 generalize decide (c.To < c.From)=b16
 cases b16
 case true=>simp
 generalize decide (40000 < c.To)=b17
 cases b17
 case true=>simp
 generalize decide (c.Path < 0)=b18
 cases b18
 case true=>simp
 generalize decide (8 < c.Path)=b19
 cases b19
 case true=>simp
 generalize decide (c.Path=0)=b20
 generalize c.Authority=b21
 generalize decide (8 < (c.Names.length:Int))=b6
 generalize R8 c.Names=b5
 cases b20 <;> cases b21 <;> cases b6 <;> cases b5 <;> simp <;> generalize decide (c.Seal.Key < 0)=b11 <;> generalize decide (2147483648 < c.Seal.Key)=b12 <;> generalize decide (c.Seal.Sum < 0)=b13 <;> generalize decide (4294967296<=c.Seal.Sum)=b14 <;> cases b11 <;> cases b12 <;> cases b13 <;> cases b14 <;> rfl
theorem nK (c:Ab) (h:T1 c):A8 c=some (bif Is c then 0 else 9):=tV c h.w
end
end Go.Proofs.YtboglmbblmakjaaGreatDoor
