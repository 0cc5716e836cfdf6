/- Plain texts, joined. No program is in sight here. -/
import Derived.Test.YtchpcpaacenodaaGreatL3
import Derived.Test.YtchpcpaacenodaaGreatP1
set_option linter.unusedVariables false
set_option linter.unusedSimpArgs false
namespace Go.Proofs.YtchpcpaacenodaaGreat
section
open Go
def Fg (s b:Int):Int:=if b=0 then s else 0
def xH (b:Int):Int:=if b < 1024 then 56 else if b < 2048 then 80 else if b < 3072 then 112 else if b < 7680 then 128 else if b < 15360 then 192 else 256
def G6 (b:Int):Int:=if 512<=b/\b<=16384 then xH b else 0
def P8 (b:Int):Int:=if b=160\/b=224\/b=256\/b=384\/b=521 then b / 2 else 0
def S3 (sizes strengths:List Int) (b:Int):Int:=match sizes.findIdx? (fun e=>decide (b=e)) with | some i=>strengths.getD i 0 | none=>0
def Iz:Nat->Int->Int
 | 1=>Fg 18
 | 2=>Fg 60
 | 3=>Fg 128
 | 4=>Fg 192
 | 5=>G6
 | 6=>G6
 | 7=>P8
 | 8=>Fg 128
 | 9=>S3 [44,65,87] [128,192,256]
 | 10=>G6
 | 11=>G6
 | 12=>P8
 | 13=>S3 [512,768,1024] [128,192,256]
 | 14=>S3 [40,128] [40,60]
 | 15=>S3 [112,168] [80,112]
 | 16=>S3 [128,256] [128,256]
 | 17=>S3 [128,256] [128,256]
 | 18=>Fg 256
 | 19=>Fg 64
 | 20=>Fg 80
 | 21=>Fg 128
 | 22=>Fg 256
 | _=>fun _=>0
def aEr:Nat->Int
 | 1=>1
 | 2=>1
 | 3=>1
 | 4=>1
 | 5=>2
 | 6=>2
 | 7=>2
 | 8=>2
 | 9=>2
 | 10=>3
 | 11=>3
 | 12=>3
 | 13=>3
 | 14=>4
 | 15=>4
 | 16=>4
 | 17=>4
 | 18=>4
 | 19=>5
 | 20=>5
 | 21=>5
 | 22=>5
 | _=>0
def Kq (u:Am):Int:=if 1<=u.Alg/\u.Alg<=22 then Iz u.Alg.toNat u.Bits else 0
def Mf (a:Int):Int:=if 1<=a/\a<=22 then aEr a.toNat else 0
theorem Gc (b:Int) (sizes strengths:List Int) (h:sizes.length=strengths.length) (hl:sizes.length < 1000000):B7 b sizes strengths=some (S3 sizes strengths b):=by
 unfold B7 S3
 refine (Xq (body:=fun q'=>B7.l1 b sizes strengths q') sizes (fun i=>(i:Int)) (fun e=>decide (b=e)) (fun i=>strengths.getD i 0) 0 (fun i x hx=>?_) ?_).trans ?_
 ·have h1:=Lb hx
  show B7.l1 b sizes strengths (i:Int)=_
  unfold B7.l1
  rw [G7 hx,D6,Iq (by omega)]
  have hs:strengths[i]?=some (strengths.getD i 0):=by
   rw [List.getD_eq_getElem?_getD,aBo (by omega)]; rfl
  by_cases e:b=x
  ·rw [aAe e.symm,aAe e,hs]; rfl
  ·rw [aAg (fun e'=>e e'.symm),aAg e]; rfl
 ·show B7.l1 b sizes strengths (sizes.length:Int)=_
  unfold B7.l1
  rw [Fs]; rfl
 ·rfl
theorem Mq (s:List Int) (v:Int) (hl:s.length < 4611686018427387904):Ck s v=some (match s.findIdx? (fun e=>decide (v=e)) with | some i=>(i:Int) | none=>-1):=by
 unfold Ck
 refine Xq (body:=fun q'=>Ck.l1 s v q') s (fun i=>(i:Int)) (fun e=>decide (v=e)) (fun i=>(i:Int)) (-1) (fun i x hx=>?_) ?_
 ·have h1:=Lb hx
  show Ck.l1 s v (i:Int)=_
  unfold Ck.l1
  rw [G7 hx,Iq (by omega)]
  cases decide (v=x) <;> rfl
 ·show Ck.l1 s v (s.length:Int)=_
  unfold Ck.l1
  rw [Fs]; rfl
theorem N0 (s:List Int) (v:Int) (hl:s.length < 4611686018427387904):En s v=some (decide (v∈s)):=by
 unfold En
 rw [Mq s v hl,aAc]
 cases h:s.findIdx? (fun e=>decide (v=e)) with
 | none=>
  have:=List.findIdx?_eq_none_iff.1 h
  have hn:¬ v∈s:=fun hm=>by have:=this v hm; simp at this
  rw [aAg hn]; rfl
 | some i=>
  have h2:=List.findIdx?_isSome (xs:=s) (p:=fun e=>decide (v=e))
  rw [h] at h2
  have:v∈s:=by
   have h3:=h2.symm
   rw [Option.isSome_some,aHy] at h3
   obtain⟨x,hx,e⟩:=h3
   rw [aCl e]; exact hx
  rw [aAe this]
  simp
theorem Zi (b:Int):Du b=some (xH b):=by
 have s0:Du.l1 b 0=some (if b < 1024 then .done 56 else .next 1):=by
  by_cases h:b < 1024
  ·rw [if_pos h]; show cond (decide (b < 1024)) _ _=_; rw [aAe h]; rfl
  ·rw [if_neg h]; show cond (decide (b < 1024)) _ _=_; rw [aAg h]; rfl
 have s1:Du.l1 b 1=some (if b < 2048 then .done 80 else .next 2):=by
  by_cases h:b < 2048
  ·rw [if_pos h]; show cond (decide (b < 2048)) _ _=_; rw [aAe h]; rfl
  ·rw [if_neg h]; show cond (decide (b < 2048)) _ _=_; rw [aAg h]; rfl
 have s2:Du.l1 b 2=some (if b < 3072 then .done 112 else .next 3):=by
  by_cases h:b < 3072
  ·rw [if_pos h]; show cond (decide (b < 3072)) _ _=_; rw [aAe h]; rfl
  ·rw [if_neg h]; show cond (decide (b < 3072)) _ _=_; rw [aAg h]; rfl
 have s3:Du.l1 b 3=some (if b < 7680 then .done 128 else .next 4):=by
  by_cases h:b < 7680
  ·rw [if_pos h]; show cond (decide (b < 7680)) _ _=_; rw [aAe h]; rfl
  ·rw [if_neg h]; show cond (decide (b < 7680)) _ _=_; rw [aAg h]; rfl
 have s4:Du.l1 b 4=some (if b < 15360 then .done 192 else .next 5):=by
  by_cases h:b < 15360
  ·rw [if_pos h]; show cond (decide (b < 15360)) _ _=_; rw [aAe h]; rfl
  ·rw [if_neg h]; show cond (decide (b < 15360)) _ _=_; rw [aAg h]; rfl
 have s5:Du.l1 b 5=some (.done 256):=rfl
 unfold Du xH
 rw [H5,s0]
 split
 ·rfl
 show Cl _ (1:Int)=_
 rw [H5,s1]
 split
 ·rfl
 show Cl _ (2:Int)=_
 rw [H5,s2]
 split
 ·rfl
 show Cl _ (3:Int)=_
 rw [H5,s3]
 split
 ·rfl
 show Cl _ (4:Int)=_
 rw [H5,s4]
 split
 ·rfl
 show Cl _ (5:Int)=_
 rw [H5,s5]; rfl
theorem Zl (b:Int):D2 b=some (G6 b):=by
 unfold D2 D2.j1 G6 xH
 by_cases h1:b < 512
 ·rw [aAe h1,if_neg (by omega)]; rfl
 ·by_cases h2:16384 < b
  ·rw [aAg h1,aAe h2,if_neg (by omega)]; rfl
  ·rw [aAg h1,aAg h2,if_pos (by omega)]
   simp only [aCx]
   by_cases a:b < 1024
   ·simp [a]
   by_cases a2:b < 2048
   ·simp [a,a2]
   by_cases a3:b < 3072
   ·simp [a,a2,a3]
   by_cases a4:b < 7680
   ·simp [a,a2,a3,a4]
   by_cases a5:b < 15360 <;> simp [a,a2,a3,a4,a5]
theorem aEc (b:Int):Bb ⟨1,b⟩=some (Iz 1 b):=by
 show cond (decide (b=0)) (some 18) (some 0)=some (Fg 18 b)
 unfold Fg
 by_cases h:b=0 <;> simp [h]
theorem aFj (b:Int):Aw ⟨1,b⟩=some (Iz 1 b):=by
 show (B7 b [0] [18]).bind (fun y_8=>some y_8)=some (Fg 18 b)
 rw [Gc b [0] [18] rfl (by decide)]
 unfold S3 Fg
 by_cases h:b=0 <;> simp [h]
theorem aE0 (b:Int):Bb ⟨2,b⟩=some (Iz 2 b):=by
 show cond (decide (b=0)) (some 60) (some 0)=some (Fg 60 b)
 unfold Fg
 by_cases h:b=0 <;> simp [h]
theorem aE4 (b:Int):Aw ⟨2,b⟩=some (Iz 2 b):=by
 show (B7 b [0] [60]).bind (fun y_8=>some y_8)=some (Fg 60 b)
 rw [Gc b [0] [60] rfl (by decide)]
 unfold S3 Fg
 by_cases h:b=0 <;> simp [h]
theorem aFd (b:Int):Bb ⟨3,b⟩=some (Iz 3 b):=by
 show cond (decide (b=0)) (some 128) (some 0)=some (Fg 128 b)
 unfold Fg
 by_cases h:b=0 <;> simp [h]
theorem aE5 (b:Int):Aw ⟨3,b⟩=some (Iz 3 b):=by
 show (B7 b [0] [128]).bind (fun y_8=>some y_8)=some (Fg 128 b)
 rw [Gc b [0] [128] rfl (by decide)]
 unfold S3 Fg
 by_cases h:b=0 <;> simp [h]
theorem aFp (b:Int):Bb ⟨4,b⟩=some (Iz 4 b):=by
 show cond (decide (b=0)) (some 192) (some 0)=some (Fg 192 b)
 unfold Fg
 by_cases h:b=0 <;> simp [h]
theorem aE1 (b:Int):Aw ⟨4,b⟩=some (Iz 4 b):=by
 show (B7 b [0] [192]).bind (fun y_8=>some y_8)=some (Fg 192 b)
 rw [Gc b [0] [192] rfl (by decide)]
 unfold S3 Fg
 by_cases h:b=0 <;> simp [h]
theorem aFo (b:Int):Bb ⟨5,b⟩=some (Iz 5 b):=by
 show cond (decide (512<=b)) (Bb.j1 ⟨5,b⟩ (decide (b<=16384))) (Bb.j1 ⟨5,b⟩ false)=some (G6 b)
 unfold Bb.j1 G6
 rw [Zi]
 by_cases h1:512<=b <;> by_cases h2:b<=16384 <;> simp [h1,h2]
theorem aFn (b:Int):Aw ⟨5,b⟩=some (Iz 5 b):=by
 show (D2 b).bind (fun y=>some y)=some (G6 b)
 rw [Zl]; rfl
theorem aFr (b:Int):Bb ⟨6,b⟩=some (Iz 6 b):=by
 show cond (decide (512<=b)) (Bb.j1 ⟨6,b⟩ (decide (b<=16384))) (Bb.j1 ⟨6,b⟩ false)=some (G6 b)
 unfold Bb.j1 G6
 rw [Zi]
 by_cases h1:512<=b <;> by_cases h2:b<=16384 <;> simp [h1,h2]
theorem aF8 (b:Int):Aw ⟨6,b⟩=some (Iz 6 b):=by
 show (D2 b).bind (fun y=>some y)=some (G6 b)
 rw [Zl]; rfl
theorem aFb (b:Int):Bb ⟨7,b⟩=some (Iz 7 b):=by
 show (En [160,224,256,384,521] b).bind (fun y_3=>cond y_3 ((M1 b 2).bind fun q=>some q) (some 0))=some (P8 b)
 rw [N0 _ _ (by decide)]
 unfold P8
 by_cases h:b=160\/b=224\/b=256\/b=384\/b=521
 ·rw [if_pos h,aAe (by simpa using h)]
  rcases h with h | h | h | h | h <;> (subst h; rfl)
 ·rw [if_neg h,aAg (by simpa using h)]; rfl
theorem aEv (b:Int):Aw ⟨7,b⟩=some (Iz 7 b):=by
 show Aw.j2 ⟨7,b⟩ true=some (P8 b)
 unfold Aw.j2 Aw.j3 P8
 by_cases h:b=160\/b=224\/b=256\/b=384\/b=521
 ·rw [if_pos h]
  rcases h with h | h | h | h | h <;> (subst h; rfl)
 ·rw [if_neg h]
  have h1:¬ b=160:=by omega
  have h2:¬ b=224:=by omega
  have h3:¬ b=256:=by omega
  have h4:¬ b=384:=by omega
  have h5:¬ b=521:=by omega
  simp [h1,h2,h3,h4,h5]
theorem aE2 (b:Int):Bb ⟨8,b⟩=some (Iz 8 b):=by
 show cond (decide (b=0)) (some 128) (some 0)=some (Fg 128 b)
 unfold Fg
 by_cases h:b=0 <;> simp [h]
theorem aFk (b:Int):Aw ⟨8,b⟩=some (Iz 8 b):=by
 show (B7 b [0] [128]).bind (fun y_8=>some y_8)=some (Fg 128 b)
 rw [Gc b [0] [128] rfl (by decide)]
 unfold S3 Fg
 by_cases h:b=0 <;> simp [h]
theorem aFh (b:Int):Bb ⟨9,b⟩=some (Iz 9 b):=by
 show (Ck [44,65,87] b).bind (fun y_4=>cond (decide (0<=y_4)) ((B8 [128,192,256] y_4).bind fun e_2=>some e_2) (some 0))=some (S3 [44,65,87] [128,192,256] b)
 rw [Mq _ _ (by decide)]
 unfold S3
 cases h:List.findIdx? (fun e=>decide (b=e)) [44,65,87] with
 | none=>rfl
 | some i=>
  have hi:=(aHx.1 h).1
  have:i < 3:=hi
  rcases (by omega:i=0\/i=1\/i=2) with h | h | h <;> (subst h; rfl)
theorem aEj (b:Int):Aw ⟨9,b⟩=some (Iz 9 b):=by
 show (B7 b [44,65,87] [128,192,256]).bind (fun y=>some y)=some (S3 [44,65,87] [128,192,256] b)
 rw [Gc b [44,65,87] [128,192,256] rfl (by decide)]; rfl
theorem aDm (b:Int):Bb ⟨10,b⟩=some (Iz 10 b):=by
 show cond (decide (512<=b)) (Bb.j1 ⟨10,b⟩ (decide (b<=16384))) (Bb.j1 ⟨10,b⟩ false)=some (G6 b)
 unfold Bb.j1 G6
 rw [Zi]
 by_cases h1:512<=b <;> by_cases h2:b<=16384 <;> simp [h1,h2]
theorem aAi (b:Int):Aw ⟨10,b⟩=some (Iz 10 b):=by
 show (D2 b).bind (fun y=>some y)=some (G6 b)
 rw [Zl]; rfl
theorem aBp (b:Int):Bb ⟨11,b⟩=some (Iz 11 b):=by
 show cond (decide (512<=b)) (Bb.j1 ⟨11,b⟩ (decide (b<=16384))) (Bb.j1 ⟨11,b⟩ false)=some (G6 b)
 unfold Bb.j1 G6
 rw [Zi]
 by_cases h1:512<=b <;> by_cases h2:b<=16384 <;> simp [h1,h2]
theorem aB5 (b:Int):Aw ⟨11,b⟩=some (Iz 11 b):=by
 show (D2 b).bind (fun y=>some y)=some (G6 b)
 rw [Zl]; rfl
theorem aCo (b:Int):Bb ⟨12,b⟩=some (Iz 12 b):=by
 show (En [160,224,256,384,521] b).bind (fun y_3=>cond y_3 ((M1 b 2).bind fun q=>some q) (some 0))=some (P8 b)
 rw [N0 _ _ (by decide)]
 unfold P8
 by_cases h:b=160\/b=224\/b=256\/b=384\/b=521
 ·rw [if_pos h,aAe (by simpa using h)]
  rcases h with h | h | h | h | h <;> (subst h; rfl)
 ·rw [if_neg h,aAg (by simpa using h)]; rfl
theorem aB6 (b:Int):Aw ⟨12,b⟩=some (Iz 12 b):=by
 show Aw.j2 ⟨12,b⟩ true=some (P8 b)
 unfold Aw.j2 Aw.j3 P8
 by_cases h:b=160\/b=224\/b=256\/b=384\/b=521
 ·rw [if_pos h]
  rcases h with h | h | h | h | h <;> (subst h; rfl)
 ·rw [if_neg h]
  have h1:¬ b=160:=by omega
  have h2:¬ b=224:=by omega
  have h3:¬ b=256:=by omega
  have h4:¬ b=384:=by omega
  have h5:¬ b=521:=by omega
  simp [h1,h2,h3,h4,h5]
theorem aBg (b:Int):Bb ⟨13,b⟩=some (Iz 13 b):=by
 show (Ck [512,768,1024] b).bind (fun y_4=>cond (decide (0<=y_4)) ((B8 [128,192,256] y_4).bind fun e_2=>some e_2) (some 0))=some (S3 [512,768,1024] [128,192,256] b)
 rw [Mq _ _ (by decide)]
 unfold S3
 cases h:List.findIdx? (fun e=>decide (b=e)) [512,768,1024] with
 | none=>rfl
 | some i=>
  have hi:=(aHx.1 h).1
  have:i < 3:=hi
  rcases (by omega:i=0\/i=1\/i=2) with h | h | h <;> (subst h; rfl)
theorem aCc (b:Int):Aw ⟨13,b⟩=some (Iz 13 b):=by
 show (B7 b [512,768,1024] [128,192,256]).bind (fun y=>some y)=some (S3 [512,768,1024] [128,192,256] b)
 rw [Gc b [512,768,1024] [128,192,256] rfl (by decide)]; rfl
theorem aBa (b:Int):Bb ⟨14,b⟩=some (Iz 14 b):=by
 show (Ck [40,128] b).bind (fun y_4=>cond (decide (0<=y_4)) ((B8 [40,60] y_4).bind fun e_2=>some e_2) (some 0))=some (S3 [40,128] [40,60] b)
 rw [Mq _ _ (by decide)]
 unfold S3
 cases h:List.findIdx? (fun e=>decide (b=e)) [40,128] with
 | none=>rfl
 | some i=>
  have hi:=(aHx.1 h).1
  have:i < 2:=hi
  rcases (by omega:i=0\/i=1) with h | h <;> (subst h; rfl)
theorem aCy (b:Int):Aw ⟨14,b⟩=some (Iz 14 b):=by
 show (B7 b [40,128] [40,60]).bind (fun y=>some y)=some (S3 [40,128] [40,60] b)
 rw [Gc b [40,128] [40,60] rfl (by decide)]; rfl
theorem aB1 (b:Int):Bb ⟨15,b⟩=some (Iz 15 b):=by
 show (Ck [112,168] b).bind (fun y_4=>cond (decide (0<=y_4)) ((B8 [80,112] y_4).bind fun e_2=>some e_2) (some 0))=some (S3 [112,168] [80,112] b)
 rw [Mq _ _ (by decide)]
 unfold S3
 cases h:List.findIdx? (fun e=>decide (b=e)) [112,168] with
 | none=>rfl
 | some i=>
  have hi:=(aHx.1 h).1
  have:i < 2:=hi
  rcases (by omega:i=0\/i=1) with h | h <;> (subst h; rfl)
theorem aCd (b:Int):Aw ⟨15,b⟩=some (Iz 15 b):=by
 show (B7 b [112,168] [80,112]).bind (fun y=>some y)=some (S3 [112,168] [80,112] b)
 rw [Gc b [112,168] [80,112] rfl (by decide)]; rfl
theorem aB2 (b:Int):Bb ⟨16,b⟩=some (Iz 16 b):=by
 show (Ck [128,256] b).bind (fun y_4=>cond (decide (0<=y_4)) ((B8 [128,256] y_4).bind fun e_2=>some e_2) (some 0))=some (S3 [128,256] [128,256] b)
 rw [Mq _ _ (by decide)]
 unfold S3
 cases h:List.findIdx? (fun e=>decide (b=e)) [128,256] with
 | none=>rfl
 | some i=>
  have hi:=(aHx.1 h).1
  have:i < 2:=hi
  rcases (by omega:i=0\/i=1) with h | h <;> (subst h; rfl)
theorem aC6 (b:Int):Aw ⟨16,b⟩=some (Iz 16 b):=by
 show (B7 b [128,256] [128,256]).bind (fun y=>some y)=some (S3 [128,256] [128,256] b)
 rw [Gc b [128,256] [128,256] rfl (by decide)]; rfl
theorem aAz (b:Int):Bb ⟨17,b⟩=some (Iz 17 b):=by
 show (Ck [128,256] b).bind (fun y_4=>cond (decide (0<=y_4)) ((B8 [128,256] y_4).bind fun e_2=>some e_2) (some 0))=some (S3 [128,256] [128,256] b)
 rw [Mq _ _ (by decide)]
 unfold S3
 cases h:List.findIdx? (fun e=>decide (b=e)) [128,256] with
 | none=>rfl
 | some i=>
  have hi:=(aHx.1 h).1
  have:i < 2:=hi
  rcases (by omega:i=0\/i=1) with h | h <;> (subst h; rfl)
theorem aDh (b:Int):Aw ⟨17,b⟩=some (Iz 17 b):=by
 show (B7 b [128,256] [128,256]).bind (fun y=>some y)=some (S3 [128,256] [128,256] b)
 rw [Gc b [128,256] [128,256] rfl (by decide)]; rfl
theorem aBi (b:Int):Bb ⟨18,b⟩=some (Iz 18 b):=by
 show cond (decide (b=0)) (some 256) (some 0)=some (Fg 256 b)
 unfold Fg
 by_cases h:b=0 <;> simp [h]
theorem aDg (b:Int):Aw ⟨18,b⟩=some (Iz 18 b):=by
 show (B7 b [0] [256]).bind (fun y_8=>some y_8)=some (Fg 256 b)
 rw [Gc b [0] [256] rfl (by decide)]
 unfold S3 Fg
 by_cases h:b=0 <;> simp [h]
theorem aAr (b:Int):Bb ⟨19,b⟩=some (Iz 19 b):=by
 show cond (decide (b=0)) (some 64) (some 0)=some (Fg 64 b)
 unfold Fg
 by_cases h:b=0 <;> simp [h]
theorem aBl (b:Int):Aw ⟨19,b⟩=some (Iz 19 b):=by
 show (B7 b [0] [64]).bind (fun y_8=>some y_8)=some (Fg 64 b)
 rw [Gc b [0] [64] rfl (by decide)]
 unfold S3 Fg
 by_cases h:b=0 <;> simp [h]
theorem aBq (b:Int):Bb ⟨20,b⟩=some (Iz 20 b):=by
 show cond (decide (b=0)) (some 80) (some 0)=some (Fg 80 b)
 unfold Fg
 by_cases h:b=0 <;> simp [h]
theorem aBn (b:Int):Aw ⟨20,b⟩=some (Iz 20 b):=by
 show (B7 b [0] [80]).bind (fun y_8=>some y_8)=some (Fg 80 b)
 rw [Gc b [0] [80] rfl (by decide)]
 unfold S3 Fg
 by_cases h:b=0 <;> simp [h]
theorem aDx (b:Int):Bb ⟨21,b⟩=some (Iz 21 b):=by
 show cond (decide (b=0)) (some 128) (some 0)=some (Fg 128 b)
 unfold Fg
 by_cases h:b=0 <;> simp [h]
theorem aAl (b:Int):Aw ⟨21,b⟩=some (Iz 21 b):=by
 show (B7 b [0] [128]).bind (fun y_8=>some y_8)=some (Fg 128 b)
 rw [Gc b [0] [128] rfl (by decide)]
 unfold S3 Fg
 by_cases h:b=0 <;> simp [h]
theorem aBx (b:Int):Bb ⟨22,b⟩=some (Iz 22 b):=by
 show cond (decide (b=0)) (some 256) (some 0)=some (Fg 256 b)
 unfold Fg
 by_cases h:b=0 <;> simp [h]
theorem aBf (b:Int):Aw ⟨22,b⟩=some (Iz 22 b):=by
 show (B7 b [0] [256]).bind (fun y_8=>some y_8)=some (Fg 256 b)
 rw [Gc b [0] [256] rfl (by decide)]
 unfold S3 Fg
 by_cases h:b=0 <;> simp [h]
theorem Ux {a:Int} (h:1<=a/\a<=22):a=1\/a=2\/a=3\/a=4\/a=5\/a=6\/a=7\/a=8\/a=9\/a=10\/a=11\/a=12\/a=13\/a=14\/a=15\/a=16\/a=17\/a=18\/a=19\/a=20\/a=21\/a=22:=by omega
theorem fO (u:Am):Bb u=some (Kq u):=by
 obtain⟨a,b⟩:=u
 unfold Kq
 by_cases h0:1<=a/\a<=22
 ·rw [if_pos h0]
  rcases Ux h0 with h | h | h | h | h | h | h | h | h | h | h | h | h | h | h | h | h | h | h | h | h | h <;> subst h
  ·exact aEc b
  ·exact aE0 b
  ·exact aFd b
  ·exact aFp b
  ·exact aFo b
  ·exact aFr b
  ·exact aFb b
  ·exact aE2 b
  ·exact aFh b
  ·exact aDm b
  ·exact aBp b
  ·exact aCo b
  ·exact aBg b
  ·exact aBa b
  ·exact aB1 b
  ·exact aB2 b
  ·exact aAz b
  ·exact aBi b
  ·exact aAr b
  ·exact aBq b
  ·exact aDx b
  ·exact aBx b
 ·rw [if_neg h0]
  unfold Bb E0
  by_cases h1:a < 1
  ·simp [h1,E0.j1]
  ·have h2:22 < a:=by omega
   simp [h1,h2,E0.j1]
theorem Wk (u:Am):Aw u=some (Kq u):=by
 obtain⟨a,b⟩:=u
 unfold Kq
 by_cases h0:1<=a/\a<=22
 ·rw [if_pos h0]
  rcases Ux h0 with h | h | h | h | h | h | h | h | h | h | h | h | h | h | h | h | h | h | h | h | h | h <;> subst h
  ·exact aFj b
  ·exact aE4 b
  ·exact aE5 b
  ·exact aE1 b
  ·exact aFn b
  ·exact aF8 b
  ·exact aEv b
  ·exact aFk b
  ·exact aEj b
  ·exact aAi b
  ·exact aB5 b
  ·exact aB6 b
  ·exact aCc b
  ·exact aCy b
  ·exact aCd b
  ·exact aC6 b
  ·exact aDh b
  ·exact aDg b
  ·exact aBl b
  ·exact aBn b
  ·exact aAl b
  ·exact aBf b
 ·rw [if_neg h0]
  have h1:¬ a=1:=by omega
  have h2:¬ a=2:=by omega
  have h3:¬ a=3:=by omega
  have h4:¬ a=4:=by omega
  have h5:¬ a=5:=by omega
  have h6:¬ a=6:=by omega
  have h7:¬ a=7:=by omega
  have h8:¬ a=8:=by omega
  have h9:¬ a=9:=by omega
  have h10:¬ a=10:=by omega
  have h11:¬ a=11:=by omega
  have h12:¬ a=12:=by omega
  have h13:¬ a=13:=by omega
  have h14:¬ a=14:=by omega
  have h15:¬ a=15:=by omega
  have h16:¬ a=16:=by omega
  have h17:¬ a=17:=by omega
  have h18:¬ a=18:=by omega
  have h19:¬ a=19:=by omega
  have h20:¬ a=20:=by omega
  have h21:¬ a=21:=by omega
  have h22:¬ a=22:=by omega
  simp [Aw,Aw.j1,Aw.j2,Aw.j4,Ds,Ds.j1,Ds.j2,h1,h2,h3,h4,h5,h6,h7,h8,h9,h10,h11,h12,h13,h14,h15,h16,h17,h18,h19,h20,h21,h22]
  rw [Gc b [0] [0] rfl (by decide)]
  unfold S3
  by_cases h:b=0 <;> simp [h]
theorem Qv (a:Int):Hc a=some (Mf a):=by
 unfold Mf
 by_cases h0:1<=a/\a<=22
 ·rw [if_pos h0]
  rcases Ux h0 with h | h | h | h | h | h | h | h | h | h | h | h | h | h | h | h | h | h | h | h | h | h <;> (subst h; rfl)
 ·rw [if_neg h0]
  unfold Hc E0
  by_cases h1:a < 1
  ·simp [h1,E0.j1]
  ·have h2:22 < a:=by omega
   simp [h1,h2,E0.j1]
theorem Wo (a:Int):E8 a=some (Mf a):=by
 unfold Mf
 by_cases h0:1<=a/\a<=22
 ·rw [if_pos h0]
  rcases Ux h0 with h | h | h | h | h | h | h | h | h | h | h | h | h | h | h | h | h | h | h | h | h | h <;> (subst h; rfl)
 ·rw [if_neg h0]
  unfold E8
  by_cases h1:a < 1
  ·simp [h1,E8.j1]
  ·have h2:22 < a:=by omega
   simp [h1,h2,E8.j1]
theorem Mr (u:Am):F7 u=some (decide (0 < Kq u)):=by unfold F7; rw [fO]; rfl
theorem Qu (u:Am):Ib u=some (decide (0 < Kq u)):=by unfold Ib; rw [Wk]; rfl
end
section
open Go
theorem Ud {i n:Nat} (h:i < n) (hn:n<=9223372036854775807):W ((i:Int) + 1)=((i + 1:Nat):Int):=by
 rw [Es (by omega)]; omega
theorem Se (s:ByteArray):(Hg s).length=s.size:=by unfold Hg; rw [Array.length_toList]; rfl
theorem nG {s:ByteArray} {i:Nat} {c:UInt8} (h:(Hg s)[i]?=some c):gW s (i:Int)=some c:=by
 unfold gW
 rw [if_neg (by omega),aH1]
 unfold Hg at h
 rw [<- h]; simp
def chS (c:UInt8):Bool:=decide (33<=(c.toNat:Int)) && decide ((c.toNat:Int)<=126)
def Ev (s:ByteArray):Bool:=decide (1<=(s.size:Int)) && decide ((s.size:Int)<=32) && !(Hg s).any (fun c=>!chS c)
theorem Jq (s:ByteArray) (hs:s.size<=9223372036854775807):B2 s=some (Ev s):=by
 unfold B2 Ev
 refine (Rn (body:=fun q'=>B2.l1 s q') (Hg s) (fun i=>(i:Int)) (fun c=>!chS c) false (decide (1<=(s.size:Int)) && decide ((s.size:Int)<=32)) (fun i c hc=>?_) ?_).trans ?_
 ·have h1:=Lb hc
  rw [Se] at h1
  show B2.l1 s (i:Int)=_
  unfold B2.l1 B2.j2 chS
  rw [G7 hc,Ud h1 hs]
  by_cases a:(c.toNat:Int)<=32
  ·rw [aAe a,aAg (show ¬ (33:Int)<=(c.toNat:Int) by omega)]; rfl
  ·rw [aAg a,aAe (show (33:Int)<=(c.toNat:Int) by omega)]
   by_cases b:126 < (c.toNat:Int)
   ·rw [aAe b,aAg (by omega)]; rfl
   ·rw [aAg b,aAe (by omega)]; rfl
 ·show B2.l1 s ((Hg s).length:Int)=_
  unfold B2.l1
  rw [Fs]
  by_cases a:(1:Int)<=(s.size:Int) <;> simp [a,up]
 ·cases (Hg s).any fun c=>!chS c <;> simp
theorem Ps (s:ByteArray) (hs:s.size<=9223372036854775807):Cj s=some (Ev s):=by
 unfold Cj Ev
 have hl:Cj.j1 s false=some (!(Hg s).any fun c=>!chS c):=by
  unfold Cj.j1
  rw [aCx]
  refine (Rn (body:=fun q'=>Cj.l2 s q') (Hg s) (fun i=>(i:Int)) (fun c=>!chS c) false true (fun i c hc=>?_) ?_).trans ?_
  ·have h1:=Lb hc
   rw [Se] at h1
   show Cj.l2 s (i:Int)=_
   unfold Cj.l2 Cj.j3 chS
   rw [aAe (by omega),aD8,nG hc,aAc,aAc,Ud h1 hs]
   by_cases a:(c.toNat:Int) < 33
   ·rw [aAe a,aAg (show ¬ (33:Int)<=(c.toNat:Int) by omega)]; rfl
   ·rw [aAg a,aAe (show (33:Int)<=(c.toNat:Int) by omega)]
    by_cases b:126 < (c.toNat:Int)
    ·rw [aAe b,aAg (by omega)]; rfl
    ·rw [aAg b,aAe (by omega)]; rfl
  ·show Cj.l2 s ((Hg s).length:Int)=_
   unfold Cj.l2
   rw [Se,Fs]; rfl
  ·cases (Hg s).any fun c=>!chS c <;> rfl
 by_cases a:(s.size:Int) < 1
 ·rw [aAe a,aAg (show ¬ (1:Int)<=(s.size:Int) by omega)]; rfl
 ·rw [aAg a,aAe (show (1:Int)<=(s.size:Int) by omega),aCx]
  by_cases b:32 < (s.size:Int)
  ·rw [aAe b,aAg (by omega)]; rfl
  ·rw [aAg b,aAe (by omega),hl]; simp
def gP (l:List ByteArray) (i:Nat):Bool:=!Ev (l.getD i ⟨#[]⟩) || (decide (0 < i) && !Kz (Hg (l.getD (i - 1) ⟨#[]⟩)) (Hg (l.getD i ⟨#[]⟩)))
def Lu (l:List ByteArray):Bool:=!(List.range l.length).any (gP l)
theorem Kk {α:Type} {l:List α} {i:Nat} {x d:α} (h:l[i]?=some x):l.getD i d=x:=by
 rw [List.getD_eq_getElem?_getD,h]; rfl
theorem mC (l:List ByteArray) (hl:l.length<=9223372036854775807) (hs:∀ s∈l,s.size<=9223372036854775807):B9 l=some (Lu l && decide ((l.length:Int)<=8)):=by
 unfold B9 Lu
 refine (Uj (body:=fun q'=>B9.l1 l q') l.length (fun i=>(i:Int)) (gP l) false (decide ((l.length:Int)<=8)) (fun i hi=>?_) ?_).trans ?_
 ·obtain⟨s,hx⟩:∃ s,l[i]?=some s:=⟨_,aBo hi⟩
  show B9.l1 l (i:Int)=_
  unfold B9.l1 gP
  rw [G7 hx,Jq s (hs s (Ia hx)),aAc,Kk hx]
  cases hn:Ev s with
  | false=>rfl
  | true=>
   rw [aG4,aCx,aJ0]
   cases i with
   | zero=>rfl
   | succ i=>
    obtain⟨p,hp⟩:∃ p,l[i]?=some p:=⟨_,aBo (by omega)⟩
    rw [aAe (by omega),aD8,Es (by omega),show ((i + 1:Nat):Int) - 1=(i:Int) by omega,D6,hp,aAc,show i + 1 - 1=i from rfl,Kk hp,aAe (by omega),aIj]
    unfold B9.j2
    rw [Ud (n:=l.length) (by omega) hl]
    cases Kz (Hg p) (Hg s) <;> rfl
 ·show B9.l1 l (l.length:Int)=_
  unfold B9.l1
  rw [Fs]; rfl
 ·cases (List.range l.length).any (gP l) <;> rfl
end
section
open Go
def N1 (u:Am) (k:Int):Bool:=decide (0 < Kq u) && decide (Mf u.Alg=k)
def V8 (c:Af):List Bool:=[decide (c.Serial < 0),decide (1099511627776 < c.Serial),!Ev c.Issuer,!Ev c.Subject,!Lu c.Names,decide (8 < (c.Names.length:Int)),!N1 c.Key 2,decide (c.KeyId < 0),decide (2147483648 < c.KeyId),!N1 c.Hash 1,decide (c.Seal.Key < 0),decide (2147483648 < c.Seal.Key),decide (c.Seal.Sum < 0),decide (4294967296<=c.Seal.Sum),decide (c.From < 0),decide (c.To < c.From),decide (40000 < c.To),decide (c.Path < 0),decide (8 < c.Path),!c.Authority && !decide (c.Path=0)]
def Fx (c:Af):Bool:=!(V8 c).any id
structure P7 (c:Af):Prop where
 names:c.Names.length < 1000000000
 name:∀ s∈c.Names,s.size<=9223372036854775807
 issuer:c.Issuer.size<=9223372036854775807
 subject:c.Subject.size<=9223372036854775807
 ints:∀ n∈[c.Serial,c.Key.Alg,c.Key.Bits,c.KeyId,c.Hash.Alg,c.Hash.Bits,c.From,c.To,c.Path,c.Seal.Key,c.Seal.Sum],-9223372036854775808<=n/\n<=9223372036854775807
structure Yv (c:Af):Prop where
 names:c.Names.length<=9223372036854775807
 name:∀ s∈c.Names,s.size<=9223372036854775807
 issuer:c.Issuer.size<=9223372036854775807
 subject:c.Subject.size<=9223372036854775807
theorem P7.w {c:Af} (h:P7 c):Yv c:=⟨by have:=h.names; omega,h.name,h.issuer,h.subject⟩
theorem tA (u:Am) (k:Int):Ih u k=some (N1 u k):=by
 unfold Ih N1
 rw [Mr,Qv,aAc]
 cases decide (0 < Kq u) <;> rfl
theorem Vd (u:Am):Fl u=some (N1 u 2):=by
 unfold Fl N1
 rw [Qu,Wo,aAc]
 cases decide (0 < Kq u) <;> rfl
theorem Ze (n:Int):E4 n=some (!(decide (n < 0) || decide (2147483648 < n))):=by
 unfold E4
 by_cases a:n < 0
 ·rw [aAe a,aAg (show ¬ 0<=n by omega)]; rfl
 ·rw [aAg a,aAe (show 0<=n by omega)]
  by_cases b:n<=2147483648
  ·rw [aAe b,aAg (show ¬ 2147483648 < n by omega)]; rfl
  ·rw [aAg b,aAe (show 2147483648 < n by omega)]; rfl
theorem xR (n:Int):I4 n=some (!(decide (n < 0) || decide (4294967296<=n))):=by
 unfold I4
 by_cases a:n < 0
 ·rw [aAe a,aAg (show ¬ 0<=n by omega)]; rfl
 ·rw [aAg a,aAe (show 0<=n by omega)]
  by_cases b:n < 4294967296
  ·rw [aAe b,aAg (show ¬ 4294967296<=n by omega)]; rfl
  ·rw [aAg b,aAe (show 4294967296<=n by omega)]; rfl
theorem aHj (n:Nat):decide ((n:Int)<=8)=!decide (8 < (n:Int)):=by
 by_cases h:(n:Int)<=8
 ·rw [aAe h,aAg (by omega)]; rfl
 ·rw [aAg h,aAe (by omega)]; rfl
theorem wL (c:Af):Bi.j3 c false=some (!(decide (c.Path < 0) || decide (8 < c.Path) || (!c.Authority && !decide (c.Path=0)))):=by
 unfold Bi.j3
 by_cases a:c.Path < 0
 ·rw [aAe a,aAg (show ¬ 0<=c.Path by omega)]; rfl
 ·rw [aAg a,aAe (show 0<=c.Path by omega)]
  by_cases b:c.Path<=8
  ·rw [aAe b,aAg (show ¬ 8 < c.Path by omega)]
   cases c.Authority <;> simp
  ·rw [aAg b,aAe (show 8 < c.Path by omega)]; rfl
theorem tH (c:Af) (x:Bool):Bi.j3 c x=some (!(x || decide (c.Path < 0) || decide (8 < c.Path) || (!c.Authority && !decide (c.Path=0)))):=by
 cases x
 ·rw [wL]; simp
 ·simp [Bi.j3]
theorem lI (c:Af) (h:Yv c):Bi c=some (Fx c):=by
 unfold Bi Bi.j1 Bi.j2
 simp only [tH]
 rw [Jq _ h.issuer,Jq _ h.subject,mC _ h.names h.name,tA,Ze,tA,Ze,xR,aHj]
 simp only [aAc]
 unfold Fx V8
 simp only [aIz,List.any_nil,id]
 generalize decide (c.Serial < 0)=b1
 cases b1
 case true=>simp
 generalize decide (1099511627776 < c.Serial)=b2
 cases b2
 case true=>simp
 generalize Ev c.Issuer=b3
 cases b3
 case false=>simp
 generalize Ev c.Subject=b4
 cases b4
 case false=>simp
 generalize Lu c.Names=b5
 cases b5
 case false=>simp
 generalize decide (8 < (c.Names.length:Int))=b6
 cases b6
 case true=>simp
 generalize N1 c.Key 2=b7
 cases b7
 case false=>simp
 generalize decide (c.KeyId < 0)=b8
 cases b8
 case true=>simp
 generalize decide (2147483648 < c.KeyId)=b9
 cases b9
 case true=>simp
 generalize N1 c.Hash 1=b10
 cases b10
 case false=>simp
 generalize decide (c.Seal.Key < 0)=b11
 cases b11
 case true=>simp
 generalize decide (2147483648 < c.Seal.Key)=b12
 cases b12
 case true=>simp
 generalize decide (c.Seal.Sum < 0)=b13
 cases b13
 case true=>simp
 generalize decide (4294967296<=c.Seal.Sum)=b14
 cases b14
 case true=>simp
 generalize decide (c.From < 0)=b15
 cases b15
 case true=>simp
 generalize decide (c.To < c.From)=b16
 cases b16
 case true=>simp
 generalize decide (40000 < c.To)=b17
 cases b17
 case true=>simp
 generalize decide (c.Path < 0)=b18
 generalize decide (8 < c.Path)=b19
 generalize decide (c.Path=0)=b20
 cases b18 <;> cases b19 <;> cases b20 <;> simp
end
section
open Go
def Wv (c:Af):Bool:=decide (c.Seal.Key < 0) || (decide (2147483648 < c.Seal.Key) || (decide (c.Seal.Sum < 0) || decide (4294967296<=c.Seal.Sum)))
theorem aA2 (c:Af) (h:Yv c) (x:Bool):Ba.j3 c x=some (bif (x || !Lu c.Names || Wv c) then 9 else 0):=by
 cases x
 ·unfold Ba.j3
  rw [aCx]
  refine (Uj (body:=fun q'=>Ba.l4 c q') c.Names.length (fun i=>(i:Int)) (gP c.Names) 9 (bif Wv c then 9 else 0) (fun i hi=>?_) ?_).trans ?_
  ·obtain⟨s,hx⟩:∃ s,c.Names[i]?=some s:=⟨_,aBo hi⟩
   have hN:=h.names
   show Ba.l4 c (i:Int)=_
   unfold Ba.l4 gP
   rw [G7 hx,Ps s (h.name s (Ia hx)),aAc,Kk hx]
   cases hn:Ev s with
   | false=>rfl
   | true=>
    rw [aG4,aCx,aJ0]
    cases i with
    | zero=>rfl
    | succ i=>
     obtain⟨p,hp⟩:∃ p,c.Names[i]?=some p:=⟨_,aBo (by omega)⟩
     rw [aAe (by omega),aD8,Es (by omega),show ((i + 1:Nat):Int) - 1=(i:Int) by omega,D6,hp,aAc,show i + 1 - 1=i from rfl,Kk hp,aAe (by omega),aIj]
     unfold Ba.j5
     rw [Ud (n:=c.Names.length) (by omega) hN]
     cases Kz (Hg p) (Hg s) <;> rfl
  ·show Ba.l4 c (c.Names.length:Int)=_
   unfold Ba.l4 Ba.j6 Wv
   rw [Fs]
   cases decide (c.Seal.Key < 0) <;> cases decide (2147483648 < c.Seal.Key) <;> cases decide (c.Seal.Sum < 0) <;> cases decide (4294967296<=c.Seal.Sum) <;> rfl
  ·unfold Lu
   cases (List.range c.Names.length).any (gP c.Names) <;> cases Wv c <;> rfl
 ·rfl
theorem bR (c:Af) (h:Yv c):Ba c=some (bif Fx c then 0 else 9):=by
 unfold Ba Ba.j1 Ba.j2
 simp only [aA2 c h]
 rw [Ps _ h.issuer,Ps _ h.subject,Vd,Qu,Wo]
 simp only [aAc]
 unfold Fx V8 Wv
 simp only [aIz,List.any_nil,id]
 have hu:N1 c.Hash 1=(decide (0 < Kq c.Hash) && decide (Mf c.Hash.Alg=1)):=rfl
 rw [hu]
 generalize decide (c.Serial < 0)=b1
 cases b1
 case true=>simp
 generalize decide (1099511627776 < c.Serial)=b2
 cases b2
 case true=>simp
 generalize Ev c.Issuer=b3
 cases b3
 case false=>simp
 generalize Ev c.Subject=b4
 cases b4
 case false=>simp
 generalize N1 c.Key 2=b7
 cases b7
 case false=>simp
 generalize decide (c.KeyId < 0)=b8
 cases b8
 case true=>simp
 generalize decide (2147483648 < c.KeyId)=b9
 cases b9
 case true=>simp
 generalize decide (0 < Kq c.Hash)=b10
 cases b10
 case false=>simp
 generalize decide (Mf c.Hash.Alg=1)=b10'
 cases b10'
 case false=>simp
 generalize decide (c.From < 0)=b15
 cases b15
 case true=>simp
 generalize decide (c.To < c.From)=b16
 cases b16
 case true=>simp
 generalize decide (40000 < c.To)=b17
 cases b17
 case true=>simp
 generalize decide (c.Path < 0)=b18
 cases b18
 case true=>simp
 generalize decide (8 < c.Path)=b19
 cases b19
 case true=>simp
 generalize decide (c.Path=0)=b20
 generalize c.Authority=b21
 generalize decide (8 < (c.Names.length:Int))=b6
 generalize Lu c.Names=b5
 cases b20 <;> cases b21 <;> cases b6 <;> cases b5 <;> simp <;> generalize decide (c.Seal.Key < 0)=b11 <;> generalize decide (2147483648 < c.Seal.Key)=b12 <;> generalize decide (c.Seal.Sum < 0)=b13 <;> generalize decide (4294967296<=c.Seal.Sum)=b14 <;> cases b11 <;> cases b12 <;> cases b13 <;> cases b14 <;> rfl
theorem dT (c:Af) (h:P7 c):Ba c=some (bif Fx c then 0 else 9):=bR c h.w
end
end Go.Proofs.YtchpcpaacenodaaGreat
