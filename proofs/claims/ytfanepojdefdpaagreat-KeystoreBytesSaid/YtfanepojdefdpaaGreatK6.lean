/- Plain texts, joined. No program is in sight here. -/
import Derived.Test.YtfanepojdefdpaaGreatL3
import Derived.Test.YtfanepojdefdpaaGreatP1
import Derived.Test.YtfanepojdefdpaaGreatD8
set_option linter.unusedVariables false
set_option linter.unusedSimpArgs false
namespace Go.Proofs.YtfanepojdefdpaaGreat
section
open Go
def Er (s b:Int):Int:=if b=0 then s else 0
def vE (b:Int):Int:=if b < 1024 then 56 else if b < 2048 then 80 else if b < 3072 then 112 else if b < 7680 then 128 else if b < 15360 then 192 else 256
def F2 (b:Int):Int:=if 512<=b/\b<=16384 then vE b else 0
def Lx (b:Int):Int:=if b=160\/b=224\/b=256\/b=384\/b=521 then b / 2 else 0
def O4 (sizes strengths:List Int) (b:Int):Int:=match sizes.findIdx? (fun e=>decide (b=e)) with | some i=>strengths.getD i 0 | none=>0
def Hr:Nat->Int->Int
 | 1=>Er 18
 | 2=>Er 60
 | 3=>Er 128
 | 4=>Er 192
 | 5=>F2
 | 6=>F2
 | 7=>Lx
 | 8=>Er 128
 | 9=>O4 [44,65,87] [128,192,256]
 | 10=>F2
 | 11=>F2
 | 12=>Lx
 | 13=>O4 [512,768,1024] [128,192,256]
 | 14=>O4 [40,128] [40,60]
 | 15=>O4 [112,168] [80,112]
 | 16=>O4 [128,256] [128,256]
 | 17=>O4 [128,256] [128,256]
 | 18=>Er 256
 | 19=>Er 64
 | 20=>Er 80
 | 21=>Er 128
 | 22=>Er 256
 | _=>fun _=>0
def aDd:Nat->Int
 | 1=>1
 | 2=>1
 | 3=>1
 | 4=>1
 | 5=>2
 | 6=>2
 | 7=>2
 | 8=>2
 | 9=>2
 | 10=>3
 | 11=>3
 | 12=>3
 | 13=>3
 | 14=>4
 | 15=>4
 | 16=>4
 | 17=>4
 | 18=>4
 | 19=>5
 | 20=>5
 | 21=>5
 | 22=>5
 | _=>0
def Qg (u:Aw):Int:=if 1<=u.Alg/\u.Alg<=22 then Hr u.Alg.toNat u.Bits else 0
def Vq (a:Int):Int:=if 1<=a/\a<=22 then aDd a.toNat else 0
theorem F1 (b:Int) (sizes strengths:List Int) (h:sizes.length=strengths.length) (hl:sizes.length < 1000000):Bq b sizes strengths=some (O4 sizes strengths b):=by
 unfold Bq O4
 refine (Q0 (body:=fun q'=>Bq.l1 b sizes strengths q') sizes (fun i=>(i:Int)) (fun e=>decide (b=e)) (fun i=>strengths.getD i 0) 0 (fun i x hx=>?_) ?_).trans ?_
 ·have h1:=Oe hx
  show Bq.l1 b sizes strengths (i:Int)=_
  unfold Bq.l1
  rw [Fm hx,Fs,F3 (by omega)]
  have hs:strengths[i]?=some (strengths.getD i 0):=by
   rw [aFy,aA1 (by omega)]; rfl
  by_cases e:b=x
  ·rw [aBu e.symm,aBu e,hs]; rfl
  ·rw [aBo (fun e'=>e e'.symm),aBo e]; rfl
 ·show Bq.l1 b sizes strengths (sizes.length:Int)=_
  unfold Bq.l1
  rw [D7]; rfl
 ·rfl
theorem Lc (s:List Int) (v:Int) (hl:s.length < 4611686018427387904):B0 s v=some (match s.findIdx? (fun e=>decide (v=e)) with | some i=>(i:Int) | none=>-1):=by
 unfold B0
 refine Q0 (body:=fun q'=>B0.l1 s v q') s (fun i=>(i:Int)) (fun e=>decide (v=e)) (fun i=>(i:Int)) (-1) (fun i x hx=>?_) ?_
 ·have h1:=Oe hx
  show B0.l1 s v (i:Int)=_
  unfold B0.l1
  rw [Fm hx,F3 (by omega)]
  cases decide (v=x) <;> rfl
 ·show B0.l1 s v (s.length:Int)=_
  unfold B0.l1
  rw [D7]; rfl
theorem Tu (s:List Int) (v:Int) (hl:s.length < 4611686018427387904):Ez s v=some (decide (v∈s)):=by
 unfold Ez
 rw [Lc s v hl,aAo]
 cases h:s.findIdx? (fun e=>decide (v=e)) with
 | none=>
  have:=aHt.1 h
  have hn:¬ v∈s:=fun hm=>by have:=this v hm; simp at this
  rw [aBo hn]; rfl
 | some i=>
  have h2:=aIj (xs:=s) (p:=fun e=>decide (v=e))
  rw [h] at h2
  have:v∈s:=by
   have h3:=h2.symm
   rw [Option.isSome_some,aFn] at h3
   obtain⟨x,hx,e⟩:=h3
   rw [aE4 e]; exact hx
  rw [aBu this]
  simp
theorem Wy (b:Int):C7 b=some (vE b):=by
 have s0:C7.l1 b 0=some (if b < 1024 then .done 56 else .next 1):=by
  by_cases h:b < 1024
  ·rw [if_pos h]; show cond (decide (b < 1024)) _ _=_; rw [aBu h]; rfl
  ·rw [if_neg h]; show cond (decide (b < 1024)) _ _=_; rw [aBo h]; rfl
 have s1:C7.l1 b 1=some (if b < 2048 then .done 80 else .next 2):=by
  by_cases h:b < 2048
  ·rw [if_pos h]; show cond (decide (b < 2048)) _ _=_; rw [aBu h]; rfl
  ·rw [if_neg h]; show cond (decide (b < 2048)) _ _=_; rw [aBo h]; rfl
 have s2:C7.l1 b 2=some (if b < 3072 then .done 112 else .next 3):=by
  by_cases h:b < 3072
  ·rw [if_pos h]; show cond (decide (b < 3072)) _ _=_; rw [aBu h]; rfl
  ·rw [if_neg h]; show cond (decide (b < 3072)) _ _=_; rw [aBo h]; rfl
 have s3:C7.l1 b 3=some (if b < 7680 then .done 128 else .next 4):=by
  by_cases h:b < 7680
  ·rw [if_pos h]; show cond (decide (b < 7680)) _ _=_; rw [aBu h]; rfl
  ·rw [if_neg h]; show cond (decide (b < 7680)) _ _=_; rw [aBo h]; rfl
 have s4:C7.l1 b 4=some (if b < 15360 then .done 192 else .next 5):=by
  by_cases h:b < 15360
  ·rw [if_pos h]; show cond (decide (b < 15360)) _ _=_; rw [aBu h]; rfl
  ·rw [if_neg h]; show cond (decide (b < 15360)) _ _=_; rw [aBo h]; rfl
 have s5:C7.l1 b 5=some (.done 256):=rfl
 unfold C7 vE
 rw [Gi,s0]
 split
 ·rfl
 show Dp _ (1:Int)=_
 rw [Gi,s1]
 split
 ·rfl
 show Dp _ (2:Int)=_
 rw [Gi,s2]
 split
 ·rfl
 show Dp _ (3:Int)=_
 rw [Gi,s3]
 split
 ·rfl
 show Dp _ (4:Int)=_
 rw [Gi,s4]
 split
 ·rfl
 show Dp _ (5:Int)=_
 rw [Gi,s5]; rfl
theorem Ww (b:Int):Dm b=some (F2 b):=by
 unfold Dm Dm.j1 F2 vE
 by_cases h1:b < 512
 ·rw [aBu h1,if_neg (by omega)]; rfl
 ·by_cases h2:16384 < b
  ·rw [aBo h1,aBu h2,if_neg (by omega)]; rfl
  ·rw [aBo h1,aBo h2,if_pos (by omega)]
   simp only [aCc]
   by_cases a:b < 1024
   ·simp [a]
   by_cases a2:b < 2048
   ·simp [a,a2]
   by_cases a3:b < 3072
   ·simp [a,a2,a3]
   by_cases a4:b < 7680
   ·simp [a,a2,a3,a4]
   by_cases a5:b < 15360 <;> simp [a,a2,a3,a4,a5]
theorem aCk (b:Int):Ax ⟨1,b⟩=some (Hr 1 b):=by
 show cond (decide (b=0)) (some 18) (some 0)=some (Er 18 b)
 unfold Er
 by_cases h:b=0 <;> simp [h]
theorem aC2 (b:Int):Ar ⟨1,b⟩=some (Hr 1 b):=by
 show (Bq b [0] [18]).bind (fun y_8=>some y_8)=some (Er 18 b)
 rw [F1 b [0] [18] rfl (by decide)]
 unfold O4 Er
 by_cases h:b=0 <;> simp [h]
theorem aB0 (b:Int):Ax ⟨2,b⟩=some (Hr 2 b):=by
 show cond (decide (b=0)) (some 60) (some 0)=some (Er 60 b)
 unfold Er
 by_cases h:b=0 <;> simp [h]
theorem aDi (b:Int):Ar ⟨2,b⟩=some (Hr 2 b):=by
 show (Bq b [0] [60]).bind (fun y_8=>some y_8)=some (Er 60 b)
 rw [F1 b [0] [60] rfl (by decide)]
 unfold O4 Er
 by_cases h:b=0 <;> simp [h]
theorem aDa (b:Int):Ax ⟨3,b⟩=some (Hr 3 b):=by
 show cond (decide (b=0)) (some 128) (some 0)=some (Er 128 b)
 unfold Er
 by_cases h:b=0 <;> simp [h]
theorem aCb (b:Int):Ar ⟨3,b⟩=some (Hr 3 b):=by
 show (Bq b [0] [128]).bind (fun y_8=>some y_8)=some (Er 128 b)
 rw [F1 b [0] [128] rfl (by decide)]
 unfold O4 Er
 by_cases h:b=0 <;> simp [h]
theorem aCo (b:Int):Ax ⟨4,b⟩=some (Hr 4 b):=by
 show cond (decide (b=0)) (some 192) (some 0)=some (Er 192 b)
 unfold Er
 by_cases h:b=0 <;> simp [h]
theorem aDp (b:Int):Ar ⟨4,b⟩=some (Hr 4 b):=by
 show (Bq b [0] [192]).bind (fun y_8=>some y_8)=some (Er 192 b)
 rw [F1 b [0] [192] rfl (by decide)]
 unfold O4 Er
 by_cases h:b=0 <;> simp [h]
theorem aDb (b:Int):Ax ⟨5,b⟩=some (Hr 5 b):=by
 show cond (decide (512<=b)) (Ax.j1 ⟨5,b⟩ (decide (b<=16384))) (Ax.j1 ⟨5,b⟩ false)=some (F2 b)
 unfold Ax.j1 F2
 rw [Wy]
 by_cases h1:512<=b <;> by_cases h2:b<=16384 <;> simp [h1,h2]
theorem aB6 (b:Int):Ar ⟨5,b⟩=some (Hr 5 b):=by
 show (Dm b).bind (fun y=>some y)=some (F2 b)
 rw [Ww]; rfl
theorem aCh (b:Int):Ax ⟨6,b⟩=some (Hr 6 b):=by
 show cond (decide (512<=b)) (Ax.j1 ⟨6,b⟩ (decide (b<=16384))) (Ax.j1 ⟨6,b⟩ false)=some (F2 b)
 unfold Ax.j1 F2
 rw [Wy]
 by_cases h1:512<=b <;> by_cases h2:b<=16384 <;> simp [h1,h2]
theorem aDk (b:Int):Ar ⟨6,b⟩=some (Hr 6 b):=by
 show (Dm b).bind (fun y=>some y)=some (F2 b)
 rw [Ww]; rfl
theorem aDe (b:Int):Ax ⟨7,b⟩=some (Hr 7 b):=by
 show (Ez [160,224,256,384,521] b).bind (fun y_3=>cond y_3 ((Sd b 2).bind fun q=>some q) (some 0))=some (Lx b)
 rw [Tu _ _ (by decide)]
 unfold Lx
 by_cases h:b=160\/b=224\/b=256\/b=384\/b=521
 ·rw [if_pos h,aBu (by simpa using h)]
  rcases h with h | h | h | h | h <;> (subst h; rfl)
 ·rw [if_neg h,aBo (by simpa using h)]; rfl
theorem aB3 (b:Int):Ar ⟨7,b⟩=some (Hr 7 b):=by
 show Ar.j2 ⟨7,b⟩ true=some (Lx b)
 unfold Ar.j2 Ar.j3 Lx
 by_cases h:b=160\/b=224\/b=256\/b=384\/b=521
 ·rw [if_pos h]
  rcases h with h | h | h | h | h <;> (subst h; rfl)
 ·rw [if_neg h]
  have h1:¬ b=160:=by omega
  have h2:¬ b=224:=by omega
  have h3:¬ b=256:=by omega
  have h4:¬ b=384:=by omega
  have h5:¬ b=521:=by omega
  simp [h1,h2,h3,h4,h5]
theorem aCy (b:Int):Ax ⟨8,b⟩=some (Hr 8 b):=by
 show cond (decide (b=0)) (some 128) (some 0)=some (Er 128 b)
 unfold Er
 by_cases h:b=0 <;> simp [h]
theorem aB2 (b:Int):Ar ⟨8,b⟩=some (Hr 8 b):=by
 show (Bq b [0] [128]).bind (fun y_8=>some y_8)=some (Er 128 b)
 rw [F1 b [0] [128] rfl (by decide)]
 unfold O4 Er
 by_cases h:b=0 <;> simp [h]
theorem aBz (b:Int):Ax ⟨9,b⟩=some (Hr 9 b):=by
 show (B0 [44,65,87] b).bind (fun y_4=>cond (decide (0<=y_4)) ((C4 [128,192,256] y_4).bind fun e_2=>some e_2) (some 0))=some (O4 [44,65,87] [128,192,256] b)
 rw [Lc _ _ (by decide)]
 unfold O4
 cases h:List.findIdx? (fun e=>decide (b=e)) [44,65,87] with
 | none=>rfl
 | some i=>
  have hi:=(aFk.1 h).1
  have:i < 3:=hi
  rcases (by omega:i=0\/i=1\/i=2) with h | h | h <;> (subst h; rfl)
theorem aDs (b:Int):Ar ⟨9,b⟩=some (Hr 9 b):=by
 show (Bq b [44,65,87] [128,192,256]).bind (fun y=>some y)=some (O4 [44,65,87] [128,192,256] b)
 rw [F1 b [44,65,87] [128,192,256] rfl (by decide)]; rfl
theorem yA (b:Int):Ax ⟨10,b⟩=some (Hr 10 b):=by
 show cond (decide (512<=b)) (Ax.j1 ⟨10,b⟩ (decide (b<=16384))) (Ax.j1 ⟨10,b⟩ false)=some (F2 b)
 unfold Ax.j1 F2
 rw [Wy]
 by_cases h1:512<=b <;> by_cases h2:b<=16384 <;> simp [h1,h2]
theorem yN (b:Int):Ar ⟨10,b⟩=some (Hr 10 b):=by
 show (Dm b).bind (fun y=>some y)=some (F2 b)
 rw [Ww]; rfl
theorem aBd (b:Int):Ax ⟨11,b⟩=some (Hr 11 b):=by
 show cond (decide (512<=b)) (Ax.j1 ⟨11,b⟩ (decide (b<=16384))) (Ax.j1 ⟨11,b⟩ false)=some (F2 b)
 unfold Ax.j1 F2
 rw [Wy]
 by_cases h1:512<=b <;> by_cases h2:b<=16384 <;> simp [h1,h2]
theorem aA4 (b:Int):Ar ⟨11,b⟩=some (Hr 11 b):=by
 show (Dm b).bind (fun y=>some y)=some (F2 b)
 rw [Ww]; rfl
theorem yE (b:Int):Ax ⟨12,b⟩=some (Hr 12 b):=by
 show (Ez [160,224,256,384,521] b).bind (fun y_3=>cond y_3 ((Sd b 2).bind fun q=>some q) (some 0))=some (Lx b)
 rw [Tu _ _ (by decide)]
 unfold Lx
 by_cases h:b=160\/b=224\/b=256\/b=384\/b=521
 ·rw [if_pos h,aBu (by simpa using h)]
  rcases h with h | h | h | h | h <;> (subst h; rfl)
 ·rw [if_neg h,aBo (by simpa using h)]; rfl
theorem aAw (b:Int):Ar ⟨12,b⟩=some (Hr 12 b):=by
 show Ar.j2 ⟨12,b⟩ true=some (Lx b)
 unfold Ar.j2 Ar.j3 Lx
 by_cases h:b=160\/b=224\/b=256\/b=384\/b=521
 ·rw [if_pos h]
  rcases h with h | h | h | h | h <;> (subst h; rfl)
 ·rw [if_neg h]
  have h1:¬ b=160:=by omega
  have h2:¬ b=224:=by omega
  have h3:¬ b=256:=by omega
  have h4:¬ b=384:=by omega
  have h5:¬ b=521:=by omega
  simp [h1,h2,h3,h4,h5]
theorem yW (b:Int):Ax ⟨13,b⟩=some (Hr 13 b):=by
 show (B0 [512,768,1024] b).bind (fun y_4=>cond (decide (0<=y_4)) ((C4 [128,192,256] y_4).bind fun e_2=>some e_2) (some 0))=some (O4 [512,768,1024] [128,192,256] b)
 rw [Lc _ _ (by decide)]
 unfold O4
 cases h:List.findIdx? (fun e=>decide (b=e)) [512,768,1024] with
 | none=>rfl
 | some i=>
  have hi:=(aFk.1 h).1
  have:i < 3:=hi
  rcases (by omega:i=0\/i=1\/i=2) with h | h | h <;> (subst h; rfl)
theorem zY (b:Int):Ar ⟨13,b⟩=some (Hr 13 b):=by
 show (Bq b [512,768,1024] [128,192,256]).bind (fun y=>some y)=some (O4 [512,768,1024] [128,192,256] b)
 rw [F1 b [512,768,1024] [128,192,256] rfl (by decide)]; rfl
theorem yQ (b:Int):Ax ⟨14,b⟩=some (Hr 14 b):=by
 show (B0 [40,128] b).bind (fun y_4=>cond (decide (0<=y_4)) ((C4 [40,60] y_4).bind fun e_2=>some e_2) (some 0))=some (O4 [40,128] [40,60] b)
 rw [Lc _ _ (by decide)]
 unfold O4
 cases h:List.findIdx? (fun e=>decide (b=e)) [40,128] with
 | none=>rfl
 | some i=>
  have hi:=(aFk.1 h).1
  have:i < 2:=hi
  rcases (by omega:i=0\/i=1) with h | h <;> (subst h; rfl)
theorem aBg (b:Int):Ar ⟨14,b⟩=some (Hr 14 b):=by
 show (Bq b [40,128] [40,60]).bind (fun y=>some y)=some (O4 [40,128] [40,60] b)
 rw [F1 b [40,128] [40,60] rfl (by decide)]; rfl
theorem zC (b:Int):Ax ⟨15,b⟩=some (Hr 15 b):=by
 show (B0 [112,168] b).bind (fun y_4=>cond (decide (0<=y_4)) ((C4 [80,112] y_4).bind fun e_2=>some e_2) (some 0))=some (O4 [112,168] [80,112] b)
 rw [Lc _ _ (by decide)]
 unfold O4
 cases h:List.findIdx? (fun e=>decide (b=e)) [112,168] with
 | none=>rfl
 | some i=>
  have hi:=(aFk.1 h).1
  have:i < 2:=hi
  rcases (by omega:i=0\/i=1) with h | h <;> (subst h; rfl)
theorem xS (b:Int):Ar ⟨15,b⟩=some (Hr 15 b):=by
 show (Bq b [112,168] [80,112]).bind (fun y=>some y)=some (O4 [112,168] [80,112] b)
 rw [F1 b [112,168] [80,112] rfl (by decide)]; rfl
theorem zU (b:Int):Ax ⟨16,b⟩=some (Hr 16 b):=by
 show (B0 [128,256] b).bind (fun y_4=>cond (decide (0<=y_4)) ((C4 [128,256] y_4).bind fun e_2=>some e_2) (some 0))=some (O4 [128,256] [128,256] b)
 rw [Lc _ _ (by decide)]
 unfold O4
 cases h:List.findIdx? (fun e=>decide (b=e)) [128,256] with
 | none=>rfl
 | some i=>
  have hi:=(aFk.1 h).1
  have:i < 2:=hi
  rcases (by omega:i=0\/i=1) with h | h <;> (subst h; rfl)
theorem aBt (b:Int):Ar ⟨16,b⟩=some (Hr 16 b):=by
 show (Bq b [128,256] [128,256]).bind (fun y=>some y)=some (O4 [128,256] [128,256] b)
 rw [F1 b [128,256] [128,256] rfl (by decide)]; rfl
theorem zV (b:Int):Ax ⟨17,b⟩=some (Hr 17 b):=by
 show (B0 [128,256] b).bind (fun y_4=>cond (decide (0<=y_4)) ((C4 [128,256] y_4).bind fun e_2=>some e_2) (some 0))=some (O4 [128,256] [128,256] b)
 rw [Lc _ _ (by decide)]
 unfold O4
 cases h:List.findIdx? (fun e=>decide (b=e)) [128,256] with
 | none=>rfl
 | some i=>
  have hi:=(aFk.1 h).1
  have:i < 2:=hi
  rcases (by omega:i=0\/i=1) with h | h <;> (subst h; rfl)
theorem aAs (b:Int):Ar ⟨17,b⟩=some (Hr 17 b):=by
 show (Bq b [128,256] [128,256]).bind (fun y=>some y)=some (O4 [128,256] [128,256] b)
 rw [F1 b [128,256] [128,256] rfl (by decide)]; rfl
theorem zX (b:Int):Ax ⟨18,b⟩=some (Hr 18 b):=by
 show cond (decide (b=0)) (some 256) (some 0)=some (Er 256 b)
 unfold Er
 by_cases h:b=0 <;> simp [h]
theorem aAl (b:Int):Ar ⟨18,b⟩=some (Hr 18 b):=by
 show (Bq b [0] [256]).bind (fun y_8=>some y_8)=some (Er 256 b)
 rw [F1 b [0] [256] rfl (by decide)]
 unfold O4 Er
 by_cases h:b=0 <;> simp [h]
theorem xU (b:Int):Ax ⟨19,b⟩=some (Hr 19 b):=by
 show cond (decide (b=0)) (some 64) (some 0)=some (Er 64 b)
 unfold Er
 by_cases h:b=0 <;> simp [h]
theorem aA2 (b:Int):Ar ⟨19,b⟩=some (Hr 19 b):=by
 show (Bq b [0] [64]).bind (fun y_8=>some y_8)=some (Er 64 b)
 rw [F1 b [0] [64] rfl (by decide)]
 unfold O4 Er
 by_cases h:b=0 <;> simp [h]
theorem yK (b:Int):Ax ⟨20,b⟩=some (Hr 20 b):=by
 show cond (decide (b=0)) (some 80) (some 0)=some (Er 80 b)
 unfold Er
 by_cases h:b=0 <;> simp [h]
theorem yJ (b:Int):Ar ⟨20,b⟩=some (Hr 20 b):=by
 show (Bq b [0] [80]).bind (fun y_8=>some y_8)=some (Er 80 b)
 rw [F1 b [0] [80] rfl (by decide)]
 unfold O4 Er
 by_cases h:b=0 <;> simp [h]
theorem yH (b:Int):Ax ⟨21,b⟩=some (Hr 21 b):=by
 show cond (decide (b=0)) (some 128) (some 0)=some (Er 128 b)
 unfold Er
 by_cases h:b=0 <;> simp [h]
theorem yO (b:Int):Ar ⟨21,b⟩=some (Hr 21 b):=by
 show (Bq b [0] [128]).bind (fun y_8=>some y_8)=some (Er 128 b)
 rw [F1 b [0] [128] rfl (by decide)]
 unfold O4 Er
 by_cases h:b=0 <;> simp [h]
theorem aBe (b:Int):Ax ⟨22,b⟩=some (Hr 22 b):=by
 show cond (decide (b=0)) (some 256) (some 0)=some (Er 256 b)
 unfold Er
 by_cases h:b=0 <;> simp [h]
theorem aAd (b:Int):Ar ⟨22,b⟩=some (Hr 22 b):=by
 show (Bq b [0] [256]).bind (fun y_8=>some y_8)=some (Er 256 b)
 rw [F1 b [0] [256] rfl (by decide)]
 unfold O4 Er
 by_cases h:b=0 <;> simp [h]
theorem Qp {a:Int} (h:1<=a/\a<=22):a=1\/a=2\/a=3\/a=4\/a=5\/a=6\/a=7\/a=8\/a=9\/a=10\/a=11\/a=12\/a=13\/a=14\/a=15\/a=16\/a=17\/a=18\/a=19\/a=20\/a=21\/a=22:=by omega
theorem aT (u:Aw):Ax u=some (Qg u):=by
 obtain⟨a,b⟩:=u
 unfold Qg
 by_cases h0:1<=a/\a<=22
 ·rw [if_pos h0]
  rcases Qp h0 with h | h | h | h | h | h | h | h | h | h | h | h | h | h | h | h | h | h | h | h | h | h <;> subst h
  ·exact aCk b
  ·exact aB0 b
  ·exact aDa b
  ·exact aCo b
  ·exact aDb b
  ·exact aCh b
  ·exact aDe b
  ·exact aCy b
  ·exact aBz b
  ·exact yA b
  ·exact aBd b
  ·exact yE b
  ·exact yW b
  ·exact yQ b
  ·exact zC b
  ·exact zU b
  ·exact zV b
  ·exact zX b
  ·exact xU b
  ·exact yK b
  ·exact yH b
  ·exact aBe b
 ·rw [if_neg h0]
  unfold Ax Eg
  by_cases h1:a < 1
  ·simp [h1,Eg.j1]
  ·have h2:22 < a:=by omega
   simp [h1,h2,Eg.j1]
theorem bN (u:Aw):Ar u=some (Qg u):=by
 obtain⟨a,b⟩:=u
 unfold Qg
 by_cases h0:1<=a/\a<=22
 ·rw [if_pos h0]
  rcases Qp h0 with h | h | h | h | h | h | h | h | h | h | h | h | h | h | h | h | h | h | h | h | h | h <;> subst h
  ·exact aC2 b
  ·exact aDi b
  ·exact aCb b
  ·exact aDp b
  ·exact aB6 b
  ·exact aDk b
  ·exact aB3 b
  ·exact aB2 b
  ·exact aDs b
  ·exact yN b
  ·exact aA4 b
  ·exact aAw b
  ·exact zY b
  ·exact aBg b
  ·exact xS b
  ·exact aBt b
  ·exact aAs b
  ·exact aAl b
  ·exact aA2 b
  ·exact yJ b
  ·exact yO b
  ·exact aAd b
 ·rw [if_neg h0]
  have h1:¬ a=1:=by omega
  have h2:¬ a=2:=by omega
  have h3:¬ a=3:=by omega
  have h4:¬ a=4:=by omega
  have h5:¬ a=5:=by omega
  have h6:¬ a=6:=by omega
  have h7:¬ a=7:=by omega
  have h8:¬ a=8:=by omega
  have h9:¬ a=9:=by omega
  have h10:¬ a=10:=by omega
  have h11:¬ a=11:=by omega
  have h12:¬ a=12:=by omega
  have h13:¬ a=13:=by omega
  have h14:¬ a=14:=by omega
  have h15:¬ a=15:=by omega
  have h16:¬ a=16:=by omega
  have h17:¬ a=17:=by omega
  have h18:¬ a=18:=by omega
  have h19:¬ a=19:=by omega
  have h20:¬ a=20:=by omega
  have h21:¬ a=21:=by omega
  have h22:¬ a=22:=by omega
  simp [Ar,Ar.j1,Ar.j2,Ar.j4,C9,C9.j1,C9.j2,h1,h2,h3,h4,h5,h6,h7,h8,h9,h10,h11,h12,h13,h14,h15,h16,h17,h18,h19,h20,h21,h22]
  rw [F1 b [0] [0] rfl (by decide)]
  unfold O4
  by_cases h:b=0 <;> simp [h]
theorem fO (a:Int):If a=some (Vq a):=by
 unfold Vq
 by_cases h0:1<=a/\a<=22
 ·rw [if_pos h0]
  rcases Qp h0 with h | h | h | h | h | h | h | h | h | h | h | h | h | h | h | h | h | h | h | h | h | h <;> (subst h; rfl)
 ·rw [if_neg h0]
  unfold If Eg
  by_cases h1:a < 1
  ·simp [h1,Eg.j1]
  ·have h2:22 < a:=by omega
   simp [h1,h2,Eg.j1]
theorem fW (a:Int):E0 a=some (Vq a):=by
 unfold Vq
 by_cases h0:1<=a/\a<=22
 ·rw [if_pos h0]
  rcases Qp h0 with h | h | h | h | h | h | h | h | h | h | h | h | h | h | h | h | h | h | h | h | h | h <;> (subst h; rfl)
 ·rw [if_neg h0]
  unfold E0
  by_cases h1:a < 1
  ·simp [h1,E0.j1]
  ·have h2:22 < a:=by omega
   simp [h1,h2,E0.j1]
theorem Zn (u:Aw):Hz u=some (decide (0 < Qg u)):=by unfold Hz; rw [aT]; rfl
theorem aP (u:Aw):I7 u=some (decide (0 < Qg u)):=by unfold I7; rw [bN]; rfl
end
section
open Go
theorem Wt {i n:Nat} (h:i < n) (hn:n<=9223372036854775807):W ((i:Int) + 1)=((i + 1:Nat):Int):=by
 rw [Fx (by omega)]; omega
theorem Wx (s:ByteArray):(J7 s).length=s.size:=by unfold J7; rw [aIm]; rfl
theorem uV {s:ByteArray} {i:Nat} {c:UInt8} (h:(J7 s)[i]?=some c):idxT s (i:Int)=some c:=by
 unfold idxT
 rw [if_neg (by omega),aGn]
 unfold J7 at h
 rw [<- h]; simp
def wX (c:UInt8):Bool:=decide (33<=(c.toNat:Int)) && decide ((c.toNat:Int)<=126)
def Fq (s:ByteArray):Bool:=decide (1<=(s.size:Int)) && decide ((s.size:Int)<=32) && !(J7 s).any (fun c=>!wX c)
theorem Qs (s:ByteArray) (hs:s.size<=9223372036854775807):B6 s=some (Fq s):=by
 unfold B6 Fq
 refine (Sp (body:=fun q'=>B6.l1 s q') (J7 s) (fun i=>(i:Int)) (fun c=>!wX c) false (decide (1<=(s.size:Int)) && decide ((s.size:Int)<=32)) (fun i c hc=>?_) ?_).trans ?_
 ·have h1:=Oe hc
  rw [Wx] at h1
  show B6.l1 s (i:Int)=_
  unfold B6.l1 B6.j2 wX
  rw [Fm hc,Wt h1 hs]
  by_cases a:(c.toNat:Int)<=32
  ·rw [aBu a,aBo (show ¬ (33:Int)<=(c.toNat:Int) by omega)]; rfl
  ·rw [aBo a,aBu (show (33:Int)<=(c.toNat:Int) by omega)]
   by_cases b:126 < (c.toNat:Int)
   ·rw [aBu b,aBo (by omega)]; rfl
   ·rw [aBo b,aBu (by omega)]; rfl
 ·show B6.l1 s ((J7 s).length:Int)=_
  unfold B6.l1
  rw [D7]
  by_cases a:(1:Int)<=(s.size:Int) <;> simp [a,up]
 ·cases (J7 s).any fun c=>!wX c <;> simp
theorem Tm (s:ByteArray) (hs:s.size<=9223372036854775807):B4 s=some (Fq s):=by
 unfold B4 Fq
 have hl:B4.j1 s false=some (!(J7 s).any fun c=>!wX c):=by
  unfold B4.j1
  rw [aCc]
  refine (Sp (body:=fun q'=>B4.l2 s q') (J7 s) (fun i=>(i:Int)) (fun c=>!wX c) false true (fun i c hc=>?_) ?_).trans ?_
  ·have h1:=Oe hc
   rw [Wx] at h1
   show B4.l2 s (i:Int)=_
   unfold B4.l2 B4.j3 wX
   rw [aBu (by omega),aEu,uV hc,aAo,aAo,Wt h1 hs]
   by_cases a:(c.toNat:Int) < 33
   ·rw [aBu a,aBo (show ¬ (33:Int)<=(c.toNat:Int) by omega)]; rfl
   ·rw [aBo a,aBu (show (33:Int)<=(c.toNat:Int) by omega)]
    by_cases b:126 < (c.toNat:Int)
    ·rw [aBu b,aBo (by omega)]; rfl
    ·rw [aBo b,aBu (by omega)]; rfl
  ·show B4.l2 s ((J7 s).length:Int)=_
   unfold B4.l2
   rw [Wx,D7]; rfl
  ·cases (J7 s).any fun c=>!wX c <;> rfl
 by_cases a:(s.size:Int) < 1
 ·rw [aBu a,aBo (show ¬ (1:Int)<=(s.size:Int) by omega)]; rfl
 ·rw [aBo a,aBu (show (1:Int)<=(s.size:Int) by omega),aCc]
  by_cases b:32 < (s.size:Int)
  ·rw [aBu b,aBo (by omega)]; rfl
  ·rw [aBo b,aBu (by omega),hl]; simp
def dG (l:List ByteArray) (i:Nat):Bool:=!Fq (l.getD i ⟨#[]⟩) || (decide (0 < i) && !Q3 (J7 (l.getD (i - 1) ⟨#[]⟩)) (J7 (l.getD i ⟨#[]⟩)))
def Kv (l:List ByteArray):Bool:=!(List.range l.length).any (dG l)
theorem Jd {α:Type} {l:List α} {i:Nat} {x d:α} (h:l[i]?=some x):l.getD i d=x:=by
 rw [aFy,h]; rfl
theorem gW (l:List ByteArray) (hl:l.length<=9223372036854775807) (hs:∀ s∈l,s.size<=9223372036854775807):Bs l=some (Kv l && decide ((l.length:Int)<=8)):=by
 unfold Bs Kv
 refine (Od (body:=fun q'=>Bs.l1 l q') l.length (fun i=>(i:Int)) (dG l) false (decide ((l.length:Int)<=8)) (fun i hi=>?_) ?_).trans ?_
 ·obtain⟨s,hx⟩:∃ s,l[i]?=some s:=⟨_,aA1 hi⟩
  show Bs.l1 l (i:Int)=_
  unfold Bs.l1 dG
  rw [Fm hx,Qs s (hs s (F5 hx)),aAo,Jd hx]
  cases hn:Fq s with
  | false=>rfl
  | true=>
   rw [aEv,aCc,aGy]
   cases i with
   | zero=>rfl
   | succ i=>
    obtain⟨p,hp⟩:∃ p,l[i]?=some p:=⟨_,aA1 (by omega)⟩
    rw [aBu (by omega),aEu,Fx (by omega),show ((i + 1:Nat):Int) - 1=(i:Int) by omega,Fs,hp,aAo,show i + 1 - 1=i from rfl,Jd hp,aBu (by omega),aIl]
    unfold Bs.j2
    rw [Wt (n:=l.length) (by omega) hl]
    cases Q3 (J7 p) (J7 s) <;> rfl
 ·show Bs.l1 l (l.length:Int)=_
  unfold Bs.l1
  rw [D7]; rfl
 ·cases (List.range l.length).any (dG l) <;> rfl
end
section
open Go
def Lf (u:Aw) (k:Int):Bool:=decide (0 < Qg u) && decide (Vq u.Alg=k)
def Q2 (c:Ab):List Bool:=[decide (c.Serial < 0),decide (1099511627776 < c.Serial),!Fq c.Issuer,!Fq c.Subject,!Kv c.Names,decide (8 < (c.Names.length:Int)),!Lf c.Key 2,decide (c.KeyId < 0),decide (2147483648 < c.KeyId),!Lf c.Hash 1,decide (c.Seal.Key < 0),decide (2147483648 < c.Seal.Key),decide (c.Seal.Sum < 0),decide (4294967296<=c.Seal.Sum),decide (c.From < 0),decide (c.To < c.From),decide (40000 < c.To),decide (c.Path < 0),decide (8 < c.Path),!c.Authority && !decide (c.Path=0)]
def Es (c:Ab):Bool:=!(Q2 c).any id
structure Lr (c:Ab):Prop where
 names:c.Names.length < 1000000000
 name:∀ s∈c.Names,s.size<=9223372036854775807
 issuer:c.Issuer.size<=9223372036854775807
 subject:c.Subject.size<=9223372036854775807
 ints:∀ n∈[c.Serial,c.Key.Alg,c.Key.Bits,c.KeyId,c.Hash.Alg,c.Hash.Bits,c.From,c.To,c.Path,c.Seal.Key,c.Seal.Sum],-9223372036854775808<=n/\n<=9223372036854775807
structure aX (c:Ab):Prop where
 names:c.Names.length<=9223372036854775807
 name:∀ s∈c.Names,s.size<=9223372036854775807
 issuer:c.Issuer.size<=9223372036854775807
 subject:c.Subject.size<=9223372036854775807
theorem Lr.w {c:Ab} (h:Lr c):aX c:=⟨by have:=h.names; omega,h.name,h.issuer,h.subject⟩
theorem rO (u:Aw) (k:Int):Hh u k=some (Lf u k):=by
 unfold Hh Lf
 rw [Zn,fO,aAo]
 cases decide (0 < Qg u) <;> rfl
theorem Ro (u:Aw):Gv u=some (Lf u 2):=by
 unfold Gv Lf
 rw [aP,fW,aAo]
 cases decide (0 < Qg u) <;> rfl
theorem cH (n:Int):Gb n=some (!(decide (n < 0) || decide (2147483648 < n))):=by
 unfold Gb
 by_cases a:n < 0
 ·rw [aBu a,aBo (show ¬ 0<=n by omega)]; rfl
 ·rw [aBo a,aBu (show 0<=n by omega)]
  by_cases b:n<=2147483648
  ·rw [aBu b,aBo (show ¬ 2147483648 < n by omega)]; rfl
  ·rw [aBo b,aBu (show 2147483648 < n by omega)]; rfl
theorem vV (n:Int):H2 n=some (!(decide (n < 0) || decide (4294967296<=n))):=by
 unfold H2
 by_cases a:n < 0
 ·rw [aBu a,aBo (show ¬ 0<=n by omega)]; rfl
 ·rw [aBo a,aBu (show 0<=n by omega)]
  by_cases b:n < 4294967296
  ·rw [aBu b,aBo (show ¬ 4294967296<=n by omega)]; rfl
  ·rw [aBo b,aBu (show 4294967296<=n by omega)]; rfl
theorem aEc (n:Nat):decide ((n:Int)<=8)=!decide (8 < (n:Int)):=by
 by_cases h:(n:Int)<=8
 ·rw [aBu h,aBo (by omega)]; rfl
 ·rw [aBo h,aBu (by omega)]; rfl
theorem uB (c:Ab):A5.j3 c false=some (!(decide (c.Path < 0) || decide (8 < c.Path) || (!c.Authority && !decide (c.Path=0)))):=by
 unfold A5.j3
 by_cases a:c.Path < 0
 ·rw [aBu a,aBo (show ¬ 0<=c.Path by omega)]; rfl
 ·rw [aBo a,aBu (show 0<=c.Path by omega)]
  by_cases b:c.Path<=8
  ·rw [aBu b,aBo (show ¬ 8 < c.Path by omega)]
   cases c.Authority <;> simp
  ·rw [aBo b,aBu (show 8 < c.Path by omega)]; rfl
theorem pI (c:Ab) (x:Bool):A5.j3 c x=some (!(x || decide (c.Path < 0) || decide (8 < c.Path) || (!c.Authority && !decide (c.Path=0)))):=by
 cases x
 ·rw [uB]; simp
 ·simp [A5.j3]
theorem iB (c:Ab) (h:aX c):A5 c=some (Es c):=by
 unfold A5 A5.j1 A5.j2
 simp only [pI]
 rw [Qs _ h.issuer,Qs _ h.subject,gW _ h.names h.name,rO,cH,rO,cH,vV,aEc]
 simp only [aAo]
 unfold Es Q2
 simp only [aGo,aIp,id]
 generalize decide (c.Serial < 0)=b1
 cases b1
 case true=>simp
 generalize decide (1099511627776 < c.Serial)=b2
 cases b2
 case true=>simp
 generalize Fq c.Issuer=b3
 cases b3
 case false=>simp
 generalize Fq c.Subject=b4
 cases b4
 case false=>simp
 generalize Kv c.Names=b5
 cases b5
 case false=>simp
 generalize decide (8 < (c.Names.length:Int))=b6
 cases b6
 case true=>simp
 generalize Lf c.Key 2=b7
 cases b7
 case false=>simp
 generalize decide (c.KeyId < 0)=b8
 cases b8
 case true=>simp
 generalize decide (2147483648 < c.KeyId)=b9
 cases b9
 case true=>simp
 generalize Lf c.Hash 1=b10
 cases b10
 case false=>simp
 generalize decide (c.Seal.Key < 0)=b11
 cases b11
 case true=>simp
 generalize decide (2147483648 < c.Seal.Key)=b12
 cases b12
 case true=>simp
 generalize decide (c.Seal.Sum < 0)=b13
 cases b13
 case true=>simp
 generalize decide (4294967296<=c.Seal.Sum)=b14
 cases b14
 case true=>simp
 generalize decide (c.From < 0)=b15
 cases b15
 case true=>simp
 generalize decide (c.To < c.From)=b16
 cases b16
 case true=>simp
 generalize decide (40000 < c.To)=b17
 cases b17
 case true=>simp
 generalize decide (c.Path < 0)=b18
 generalize decide (8 < c.Path)=b19
 generalize decide (c.Path=0)=b20
 cases b18 <;> cases b19 <;> cases b20 <;> simp
end
section
open Go
def Tt (c:Ab):Bool:=decide (c.Seal.Key < 0) || (decide (2147483648 < c.Seal.Key) || (decide (c.Seal.Sum < 0) || decide (4294967296<=c.Seal.Sum)))
theorem aAf (c:Ab) (h:aX c) (x:Bool):Av.j3 c x=some (bif (x || !Kv c.Names || Tt c) then 9 else 0):=by
 cases x
 ·unfold Av.j3
  rw [aCc]
  refine (Od (body:=fun q'=>Av.l4 c q') c.Names.length (fun i=>(i:Int)) (dG c.Names) 9 (bif Tt c then 9 else 0) (fun i hi=>?_) ?_).trans ?_
  ·obtain⟨s,hx⟩:∃ s,c.Names[i]?=some s:=⟨_,aA1 hi⟩
   have hN:=h.names
   show Av.l4 c (i:Int)=_
   unfold Av.l4 dG
   rw [Fm hx,Tm s (h.name s (F5 hx)),aAo,Jd hx]
   cases hn:Fq s with
   | false=>rfl
   | true=>
    rw [aEv,aCc,aGy]
    cases i with
    | zero=>rfl
    | succ i=>
     obtain⟨p,hp⟩:∃ p,c.Names[i]?=some p:=⟨_,aA1 (by omega)⟩
     rw [aBu (by omega),aEu,Fx (by omega),show ((i + 1:Nat):Int) - 1=(i:Int) by omega,Fs,hp,aAo,show i + 1 - 1=i from rfl,Jd hp,aBu (by omega),aIl]
     unfold Av.j5
     rw [Wt (n:=c.Names.length) (by omega) hN]
     cases Q3 (J7 p) (J7 s) <;> rfl
  ·show Av.l4 c (c.Names.length:Int)=_
   unfold Av.l4 Av.j6 Tt
   rw [D7]
   cases decide (c.Seal.Key < 0) <;> cases decide (2147483648 < c.Seal.Key) <;> cases decide (c.Seal.Sum < 0) <;> cases decide (4294967296<=c.Seal.Sum) <;> rfl
  ·unfold Kv
   cases (List.range c.Names.length).any (dG c.Names) <;> cases Tt c <;> rfl
 ·rfl
theorem Yh (c:Ab) (h:aX c):Av c=some (bif Es c then 0 else 9):=by
 unfold Av Av.j1 Av.j2
 simp only [aAf c h]
 rw [Tm _ h.issuer,Tm _ h.subject,Ro,aP,fW]
 simp only [aAo]
 unfold Es Q2 Tt
 simp only [aGo,aIp,id]
 have hu:Lf c.Hash 1=(decide (0 < Qg c.Hash) && decide (Vq c.Hash.Alg=1)):=rfl
 rw [hu]
 generalize decide (c.Serial < 0)=b1
 cases b1
 case true=>simp
 generalize decide (1099511627776 < c.Serial)=b2
 cases b2
 case true=>simp
 generalize Fq c.Issuer=b3
 cases b3
 case false=>simp
 generalize Fq c.Subject=b4
 cases b4
 case false=>simp
 generalize Lf c.Key 2=b7
 cases b7
 case false=>simp
 generalize decide (c.KeyId < 0)=b8
 cases b8
 case true=>simp
 generalize decide (2147483648 < c.KeyId)=b9
 cases b9
 case true=>simp
 generalize decide (0 < Qg c.Hash)=b10
 cases b10
 case false=>simp
 generalize decide (Vq c.Hash.Alg=1)=b10'
 cases b10'
 case false=>simp
 generalize decide (c.From < 0)=b15
 cases b15
 case true=>simp
 generalize decide (c.To < c.From)=b16
 cases b16
 case true=>simp
 generalize decide (40000 < c.To)=b17
 cases b17
 case true=>simp
 generalize decide (c.Path < 0)=b18
 cases b18
 case true=>simp
 generalize decide (8 < c.Path)=b19
 cases b19
 case true=>simp
 generalize decide (c.Path=0)=b20
 generalize c.Authority=b21
 generalize decide (8 < (c.Names.length:Int))=b6
 generalize Kv c.Names=b5
 cases b20 <;> cases b21 <;> cases b6 <;> cases b5 <;> simp <;> generalize decide (c.Seal.Key < 0)=b11 <;> generalize decide (2147483648 < c.Seal.Key)=b12 <;> generalize decide (c.Seal.Sum < 0)=b13 <;> generalize decide (4294967296<=c.Seal.Sum)=b14 <;> cases b11 <;> cases b12 <;> cases b13 <;> cases b14 <;> rfl
theorem aE (c:Ab) (h:Lr c):Av c=some (bif Es c then 0 else 9):=Yh c h.w
end
section
open Go
def Jm (s:ByteArray):Aa:=.mk 12 (J7 s) false []
def S1 (b:Bool):Aa:=.mk 1 [bif b then 255 else 0] false []
def Pp (l:List Aa):Aa:=.mk 48 [] true l
def Y4 (u:Aw):Aa:=Pp [J6 u.Alg,J6 u.Bits]
def Mx (c:Ab):List Aa:=[J6 c.Serial,Jm c.Issuer,Jm c.Subject,Y4 c.Key,J6 c.KeyId,Y4 c.Hash,J6 c.From,J6 c.To,S1 c.Authority,J6 c.Path,Pp (c.Names.map Jm)]
def Of (c:Ab):Aa:=Pp (Mx c)
theorem Lg {s:ByteArray} (h:Fq s=true):s.size<=32:=by
 unfold Fq at h
 simp only [aCe,aFz] at h
 omega
theorem fB {l:List ByteArray} (h:Kv l=true):∀ s∈l,s.size<=32:=by
 intro s hs
 obtain⟨i,hi,e⟩:=aF6 hs
 unfold Kv at h
 have h1:(List.range l.length).any (dG l)=false:=by simpa using h
 rw [aGv] at h1
 have h2:=h1 i (aG2.2 hi)
 unfold dG at h2
 rw [Jd (aA1 hi),e] at h2
 refine Lg ?_
 cases hn:Fq s with
 | true=>rfl
 | false=>rw [hn] at h2; simp at h2
theorem Nh {c:Ab} (h:Es c=true):c.Issuer.size<=32/\c.Subject.size<=32/\c.Names.length<=8/\∀ s∈c.Names,s.size<=32:=by
 unfold Es Q2 at h
 simp only [aGo,aIp,id,aF0,aGt] at h
 obtain⟨-,-,h3,h4,h5,h6,-⟩:=h
 refine⟨Lg (by simpa using h3),Lg (by simpa using h4),?_,fB (by simpa using h5)⟩
 have:=aFs h6
 omega
theorem Tv (s:ByteArray):(Jm s).sz=s.size + 1:=by
 unfold Jm
 rw [In]
 show (J7 s).length + G4 [] + 1=_
 rw [Wx,G4]
theorem X4:∀ l:List ByteArray,(∀ s∈l,s.size<=32)->G4 (l.map Jm)<=33 * l.length
 | [],_=>aFf _
 | s :: l,h=>by
  have h1:=X4 l fun x hx=>h x (aEz _ hx)
  have h2:=h s (aE5 ..)
  rw [aFl,G4,Tv,aEw]; omega
theorem R6 (u:Aw):(Y4 u).sz<=19:=by
 unfold Y4 Pp
 have h1:=Iq u.Alg
 have h2:=Iq u.Bits
 rw [In]
 show 0 + G4 [J6 u.Alg,J6 u.Bits] + 1<=19
 simp only [G4]; omega
theorem Je (l:List Aa):(Pp l).sz=G4 l + 1:=by
 unfold Pp
 rw [In]
 show 0 + G4 l + 1=_
 omega
theorem Wm {c:Ab} (h:Es c=true):G4 (Mx c)<=1000:=by
 obtain⟨h1,h2,h3,h4⟩:=Nh h
 have t:=X4 c.Names h4
 have a1:=Iq c.Serial
 have a2:=R6 c.Key
 have a3:=Iq c.KeyId
 have a4:=R6 c.Hash
 have a5:=Iq c.From
 have a6:=Iq c.To
 have a7:=Iq c.Path
 have a8:(S1 c.Authority).sz=2:=by unfold S1; rw [In]; simp [G4]
 unfold Mx
 simp only [G4,Tv,Je,a8]
 omega
theorem Wh (u:Aw) (h1:-9223372036854775808<=u.Alg/\u.Alg<=9223372036854775807) (h2:-9223372036854775808<=u.Bits/\u.Bits<=9223372036854775807):Kt u=some (Y4 u):=by
 have:=R6 u
 unfold Y4 at this
 rw [Je] at this
 unfold Kt
 rw [Fh _ h1.1 h1.2,aAo,Fh _ h2.1 h2.2,aAo,Hq _ (by omega)]; rfl
theorem R8 (b:Bool):Kx b=some (S1 b):=by cases b <;> rfl
theorem qZ (c:Ab) (hf:Lr c) (h:Es c=true):Db c=some (Of c):=by
 obtain⟨h1,h2,h3,h4⟩:=Nh h
 have t:=X4 c.Names h4
 have hb:=Wm h
 have hi:=hf.ints
 simp only [aE1,aF7,aH8,forall_eq_or_imp,forall_eq] at hi
 obtain⟨i1,i2,i3,i4,i5,i6,i7,i8,i9,-⟩:=hi
 unfold Db
 refine Hi (body:=fun q'=>Db.l1 c q'.1 q'.2) c.Names.length (fun i=>((i:Int),(c.Names.take i).map Jm)) (Of c) ?_ ?_
 ·intro i hi
  obtain⟨s,hx⟩:∃ s,c.Names[i]?=some s:=⟨_,aA1 hi⟩
  show Db.l1 c (i:Int) ((c.Names.take i).map Jm)=_
  unfold Db.l1
  rw [Fm hx,show Ga s=some (Jm s) from rfl,aAo,E2 (by simp; omega),aAo,F3 (by omega),Dw hx,aFw]
  rfl
 ·show Db.l1 c (c.Names.length:Int) ((c.Names.take c.Names.length).map Jm)=_
  unfold Db.l1
  have hT:∀ s,Ga s=some (Jm s):=fun _=>rfl
  rw [D7,aFg,Fh _ i1.1 i1.2,Fh _ i4.1 i4.2,Fh _ i7.1 i7.2,Fh _ i8.1 i8.2,Fh _ i9.1 i9.2,Wh _ i2 i3,Wh _ i5 i6]
  simp only [hT,R8,aAo]
  rw [Hq _ (by omega)]
  simp only [aAo]
  show up ((Dy (Mx c)).bind fun y=>some y)=_
  rw [Hq _ (show G4 (Mx c) < 1073741824 by omega)]
  rfl
def Mv (c:Ab):List UInt8×Int:=bif Es c then nN (Of c) else ([],9)
theorem rJ {c:Ab} (h:Es c=true):(Of c).sz < 67108864:=by
 have:=Wm h
 unfold Of
 rw [Je]; omega
theorem nS (c:Ab) (hf:Lr c):I5 c=some (Mv c):=by
 unfold I5 Mv
 rw [aE c hf,aAo]
 cases h:Es c with
 | false=>rfl
 | true=>
  show (Db c).bind _=_
  rw [qZ c hf h,aAo,Pk _ (rJ h)]; rfl
end
section
open Go
def Zc (b:List UInt8):Int:=W (b.foldl (fun s e=>IntKind.wrap .u32 ((Zg .u32 s (IntKind.wrap .u32 (e.toNat:Int))) * 16777619)) 2166136261)
theorem uQ (b:List UInt8) (h:Lo b):Fo b=some (Zc b):=by
 unfold Fo
 refine Q4 (body:=fun q'=>Fo.l1 b q'.1 q'.2) b _ 2166136261 W h (fun i x s hx=>?_) (fun s=>?_)
 ·show Fo.l1 b s (i:Int)=_
  unfold Fo.l1; rw [Fm hx]
 ·show Fo.l1 b s (b.length:Int)=_
  unfold Fo.l1; rw [D7]; rfl
theorem dK (v:Aa):(nN v).1.length<=4096:=by
 unfold nN
 split
 ·split
  ·exact aFb _
  ·split
   ·exact aFb _
   ·simp; omega
 ·exact aFb _
theorem jH (c:Ab):(Mv c).1.length<=4096:=by
 unfold Mv
 cases Es c with
 | false=>exact aFb _
 | true=>exact dK _
theorem mN (c:Ab):Lo (Mv c).1:=by
 have:=jH c
 unfold Lo; omega
end
end Go.Proofs.YtfanepojdefdpaaGreat
