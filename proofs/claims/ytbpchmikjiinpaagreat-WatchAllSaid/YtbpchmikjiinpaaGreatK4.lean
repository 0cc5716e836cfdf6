/- Plain texts, joined. No program is in sight here. -/
import Derived.Test.YtbpchmikjiinpaaGreatL3
import Derived.Test.YtbpchmikjiinpaaGreatP1
set_option linter.unusedVariables false
set_option linter.unusedSimpArgs false
namespace Go.Proofs.YtbpchmikjiinpaaGreat
section
open Go
def Fj (s b:Int):Int:=if b=0 then s else 0
def zE (b:Int):Int:=if b < 1024 then 56 else if b < 2048 then 80 else if b < 3072 then 112 else if b < 7680 then 128 else if b < 15360 then 192 else 256
def G9 (b:Int):Int:=if 512<=b/\b<=16384 then zE b else 0
def Rj (b:Int):Int:=if b=160\/b=224\/b=256\/b=384\/b=521 then b / 2 else 0
def Tp (sizes strengths:List Int) (b:Int):Int:=match sizes.findIdx? (fun e=>decide (b=e)) with | some i=>strengths.getD i 0 | none=>0
def Jc:Nat->Int->Int
 | 1=>Fj 18
 | 2=>Fj 60
 | 3=>Fj 128
 | 4=>Fj 192
 | 5=>G9
 | 6=>G9
 | 7=>Rj
 | 8=>Fj 128
 | 9=>Tp [44,65,87] [128,192,256]
 | 10=>G9
 | 11=>G9
 | 12=>Rj
 | 13=>Tp [512,768,1024] [128,192,256]
 | 14=>Tp [40,128] [40,60]
 | 15=>Tp [112,168] [80,112]
 | 16=>Tp [128,256] [128,256]
 | 17=>Tp [128,256] [128,256]
 | 18=>Fj 256
 | 19=>Fj 64
 | 20=>Fj 80
 | 21=>Fj 128
 | 22=>Fj 256
 | _=>fun _=>0
def aK1:Nat->Int
 | 1=>1
 | 2=>1
 | 3=>1
 | 4=>1
 | 5=>2
 | 6=>2
 | 7=>2
 | 8=>2
 | 9=>2
 | 10=>3
 | 11=>3
 | 12=>3
 | 13=>3
 | 14=>4
 | 15=>4
 | 16=>4
 | 17=>4
 | 18=>4
 | 19=>5
 | 20=>5
 | 21=>5
 | 22=>5
 | _=>0
def N9 (u:Aq):Int:=if 1<=u.Alg/\u.Alg<=22 then Jc u.Alg.toNat u.Bits else 0
def Oi (a:Int):Int:=if 1<=a/\a<=22 then aK1 a.toNat else 0
theorem Gk (b:Int) (sizes strengths:List Int) (h:sizes.length=strengths.length) (hl:sizes.length < 1000000):B7 b sizes strengths=some (Tp sizes strengths b):=by
 unfold B7 Tp
 refine (Uv (body:=fun q'=>B7.l1 b sizes strengths q') sizes (fun i=>(i:Int)) (fun e=>decide (b=e)) (fun i=>strengths.getD i 0) 0 (fun i x hx=>?_) ?_).trans ?_
 ·have h1:=Il hx
  show B7.l1 b sizes strengths (i:Int)=_
  unfold B7.l1
  rw [Er hx,Dr,Fm (by omega)]
  have hs:strengths[i]?=some (strengths.getD i 0):=by
   rw [aP4,aBx (by omega)]; rfl
  by_cases e:b=x
  ·rw [aBe e.symm,aBe e,hs]; rfl
  ·rw [aBv (fun e'=>e e'.symm),aBv e]; rfl
 ·show B7.l1 b sizes strengths (sizes.length:Int)=_
  unfold B7.l1
  rw [De]; rfl
 ·rfl
theorem N0 (s:List Int) (v:Int) (hl:s.length < 4611686018427387904):Ch s v=some (match s.findIdx? (fun e=>decide (v=e)) with | some i=>(i:Int) | none=>-1):=by
 unfold Ch
 refine Uv (body:=fun q'=>Ch.l1 s v q') s (fun i=>(i:Int)) (fun e=>decide (v=e)) (fun i=>(i:Int)) (-1) (fun i x hx=>?_) ?_
 ·have h1:=Il hx
  show Ch.l1 s v (i:Int)=_
  unfold Ch.l1
  rw [Er hx,Fm (by omega)]
  cases decide (v=x) <;> rfl
 ·show Ch.l1 s v (s.length:Int)=_
  unfold Ch.l1
  rw [De]; rfl
theorem Km (s:List Int) (v:Int) (hl:s.length < 4611686018427387904):Db s v=some (decide (v∈s)):=by
 unfold Db
 rw [N0 s v hl,aAc]
 cases h:s.findIdx? (fun e=>decide (v=e)) with
 | none=>
  have:=aSa.1 h
  have hn:¬ v∈s:=fun hm=>by have:=this v hm; simp at this
  rw [aBv hn]; rfl
 | some i=>
  have h2:=List.findIdx?_isSome (xs:=s) (p:=fun e=>decide (v=e))
  rw [h] at h2
  have:v∈s:=by
   have h3:=h2.symm
   rw [Option.isSome_some,aK8] at h3
   obtain⟨x,hx,e⟩:=h3
   rw [aCm e]; exact hx
  rw [aBe this]
  simp
theorem aE (b:Int):Dn b=some (zE b):=by
 have s0:Dn.l1 b 0=some (if b < 1024 then .done 56 else .next 1):=by
  by_cases h:b < 1024
  ·rw [if_pos h]; show cond (decide (b < 1024)) _ _=_; rw [aBe h]; rfl
  ·rw [if_neg h]; show cond (decide (b < 1024)) _ _=_; rw [aBv h]; rfl
 have s1:Dn.l1 b 1=some (if b < 2048 then .done 80 else .next 2):=by
  by_cases h:b < 2048
  ·rw [if_pos h]; show cond (decide (b < 2048)) _ _=_; rw [aBe h]; rfl
  ·rw [if_neg h]; show cond (decide (b < 2048)) _ _=_; rw [aBv h]; rfl
 have s2:Dn.l1 b 2=some (if b < 3072 then .done 112 else .next 3):=by
  by_cases h:b < 3072
  ·rw [if_pos h]; show cond (decide (b < 3072)) _ _=_; rw [aBe h]; rfl
  ·rw [if_neg h]; show cond (decide (b < 3072)) _ _=_; rw [aBv h]; rfl
 have s3:Dn.l1 b 3=some (if b < 7680 then .done 128 else .next 4):=by
  by_cases h:b < 7680
  ·rw [if_pos h]; show cond (decide (b < 7680)) _ _=_; rw [aBe h]; rfl
  ·rw [if_neg h]; show cond (decide (b < 7680)) _ _=_; rw [aBv h]; rfl
 have s4:Dn.l1 b 4=some (if b < 15360 then .done 192 else .next 5):=by
  by_cases h:b < 15360
  ·rw [if_pos h]; show cond (decide (b < 15360)) _ _=_; rw [aBe h]; rfl
  ·rw [if_neg h]; show cond (decide (b < 15360)) _ _=_; rw [aBv h]; rfl
 have s5:Dn.l1 b 5=some (.done 256):=rfl
 unfold Dn zE
 rw [Ih,s0]
 split
 ·rfl
 show B2 _ (1:Int)=_
 rw [Ih,s1]
 split
 ·rfl
 show B2 _ (2:Int)=_
 rw [Ih,s2]
 split
 ·rfl
 show B2 _ (3:Int)=_
 rw [Ih,s3]
 split
 ·rfl
 show B2 _ (4:Int)=_
 rw [Ih,s4]
 split
 ·rfl
 show B2 _ (5:Int)=_
 rw [Ih,s5]; rfl
theorem aD (b:Int):D1 b=some (G9 b):=by
 unfold D1 D1.j1 G9 zE
 by_cases h1:b < 512
 ·rw [aBe h1,if_neg (by omega)]; rfl
 ·by_cases h2:16384 < b
  ·rw [aBv h1,aBe h2,if_neg (by omega)]; rfl
  ·rw [aBv h1,aBv h2,if_pos (by omega)]
   simp only [aCv]
   by_cases a:b < 1024
   ·simp [a]
   by_cases a2:b < 2048
   ·simp [a,a2]
   by_cases a3:b < 3072
   ·simp [a,a2,a3]
   by_cases a4:b < 7680
   ·simp [a,a2,a3,a4]
   by_cases a5:b < 15360 <;> simp [a,a2,a3,a4,a5]
theorem aKp (b:Int):A6 ⟨1,b⟩=some (Jc 1 b):=by
 show cond (decide (b=0)) (some 18) (some 0)=some (Fj 18 b)
 unfold Fj
 by_cases h:b=0 <;> simp [h]
theorem aJ0 (b:Int):Av ⟨1,b⟩=some (Jc 1 b):=by
 show (B7 b [0] [18]).bind (fun y_8=>some y_8)=some (Fj 18 b)
 rw [Gk b [0] [18] rfl (by decide)]
 unfold Tp Fj
 by_cases h:b=0 <;> simp [h]
theorem aIj (b:Int):A6 ⟨2,b⟩=some (Jc 2 b):=by
 show cond (decide (b=0)) (some 60) (some 0)=some (Fj 60 b)
 unfold Fj
 by_cases h:b=0 <;> simp [h]
theorem aH9 (b:Int):Av ⟨2,b⟩=some (Jc 2 b):=by
 show (B7 b [0] [60]).bind (fun y_8=>some y_8)=some (Fj 60 b)
 rw [Gk b [0] [60] rfl (by decide)]
 unfold Tp Fj
 by_cases h:b=0 <;> simp [h]
theorem aK3 (b:Int):A6 ⟨3,b⟩=some (Jc 3 b):=by
 show cond (decide (b=0)) (some 128) (some 0)=some (Fj 128 b)
 unfold Fj
 by_cases h:b=0 <;> simp [h]
theorem aJ9 (b:Int):Av ⟨3,b⟩=some (Jc 3 b):=by
 show (B7 b [0] [128]).bind (fun y_8=>some y_8)=some (Fj 128 b)
 rw [Gk b [0] [128] rfl (by decide)]
 unfold Tp Fj
 by_cases h:b=0 <;> simp [h]
theorem aKj (b:Int):A6 ⟨4,b⟩=some (Jc 4 b):=by
 show cond (decide (b=0)) (some 192) (some 0)=some (Fj 192 b)
 unfold Fj
 by_cases h:b=0 <;> simp [h]
theorem aKu (b:Int):Av ⟨4,b⟩=some (Jc 4 b):=by
 show (B7 b [0] [192]).bind (fun y_8=>some y_8)=some (Fj 192 b)
 rw [Gk b [0] [192] rfl (by decide)]
 unfold Tp Fj
 by_cases h:b=0 <;> simp [h]
theorem aKm (b:Int):A6 ⟨5,b⟩=some (Jc 5 b):=by
 show cond (decide (512<=b)) (A6.j1 ⟨5,b⟩ (decide (b<=16384))) (A6.j1 ⟨5,b⟩ false)=some (G9 b)
 unfold A6.j1 G9
 rw [aE]
 by_cases h1:512<=b <;> by_cases h2:b<=16384 <;> simp [h1,h2]
theorem aJs (b:Int):Av ⟨5,b⟩=some (Jc 5 b):=by
 show (D1 b).bind (fun y=>some y)=some (G9 b)
 rw [aD]; rfl
theorem aIv (b:Int):A6 ⟨6,b⟩=some (Jc 6 b):=by
 show cond (decide (512<=b)) (A6.j1 ⟨6,b⟩ (decide (b<=16384))) (A6.j1 ⟨6,b⟩ false)=some (G9 b)
 unfold A6.j1 G9
 rw [aE]
 by_cases h1:512<=b <;> by_cases h2:b<=16384 <;> simp [h1,h2]
theorem aJr (b:Int):Av ⟨6,b⟩=some (Jc 6 b):=by
 show (D1 b).bind (fun y=>some y)=some (G9 b)
 rw [aD]; rfl
theorem aK4 (b:Int):A6 ⟨7,b⟩=some (Jc 7 b):=by
 show (Db [160,224,256,384,521] b).bind (fun y_3=>cond y_3 ((Og b 2).bind fun q=>some q) (some 0))=some (Rj b)
 rw [Km _ _ (by decide)]
 unfold Rj
 by_cases h:b=160\/b=224\/b=256\/b=384\/b=521
 ·rw [if_pos h,aBe (by simpa using h)]
  rcases h with h | h | h | h | h <;> (subst h; rfl)
 ·rw [if_neg h,aBv (by simpa using h)]; rfl
theorem aK2 (b:Int):Av ⟨7,b⟩=some (Jc 7 b):=by
 show Av.j2 ⟨7,b⟩ true=some (Rj b)
 unfold Av.j2 Av.j3 Rj
 by_cases h:b=160\/b=224\/b=256\/b=384\/b=521
 ·rw [if_pos h]
  rcases h with h | h | h | h | h <;> (subst h; rfl)
 ·rw [if_neg h]
  have h1:¬ b=160:=by omega
  have h2:¬ b=224:=by omega
  have h3:¬ b=256:=by omega
  have h4:¬ b=384:=by omega
  have h5:¬ b=521:=by omega
  simp [h1,h2,h3,h4,h5]
theorem aI6 (b:Int):A6 ⟨8,b⟩=some (Jc 8 b):=by
 show cond (decide (b=0)) (some 128) (some 0)=some (Fj 128 b)
 unfold Fj
 by_cases h:b=0 <;> simp [h]
theorem aJ4 (b:Int):Av ⟨8,b⟩=some (Jc 8 b):=by
 show (B7 b [0] [128]).bind (fun y_8=>some y_8)=some (Fj 128 b)
 rw [Gk b [0] [128] rfl (by decide)]
 unfold Tp Fj
 by_cases h:b=0 <;> simp [h]
theorem aK5 (b:Int):A6 ⟨9,b⟩=some (Jc 9 b):=by
 show (Ch [44,65,87] b).bind (fun y_4=>cond (decide (0<=y_4)) ((Bu [128,192,256] y_4).bind fun e_2=>some e_2) (some 0))=some (Tp [44,65,87] [128,192,256] b)
 rw [N0 _ _ (by decide)]
 unfold Tp
 cases h:List.findIdx? (fun e=>decide (b=e)) [44,65,87] with
 | none=>rfl
 | some i=>
  have hi:=(aIw.1 h).1
  have:i < 3:=hi
  rcases (by omega:i=0\/i=1\/i=2) with h | h | h <;> (subst h; rfl)
theorem aIt (b:Int):Av ⟨9,b⟩=some (Jc 9 b):=by
 show (B7 b [44,65,87] [128,192,256]).bind (fun y=>some y)=some (Tp [44,65,87] [128,192,256] b)
 rw [Gk b [44,65,87] [128,192,256] rfl (by decide)]; rfl
theorem aFk (b:Int):A6 ⟨10,b⟩=some (Jc 10 b):=by
 show cond (decide (512<=b)) (A6.j1 ⟨10,b⟩ (decide (b<=16384))) (A6.j1 ⟨10,b⟩ false)=some (G9 b)
 unfold A6.j1 G9
 rw [aE]
 by_cases h1:512<=b <;> by_cases h2:b<=16384 <;> simp [h1,h2]
theorem aEa (b:Int):Av ⟨10,b⟩=some (Jc 10 b):=by
 show (D1 b).bind (fun y=>some y)=some (G9 b)
 rw [aD]; rfl
theorem aFp (b:Int):A6 ⟨11,b⟩=some (Jc 11 b):=by
 show cond (decide (512<=b)) (A6.j1 ⟨11,b⟩ (decide (b<=16384))) (A6.j1 ⟨11,b⟩ false)=some (G9 b)
 unfold A6.j1 G9
 rw [aE]
 by_cases h1:512<=b <;> by_cases h2:b<=16384 <;> simp [h1,h2]
theorem aFy (b:Int):Av ⟨11,b⟩=some (Jc 11 b):=by
 show (D1 b).bind (fun y=>some y)=some (G9 b)
 rw [aD]; rfl
theorem aHm (b:Int):A6 ⟨12,b⟩=some (Jc 12 b):=by
 show (Db [160,224,256,384,521] b).bind (fun y_3=>cond y_3 ((Og b 2).bind fun q=>some q) (some 0))=some (Rj b)
 rw [Km _ _ (by decide)]
 unfold Rj
 by_cases h:b=160\/b=224\/b=256\/b=384\/b=521
 ·rw [if_pos h,aBe (by simpa using h)]
  rcases h with h | h | h | h | h <;> (subst h; rfl)
 ·rw [if_neg h,aBv (by simpa using h)]; rfl
theorem aD4 (b:Int):Av ⟨12,b⟩=some (Jc 12 b):=by
 show Av.j2 ⟨12,b⟩ true=some (Rj b)
 unfold Av.j2 Av.j3 Rj
 by_cases h:b=160\/b=224\/b=256\/b=384\/b=521
 ·rw [if_pos h]
  rcases h with h | h | h | h | h <;> (subst h; rfl)
 ·rw [if_neg h]
  have h1:¬ b=160:=by omega
  have h2:¬ b=224:=by omega
  have h3:¬ b=256:=by omega
  have h4:¬ b=384:=by omega
  have h5:¬ b=521:=by omega
  simp [h1,h2,h3,h4,h5]
theorem aFr (b:Int):A6 ⟨13,b⟩=some (Jc 13 b):=by
 show (Ch [512,768,1024] b).bind (fun y_4=>cond (decide (0<=y_4)) ((Bu [128,192,256] y_4).bind fun e_2=>some e_2) (some 0))=some (Tp [512,768,1024] [128,192,256] b)
 rw [N0 _ _ (by decide)]
 unfold Tp
 cases h:List.findIdx? (fun e=>decide (b=e)) [512,768,1024] with
 | none=>rfl
 | some i=>
  have hi:=(aIw.1 h).1
  have:i < 3:=hi
  rcases (by omega:i=0\/i=1\/i=2) with h | h | h <;> (subst h; rfl)
theorem aF0 (b:Int):Av ⟨13,b⟩=some (Jc 13 b):=by
 show (B7 b [512,768,1024] [128,192,256]).bind (fun y=>some y)=some (Tp [512,768,1024] [128,192,256] b)
 rw [Gk b [512,768,1024] [128,192,256] rfl (by decide)]; rfl
theorem aGw (b:Int):A6 ⟨14,b⟩=some (Jc 14 b):=by
 show (Ch [40,128] b).bind (fun y_4=>cond (decide (0<=y_4)) ((Bu [40,60] y_4).bind fun e_2=>some e_2) (some 0))=some (Tp [40,128] [40,60] b)
 rw [N0 _ _ (by decide)]
 unfold Tp
 cases h:List.findIdx? (fun e=>decide (b=e)) [40,128] with
 | none=>rfl
 | some i=>
  have hi:=(aIw.1 h).1
  have:i < 2:=hi
  rcases (by omega:i=0\/i=1) with h | h <;> (subst h; rfl)
theorem aFz (b:Int):Av ⟨14,b⟩=some (Jc 14 b):=by
 show (B7 b [40,128] [40,60]).bind (fun y=>some y)=some (Tp [40,128] [40,60] b)
 rw [Gk b [40,128] [40,60] rfl (by decide)]; rfl
theorem aD8 (b:Int):A6 ⟨15,b⟩=some (Jc 15 b):=by
 show (Ch [112,168] b).bind (fun y_4=>cond (decide (0<=y_4)) ((Bu [80,112] y_4).bind fun e_2=>some e_2) (some 0))=some (Tp [112,168] [80,112] b)
 rw [N0 _ _ (by decide)]
 unfold Tp
 cases h:List.findIdx? (fun e=>decide (b=e)) [112,168] with
 | none=>rfl
 | some i=>
  have hi:=(aIw.1 h).1
  have:i < 2:=hi
  rcases (by omega:i=0\/i=1) with h | h <;> (subst h; rfl)
theorem aDs (b:Int):Av ⟨15,b⟩=some (Jc 15 b):=by
 show (B7 b [112,168] [80,112]).bind (fun y=>some y)=some (Tp [112,168] [80,112] b)
 rw [Gk b [112,168] [80,112] rfl (by decide)]; rfl
theorem aGf (b:Int):A6 ⟨16,b⟩=some (Jc 16 b):=by
 show (Ch [128,256] b).bind (fun y_4=>cond (decide (0<=y_4)) ((Bu [128,256] y_4).bind fun e_2=>some e_2) (some 0))=some (Tp [128,256] [128,256] b)
 rw [N0 _ _ (by decide)]
 unfold Tp
 cases h:List.findIdx? (fun e=>decide (b=e)) [128,256] with
 | none=>rfl
 | some i=>
  have hi:=(aIw.1 h).1
  have:i < 2:=hi
  rcases (by omega:i=0\/i=1) with h | h <;> (subst h; rfl)
theorem aEe (b:Int):Av ⟨16,b⟩=some (Jc 16 b):=by
 show (B7 b [128,256] [128,256]).bind (fun y=>some y)=some (Tp [128,256] [128,256] b)
 rw [Gk b [128,256] [128,256] rfl (by decide)]; rfl
theorem aGk (b:Int):A6 ⟨17,b⟩=some (Jc 17 b):=by
 show (Ch [128,256] b).bind (fun y_4=>cond (decide (0<=y_4)) ((Bu [128,256] y_4).bind fun e_2=>some e_2) (some 0))=some (Tp [128,256] [128,256] b)
 rw [N0 _ _ (by decide)]
 unfold Tp
 cases h:List.findIdx? (fun e=>decide (b=e)) [128,256] with
 | none=>rfl
 | some i=>
  have hi:=(aIw.1 h).1
  have:i < 2:=hi
  rcases (by omega:i=0\/i=1) with h | h <;> (subst h; rfl)
theorem aGh (b:Int):Av ⟨17,b⟩=some (Jc 17 b):=by
 show (B7 b [128,256] [128,256]).bind (fun y=>some y)=some (Tp [128,256] [128,256] b)
 rw [Gk b [128,256] [128,256] rfl (by decide)]; rfl
theorem aEo (b:Int):A6 ⟨18,b⟩=some (Jc 18 b):=by
 show cond (decide (b=0)) (some 256) (some 0)=some (Fj 256 b)
 unfold Fj
 by_cases h:b=0 <;> simp [h]
theorem aGg (b:Int):Av ⟨18,b⟩=some (Jc 18 b):=by
 show (B7 b [0] [256]).bind (fun y_8=>some y_8)=some (Fj 256 b)
 rw [Gk b [0] [256] rfl (by decide)]
 unfold Tp Fj
 by_cases h:b=0 <;> simp [h]
theorem aFg (b:Int):A6 ⟨19,b⟩=some (Jc 19 b):=by
 show cond (decide (b=0)) (some 64) (some 0)=some (Fj 64 b)
 unfold Fj
 by_cases h:b=0 <;> simp [h]
theorem aF1 (b:Int):Av ⟨19,b⟩=some (Jc 19 b):=by
 show (B7 b [0] [64]).bind (fun y_8=>some y_8)=some (Fj 64 b)
 rw [Gk b [0] [64] rfl (by decide)]
 unfold Tp Fj
 by_cases h:b=0 <;> simp [h]
theorem aEy (b:Int):A6 ⟨20,b⟩=some (Jc 20 b):=by
 show cond (decide (b=0)) (some 80) (some 0)=some (Fj 80 b)
 unfold Fj
 by_cases h:b=0 <;> simp [h]
theorem aE7 (b:Int):Av ⟨20,b⟩=some (Jc 20 b):=by
 show (B7 b [0] [80]).bind (fun y_8=>some y_8)=some (Fj 80 b)
 rw [Gk b [0] [80] rfl (by decide)]
 unfold Tp Fj
 by_cases h:b=0 <;> simp [h]
theorem aD0 (b:Int):A6 ⟨21,b⟩=some (Jc 21 b):=by
 show cond (decide (b=0)) (some 128) (some 0)=some (Fj 128 b)
 unfold Fj
 by_cases h:b=0 <;> simp [h]
theorem aGm (b:Int):Av ⟨21,b⟩=some (Jc 21 b):=by
 show (B7 b [0] [128]).bind (fun y_8=>some y_8)=some (Fj 128 b)
 rw [Gk b [0] [128] rfl (by decide)]
 unfold Tp Fj
 by_cases h:b=0 <;> simp [h]
theorem aHg (b:Int):A6 ⟨22,b⟩=some (Jc 22 b):=by
 show cond (decide (b=0)) (some 256) (some 0)=some (Fj 256 b)
 unfold Fj
 by_cases h:b=0 <;> simp [h]
theorem aEb (b:Int):Av ⟨22,b⟩=some (Jc 22 b):=by
 show (B7 b [0] [256]).bind (fun y_8=>some y_8)=some (Fj 256 b)
 rw [Gk b [0] [256] rfl (by decide)]
 unfold Tp Fj
 by_cases h:b=0 <;> simp [h]
theorem Uu {a:Int} (h:1<=a/\a<=22):a=1\/a=2\/a=3\/a=4\/a=5\/a=6\/a=7\/a=8\/a=9\/a=10\/a=11\/a=12\/a=13\/a=14\/a=15\/a=16\/a=17\/a=18\/a=19\/a=20\/a=21\/a=22:=by omega
theorem iW (u:Aq):A6 u=some (N9 u):=by
 obtain⟨a,b⟩:=u
 unfold N9
 by_cases h0:1<=a/\a<=22
 ·rw [if_pos h0]
  rcases Uu h0 with h | h | h | h | h | h | h | h | h | h | h | h | h | h | h | h | h | h | h | h | h | h <;> subst h
  ·exact aKp b
  ·exact aIj b
  ·exact aK3 b
  ·exact aKj b
  ·exact aKm b
  ·exact aIv b
  ·exact aK4 b
  ·exact aI6 b
  ·exact aK5 b
  ·exact aFk b
  ·exact aFp b
  ·exact aHm b
  ·exact aFr b
  ·exact aGw b
  ·exact aD8 b
  ·exact aGf b
  ·exact aGk b
  ·exact aEo b
  ·exact aFg b
  ·exact aEy b
  ·exact aD0 b
  ·exact aHg b
 ·rw [if_neg h0]
  unfold A6 Fb
  by_cases h1:a < 1
  ·simp [h1,Fb.j1]
  ·have h2:22 < a:=by omega
   simp [h1,h2,Fb.j1]
theorem Xr (u:Aq):Av u=some (N9 u):=by
 obtain⟨a,b⟩:=u
 unfold N9
 by_cases h0:1<=a/\a<=22
 ·rw [if_pos h0]
  rcases Uu h0 with h | h | h | h | h | h | h | h | h | h | h | h | h | h | h | h | h | h | h | h | h | h <;> subst h
  ·exact aJ0 b
  ·exact aH9 b
  ·exact aJ9 b
  ·exact aKu b
  ·exact aJs b
  ·exact aJr b
  ·exact aK2 b
  ·exact aJ4 b
  ·exact aIt b
  ·exact aEa b
  ·exact aFy b
  ·exact aD4 b
  ·exact aF0 b
  ·exact aFz b
  ·exact aDs b
  ·exact aEe b
  ·exact aGh b
  ·exact aGg b
  ·exact aF1 b
  ·exact aE7 b
  ·exact aGm b
  ·exact aEb b
 ·rw [if_neg h0]
  have h1:¬ a=1:=by omega
  have h2:¬ a=2:=by omega
  have h3:¬ a=3:=by omega
  have h4:¬ a=4:=by omega
  have h5:¬ a=5:=by omega
  have h6:¬ a=6:=by omega
  have h7:¬ a=7:=by omega
  have h8:¬ a=8:=by omega
  have h9:¬ a=9:=by omega
  have h10:¬ a=10:=by omega
  have h11:¬ a=11:=by omega
  have h12:¬ a=12:=by omega
  have h13:¬ a=13:=by omega
  have h14:¬ a=14:=by omega
  have h15:¬ a=15:=by omega
  have h16:¬ a=16:=by omega
  have h17:¬ a=17:=by omega
  have h18:¬ a=18:=by omega
  have h19:¬ a=19:=by omega
  have h20:¬ a=20:=by omega
  have h21:¬ a=21:=by omega
  have h22:¬ a=22:=by omega
  simp [Av,Av.j1,Av.j2,Av.j4,Dt,Dt.j1,Dt.j2,h1,h2,h3,h4,h5,h6,h7,h8,h9,h10,h11,h12,h13,h14,h15,h16,h17,h18,h19,h20,h21,h22]
  rw [Gk b [0] [0] rfl (by decide)]
  unfold Tp
  by_cases h:b=0 <;> simp [h]
theorem Tw (a:Int):Hp a=some (Oi a):=by
 unfold Oi
 by_cases h0:1<=a/\a<=22
 ·rw [if_pos h0]
  rcases Uu h0 with h | h | h | h | h | h | h | h | h | h | h | h | h | h | h | h | h | h | h | h | h | h <;> (subst h; rfl)
 ·rw [if_neg h0]
  unfold Hp Fb
  by_cases h1:a < 1
  ·simp [h1,Fb.j1]
  ·have h2:22 < a:=by omega
   simp [h1,h2,Fb.j1]
theorem Wl (a:Int):Fq a=some (Oi a):=by
 unfold Oi
 by_cases h0:1<=a/\a<=22
 ·rw [if_pos h0]
  rcases Uu h0 with h | h | h | h | h | h | h | h | h | h | h | h | h | h | h | h | h | h | h | h | h | h <;> (subst h; rfl)
 ·rw [if_neg h0]
  unfold Fq
  by_cases h1:a < 1
  ·simp [h1,Fq.j1]
  ·have h2:22 < a:=by omega
   simp [h1,h2,Fq.j1]
theorem Pb (u:Aq):Ga u=some (decide (0 < N9 u)):=by unfold Ga; rw [iW]; rfl
theorem Sl (u:Aq):Ik u=some (decide (0 < N9 u)):=by unfold Ik; rw [Xr]; rfl
end
section
open Go
theorem U7 {i n:Nat} (h:i < n) (hn:n<=9223372036854775807):W ((i:Int) + 1)=((i + 1:Nat):Int):=by
 rw [Dz (by omega)]; omega
theorem S2 (s:ByteArray):(Hq s).length=s.size:=by unfold Hq; rw [Array.length_toList]; rfl
theorem qH {s:ByteArray} {i:Nat} {c:UInt8} (h:(Hq s)[i]?=some c):iE s (i:Int)=some c:=by
 unfold iE
 rw [if_neg (by omega),aK9]
 unfold Hq at h
 rw [<- h]; simp
def chS (c:UInt8):Bool:=decide (33<=(c.toNat:Int)) && decide ((c.toNat:Int)<=126)
def Es (s:ByteArray):Bool:=decide (1<=(s.size:Int)) && decide ((s.size:Int)<=32) && !(Hq s).any (fun c=>!chS c)
theorem Kx (s:ByteArray) (hs:s.size<=9223372036854775807):Cg s=some (Es s):=by
 unfold Cg Es
 refine (Rl (body:=fun q'=>Cg.l1 s q') (Hq s) (fun i=>(i:Int)) (fun c=>!chS c) false (decide (1<=(s.size:Int)) && decide ((s.size:Int)<=32)) (fun i c hc=>?_) ?_).trans ?_
 ·have h1:=Il hc
  rw [S2] at h1
  show Cg.l1 s (i:Int)=_
  unfold Cg.l1 Cg.j2 chS
  rw [Er hc,U7 h1 hs]
  by_cases a:(c.toNat:Int)<=32
  ·rw [aBe a,aBv (show ¬ (33:Int)<=(c.toNat:Int) by omega)]; rfl
  ·rw [aBv a,aBe (show (33:Int)<=(c.toNat:Int) by omega)]
   by_cases b:126 < (c.toNat:Int)
   ·rw [aBe b,aBv (by omega)]; rfl
   ·rw [aBv b,aBe (by omega)]; rfl
 ·show Cg.l1 s ((Hq s).length:Int)=_
  unfold Cg.l1
  rw [De]
  by_cases a:(1:Int)<=(s.size:Int) <;> simp [a,up]
 ·cases (Hq s).any fun c=>!chS c <;> simp
theorem Pt (s:ByteArray) (hs:s.size<=9223372036854775807):Cj s=some (Es s):=by
 unfold Cj Es
 have hl:Cj.j1 s false=some (!(Hq s).any fun c=>!chS c):=by
  unfold Cj.j1
  rw [aCv]
  refine (Rl (body:=fun q'=>Cj.l2 s q') (Hq s) (fun i=>(i:Int)) (fun c=>!chS c) false true (fun i c hc=>?_) ?_).trans ?_
  ·have h1:=Il hc
   rw [S2] at h1
   show Cj.l2 s (i:Int)=_
   unfold Cj.l2 Cj.j3 chS
   rw [aBe (by omega),aDb,qH hc,aAc,aAc,U7 h1 hs]
   by_cases a:(c.toNat:Int) < 33
   ·rw [aBe a,aBv (show ¬ (33:Int)<=(c.toNat:Int) by omega)]; rfl
   ·rw [aBv a,aBe (show (33:Int)<=(c.toNat:Int) by omega)]
    by_cases b:126 < (c.toNat:Int)
    ·rw [aBe b,aBv (by omega)]; rfl
    ·rw [aBv b,aBe (by omega)]; rfl
  ·show Cj.l2 s ((Hq s).length:Int)=_
   unfold Cj.l2
   rw [S2,De]; rfl
  ·cases (Hq s).any fun c=>!chS c <;> rfl
 by_cases a:(s.size:Int) < 1
 ·rw [aBe a,aBv (show ¬ (1:Int)<=(s.size:Int) by omega)]; rfl
 ·rw [aBv a,aBe (show (1:Int)<=(s.size:Int) by omega),aCv]
  by_cases b:32 < (s.size:Int)
  ·rw [aBe b,aBv (by omega)]; rfl
  ·rw [aBv b,aBe (by omega),hl]; simp
def gW (l:List ByteArray) (i:Nat):Bool:=!Es (l.getD i ⟨#[]⟩) || (decide (0 < i) && !Mc (Hq (l.getD (i - 1) ⟨#[]⟩)) (Hq (l.getD i ⟨#[]⟩)))
def M8 (l:List ByteArray):Bool:=!(List.range l.length).any (gW l)
theorem Xi {α:Type} {l:List α} {i:Nat} {x d:α} (h:l[i]?=some x):l.getD i d=x:=by
 rw [aP4,h]; rfl
theorem mY (l:List ByteArray) (hl:l.length<=9223372036854775807) (hs:∀ s∈l,s.size<=9223372036854775807):Ce l=some (M8 l && decide ((l.length:Int)<=8)):=by
 unfold Ce M8
 refine (X7 (body:=fun q'=>Ce.l1 l q') l.length (fun i=>(i:Int)) (gW l) false (decide ((l.length:Int)<=8)) (fun i hi=>?_) ?_).trans ?_
 ·obtain⟨s,hx⟩:∃ s,l[i]?=some s:=⟨_,aBx hi⟩
  show Ce.l1 l (i:Int)=_
  unfold Ce.l1 gW
  rw [Er hx,Kx s (hs s (Dv hx)),aAc,Xi hx]
  cases hn:Es s with
  | false=>rfl
  | true=>
   rw [aLb,aCv,Bool.false_or]
   cases i with
   | zero=>rfl
   | succ i=>
    obtain⟨p,hp⟩:∃ p,l[i]?=some p:=⟨_,aBx (by omega)⟩
    rw [aBe (by omega),aDb,Dz (by omega),show ((i + 1:Nat):Int) - 1=(i:Int) by omega,Dr,hp,aAc,show i + 1 - 1=i from rfl,Xi hp,aBe (by omega),aP9]
    unfold Ce.j2
    rw [U7 (n:=l.length) (by omega) hl]
    cases Mc (Hq p) (Hq s) <;> rfl
 ·show Ce.l1 l (l.length:Int)=_
  unfold Ce.l1
  rw [De]; rfl
 ·cases (List.range l.length).any (gW l) <;> rfl
end
section
open Go
def O7 (u:Aq) (k:Int):Bool:=decide (0 < N9 u) && decide (Oi u.Alg=k)
def Wy (c:Ah):List Bool:=[decide (c.Serial < 0),decide (1099511627776 < c.Serial),!Es c.Issuer,!Es c.Subject,!M8 c.Names,decide (8 < (c.Names.length:Int)),!O7 c.Key 2,decide (c.KeyId < 0),decide (2147483648 < c.KeyId),!O7 c.Hash 1,decide (c.Seal.Key < 0),decide (2147483648 < c.Seal.Key),decide (c.Seal.Sum < 0),decide (4294967296<=c.Seal.Sum),decide (c.From < 0),decide (c.To < c.From),decide (40000 < c.To),decide (c.Path < 0),decide (8 < c.Path),!c.Authority && !decide (c.Path=0)]
def Gu (c:Ah):Bool:=!(Wy c).any id
structure Rc (c:Ah):Prop where
 names:c.Names.length < 1000000000
 name:∀ s∈c.Names,s.size<=9223372036854775807
 issuer:c.Issuer.size<=9223372036854775807
 subject:c.Subject.size<=9223372036854775807
 ints:∀ n∈[c.Serial,c.Key.Alg,c.Key.Bits,c.KeyId,c.Hash.Alg,c.Hash.Bits,c.From,c.To,c.Path,c.Seal.Key,c.Seal.Sum],-9223372036854775808<=n/\n<=9223372036854775807
structure bA (c:Ah):Prop where
 names:c.Names.length<=9223372036854775807
 name:∀ s∈c.Names,s.size<=9223372036854775807
 issuer:c.Issuer.size<=9223372036854775807
 subject:c.Subject.size<=9223372036854775807
theorem Rc.w {c:Ah} (h:Rc c):bA c:=⟨by have:=h.names; omega,h.name,h.issuer,h.subject⟩
theorem xO (u:Aq) (k:Int):In u k=some (O7 u k):=by
 unfold In O7
 rw [Pb,Tw,aAc]
 cases decide (0 < N9 u) <;> rfl
theorem Vu (u:Aq):Fp u=some (O7 u 2):=by
 unfold Fp O7
 rw [Sl,Wl,aAc]
 cases decide (0 < N9 u) <;> rfl
theorem aK (n:Int):Fv n=some (!(decide (n < 0) || decide (2147483648 < n))):=by
 unfold Fv
 by_cases a:n < 0
 ·rw [aBe a,aBv (show ¬ 0<=n by omega)]; rfl
 ·rw [aBv a,aBe (show 0<=n by omega)]
  by_cases b:n<=2147483648
  ·rw [aBe b,aBv (show ¬ 2147483648 < n by omega)]; rfl
  ·rw [aBv b,aBe (show 2147483648 < n by omega)]; rfl
theorem aAp (n:Int):Jo n=some (!(decide (n < 0) || decide (4294967296<=n))):=by
 unfold Jo
 by_cases a:n < 0
 ·rw [aBe a,aBv (show ¬ 0<=n by omega)]; rfl
 ·rw [aBv a,aBe (show 0<=n by omega)]
  by_cases b:n < 4294967296
  ·rw [aBe b,aBv (show ¬ 4294967296<=n by omega)]; rfl
  ·rw [aBv b,aBe (show 4294967296<=n by omega)]; rfl
theorem aL7 (n:Nat):decide ((n:Int)<=8)=!decide (8 < (n:Int)):=by
 by_cases h:(n:Int)<=8
 ·rw [aBe h,aBv (by omega)]; rfl
 ·rw [aBv h,aBe (by omega)]; rfl
theorem aAk (c:Ah):Bj.j3 c false=some (!(decide (c.Path < 0) || decide (8 < c.Path) || (!c.Authority && !decide (c.Path=0)))):=by
 unfold Bj.j3
 by_cases a:c.Path < 0
 ·rw [aBe a,aBv (show ¬ 0<=c.Path by omega)]; rfl
 ·rw [aBv a,aBe (show 0<=c.Path by omega)]
  by_cases b:c.Path<=8
  ·rw [aBe b,aBv (show ¬ 8 < c.Path by omega)]
   cases c.Authority <;> simp
  ·rw [aBv b,aBe (show 8 < c.Path by omega)]; rfl
theorem xJ (c:Ah) (x:Bool):Bj.j3 c x=some (!(x || decide (c.Path < 0) || decide (8 < c.Path) || (!c.Authority && !decide (c.Path=0)))):=by
 cases x
 ·rw [aAk]; simp
 ·simp [Bj.j3]
theorem nL (c:Ah) (h:bA c):Bj c=some (Gu c):=by
 unfold Bj Bj.j1 Bj.j2
 simp only [xJ]
 rw [Kx _ h.issuer,Kx _ h.subject,mY _ h.names h.name,xO,aK,xO,aK,aAp,aL7]
 simp only [aAc]
 unfold Gu Wy
 simp only [aR2,aTf,id]
 generalize decide (c.Serial < 0)=b1
 cases b1
 case true=>simp
 generalize decide (1099511627776 < c.Serial)=b2
 cases b2
 case true=>simp
 generalize Es c.Issuer=b3
 cases b3
 case false=>simp
 generalize Es c.Subject=b4
 cases b4
 case false=>simp
 generalize M8 c.Names=b5
 cases b5
 case false=>simp
 generalize decide (8 < (c.Names.length:Int))=b6
 cases b6
 case true=>simp
 generalize O7 c.Key 2=b7
 cases b7
 case false=>simp
 generalize decide (c.KeyId < 0)=b8
 cases b8
 case true=>simp
 generalize decide (2147483648 < c.KeyId)=b9
 cases b9
 case true=>simp
 generalize O7 c.Hash 1=b10
 cases b10
 case false=>simp
 generalize decide (c.Seal.Key < 0)=b11
 cases b11
 case true=>simp
 generalize decide (2147483648 < c.Seal.Key)=b12
 cases b12
 case true=>simp
 generalize decide (c.Seal.Sum < 0)=b13
 cases b13
 case true=>simp
 generalize decide (4294967296<=c.Seal.Sum)=b14
 cases b14
 case true=>simp
 generalize decide (c.From < 0)=b15
 cases b15
 case true=>simp
 generalize decide (c.To < c.From)=b16
 cases b16
 case true=>simp
 generalize decide (40000 < c.To)=b17
 cases b17
 case true=>simp
 generalize decide (c.Path < 0)=b18
 generalize decide (8 < c.Path)=b19
 generalize decide (c.Path=0)=b20
 cases b18 <;> cases b19 <;> cases b20 <;> simp
end
section
open Go
def Xj (c:Ah):Bool:=decide (c.Seal.Key < 0) || (decide (2147483648 < c.Seal.Key) || (decide (c.Seal.Sum < 0) || decide (4294967296<=c.Seal.Sum)))
theorem aE9 (c:Ah) (h:bA c) (x:Bool):A8.j3 c x=some (bif (x || !M8 c.Names || Xj c) then 9 else 0):=by
 cases x
 ·unfold A8.j3
  rw [aCv]
  refine (X7 (body:=fun q'=>A8.l4 c q') c.Names.length (fun i=>(i:Int)) (gW c.Names) 9 (bif Xj c then 9 else 0) (fun i hi=>?_) ?_).trans ?_
  ·obtain⟨s,hx⟩:∃ s,c.Names[i]?=some s:=⟨_,aBx hi⟩
   have hN:=h.names
   show A8.l4 c (i:Int)=_
   unfold A8.l4 gW
   rw [Er hx,Pt s (h.name s (Dv hx)),aAc,Xi hx]
   cases hn:Es s with
   | false=>rfl
   | true=>
    rw [aLb,aCv,Bool.false_or]
    cases i with
    | zero=>rfl
    | succ i=>
     obtain⟨p,hp⟩:∃ p,c.Names[i]?=some p:=⟨_,aBx (by omega)⟩
     rw [aBe (by omega),aDb,Dz (by omega),show ((i + 1:Nat):Int) - 1=(i:Int) by omega,Dr,hp,aAc,show i + 1 - 1=i from rfl,Xi hp,aBe (by omega),aP9]
     unfold A8.j5
     rw [U7 (n:=c.Names.length) (by omega) hN]
     cases Mc (Hq p) (Hq s) <;> rfl
  ·show A8.l4 c (c.Names.length:Int)=_
   unfold A8.l4 A8.j6 Xj
   rw [De]
   cases decide (c.Seal.Key < 0) <;> cases decide (2147483648 < c.Seal.Key) <;> cases decide (c.Seal.Sum < 0) <;> cases decide (4294967296<=c.Seal.Sum) <;> rfl
  ·unfold M8
   cases (List.range c.Names.length).any (gW c.Names) <;> cases Xj c <;> rfl
 ·rfl
theorem cU (c:Ah) (h:bA c):A8 c=some (bif Gu c then 0 else 9):=by
 unfold A8 A8.j1 A8.j2
 simp only [aE9 c h]
 rw [Pt _ h.issuer,Pt _ h.subject,Vu,Sl,Wl]
 simp only [aAc]
 unfold Gu Wy Xj
 simp only [aR2,aTf,id]
 have hu:O7 c.Hash 1=(decide (0 < N9 c.Hash) && decide (Oi c.Hash.Alg=1)):=rfl
 rw [hu]
 generalize decide (c.Serial < 0)=b1
 cases b1
 case true=>simp
 generalize decide (1099511627776 < c.Serial)=b2
 cases b2
 case true=>simp
 generalize Es c.Issuer=b3
 cases b3
 case false=>simp
 generalize Es c.Subject=b4
 cases b4
 case false=>simp
 generalize O7 c.Key 2=b7
 cases b7
 case false=>simp
 generalize decide (c.KeyId < 0)=b8
 cases b8
 case true=>simp
 generalize decide (2147483648 < c.KeyId)=b9
 cases b9
 case true=>simp
 generalize decide (0 < N9 c.Hash)=b10
 cases b10
 case false=>simp
 generalize decide (Oi c.Hash.Alg=1)=b10'
 cases b10'
 case false=>simp
 generalize decide (c.From < 0)=b15
 cases b15
 case true=>simp
 generalize decide (c.To < c.From)=b16
 cases b16
 case true=>simp
 generalize decide (40000 < c.To)=b17
 cases b17
 case true=>simp
 generalize decide (c.Path < 0)=b18
 cases b18
 case true=>simp
 generalize decide (8 < c.Path)=b19
 cases b19
 case true=>simp
 generalize decide (c.Path=0)=b20
 generalize c.Authority=b21
 generalize decide (8 < (c.Names.length:Int))=b6
 generalize M8 c.Names=b5
 cases b20 <;> cases b21 <;> cases b6 <;> cases b5 <;> simp <;> generalize decide (c.Seal.Key < 0)=b11 <;> generalize decide (2147483648 < c.Seal.Key)=b12 <;> generalize decide (c.Seal.Sum < 0)=b13 <;> generalize decide (4294967296<=c.Seal.Sum)=b14 <;> cases b11 <;> cases b12 <;> cases b13 <;> cases b14 <;> rfl
theorem fG (c:Ah) (h:Rc c):A8 c=some (bif Gu c then 0 else 9):=cU c h.w
end
end Go.Proofs.YtbpchmikjiinpaaGreat
