/- Plain texts, joined. No program is in sight here. -/
import Derived.Test.YtobamahlipiakaaGreatL3
import Derived.Test.YtobamahlipiakaaGreatP1
set_option linter.unusedVariables false
set_option linter.unusedSimpArgs false
namespace Go.Proofs.YtobamahlipiakaaGreat
section
open Go
def Gc (s b:Int):Int:=if b=0 then s else 0
def aGh (b:Int):Int:=if b < 1024 then 56 else if b < 2048 then 80 else if b < 3072 then 112 else if b < 7680 then 128 else if b < 15360 then 192 else 256
def Hb (b:Int):Int:=if 512<=b/\b<=16384 then aGh b else 0
def Pv (b:Int):Int:=if b=160\/b=224\/b=256\/b=384\/b=521 then b / 2 else 0
def T7 (sizes strengths:List Int) (b:Int):Int:=match sizes.findIdx? (fun e=>decide (b=e)) with | some i=>strengths.getD i 0 | none=>0
def Jb:Nat->Int->Int
 | 1=>Gc 18
 | 2=>Gc 60
 | 3=>Gc 128
 | 4=>Gc 192
 | 5=>Hb
 | 6=>Hb
 | 7=>Pv
 | 8=>Gc 128
 | 9=>T7 [44,65,87] [128,192,256]
 | 10=>Hb
 | 11=>Hb
 | 12=>Pv
 | 13=>T7 [512,768,1024] [128,192,256]
 | 14=>T7 [40,128] [40,60]
 | 15=>T7 [112,168] [80,112]
 | 16=>T7 [128,256] [128,256]
 | 17=>T7 [128,256] [128,256]
 | 18=>Gc 256
 | 19=>Gc 64
 | 20=>Gc 80
 | 21=>Gc 128
 | 22=>Gc 256
 | _=>fun _=>0
def aRq:Nat->Int
 | 1=>1
 | 2=>1
 | 3=>1
 | 4=>1
 | 5=>2
 | 6=>2
 | 7=>2
 | 8=>2
 | 9=>2
 | 10=>3
 | 11=>3
 | 12=>3
 | 13=>3
 | 14=>4
 | 15=>4
 | 16=>4
 | 17=>4
 | 18=>4
 | 19=>5
 | 20=>5
 | 21=>5
 | 22=>5
 | _=>0
def H8 (u:Ao):Int:=if 1<=u.Alg/\u.Alg<=22 then Jb u.Alg.toNat u.Bits else 0
def Ur (a:Int):Int:=if 1<=a/\a<=22 then aRq a.toNat else 0
theorem Hc (b:Int) (sizes strengths:List Int) (h:sizes.length=strengths.length) (hl:sizes.length < 1000000):Ck b sizes strengths=some (T7 sizes strengths b):=by
 unfold Ck T7
 refine (Qk (body:=fun q'=>Ck.l1 b sizes strengths q') sizes (fun i=>(i:Int)) (fun e=>decide (b=e)) (fun i=>strengths.getD i 0) 0 (fun i x hx=>?_) ?_).trans ?_
 ·have h1:=G3 hx
  show Ck.l1 b sizes strengths (i:Int)=_
  unfold Ck.l1
  rw [Dz hx,Ef,Fo (by omega)]
  have hs:strengths[i]?=some (strengths.getD i 0):=by
   rw [aR6,aCv (by omega)]; rfl
  by_cases e:b=x
  ·rw [aA4 e.symm,aA4 e,hs]; rfl
  ·rw [aAw (fun e'=>e e'.symm),aAw e]; rfl
 ·show Ck.l1 b sizes strengths (sizes.length:Int)=_
  unfold Ck.l1
  rw [Cy]; rfl
 ·rfl
theorem O9 (s:List Int) (v:Int) (hl:s.length < 4611686018427387904):Ch s v=some (match s.findIdx? (fun e=>decide (v=e)) with | some i=>(i:Int) | none=>-1):=by
 unfold Ch
 refine Qk (body:=fun q'=>Ch.l1 s v q') s (fun i=>(i:Int)) (fun e=>decide (v=e)) (fun i=>(i:Int)) (-1) (fun i x hx=>?_) ?_
 ·have h1:=G3 hx
  show Ch.l1 s v (i:Int)=_
  unfold Ch.l1
  rw [Dz hx,Fo (by omega)]
  cases decide (v=x) <;> rfl
 ·show Ch.l1 s v (s.length:Int)=_
  unfold Ch.l1
  rw [Cy]; rfl
theorem Mz (s:List Int) (v:Int) (hl:s.length < 4611686018427387904):Cz s v=some (decide (v∈s)):=by
 unfold Cz
 rw [O9 s v hl,aAg]
 cases h:s.findIdx? (fun e=>decide (v=e)) with
 | none=>
  have:=aYm.1 h
  have hn:¬ v∈s:=fun hm=>by have:=this v hm; simp at this
  rw [aAw hn]; rfl
 | some i=>
  have h2:=bBk (xs:=s) (p:=fun e=>decide (v=e))
  rw [h] at h2
  have:v∈s:=by
   have h3:=h2.symm
   rw [Option.isSome_some,aL5] at h3
   obtain⟨x,hx,e⟩:=h3
   rw [aEk e]; exact hx
  rw [aA4 this]
  simp
theorem dU (b:Int):Eh b=some (aGh b):=by
 have s0:Eh.l1 b 0=some (if b < 1024 then .done 56 else .next 1):=by
  by_cases h:b < 1024
  ·rw [if_pos h]; show cond (decide (b < 1024)) _ _=_; rw [aA4 h]; rfl
  ·rw [if_neg h]; show cond (decide (b < 1024)) _ _=_; rw [aAw h]; rfl
 have s1:Eh.l1 b 1=some (if b < 2048 then .done 80 else .next 2):=by
  by_cases h:b < 2048
  ·rw [if_pos h]; show cond (decide (b < 2048)) _ _=_; rw [aA4 h]; rfl
  ·rw [if_neg h]; show cond (decide (b < 2048)) _ _=_; rw [aAw h]; rfl
 have s2:Eh.l1 b 2=some (if b < 3072 then .done 112 else .next 3):=by
  by_cases h:b < 3072
  ·rw [if_pos h]; show cond (decide (b < 3072)) _ _=_; rw [aA4 h]; rfl
  ·rw [if_neg h]; show cond (decide (b < 3072)) _ _=_; rw [aAw h]; rfl
 have s3:Eh.l1 b 3=some (if b < 7680 then .done 128 else .next 4):=by
  by_cases h:b < 7680
  ·rw [if_pos h]; show cond (decide (b < 7680)) _ _=_; rw [aA4 h]; rfl
  ·rw [if_neg h]; show cond (decide (b < 7680)) _ _=_; rw [aAw h]; rfl
 have s4:Eh.l1 b 4=some (if b < 15360 then .done 192 else .next 5):=by
  by_cases h:b < 15360
  ·rw [if_pos h]; show cond (decide (b < 15360)) _ _=_; rw [aA4 h]; rfl
  ·rw [if_neg h]; show cond (decide (b < 15360)) _ _=_; rw [aAw h]; rfl
 have s5:Eh.l1 b 5=some (.done 256):=rfl
 unfold Eh aGh
 rw [Fj,s0]
 split
 ·rfl
 show Bz _ (1:Int)=_
 rw [Fj,s1]
 split
 ·rfl
 show Bz _ (2:Int)=_
 rw [Fj,s2]
 split
 ·rfl
 show Bz _ (3:Int)=_
 rw [Fj,s3]
 split
 ·rfl
 show Bz _ (4:Int)=_
 rw [Fj,s4]
 split
 ·rfl
 show Bz _ (5:Int)=_
 rw [Fj,s5]; rfl
theorem dO (b:Int):E6 b=some (Hb b):=by
 unfold E6 E6.j1 Hb aGh
 by_cases h1:b < 512
 ·rw [aA4 h1,if_neg (by omega)]; rfl
 ·by_cases h2:16384 < b
  ·rw [aAw h1,aA4 h2,if_neg (by omega)]; rfl
  ·rw [aAw h1,aAw h2,if_pos (by omega)]
   simp only [aDb]
   by_cases a:b < 1024
   ·simp [a]
   by_cases a2:b < 2048
   ·simp [a,a2]
   by_cases a3:b < 3072
   ·simp [a,a2,a3]
   by_cases a4:b < 7680
   ·simp [a,a2,a3,a4]
   by_cases a5:b < 15360 <;> simp [a,a2,a3,a4,a5]
theorem aRv (b:Int):A9 ⟨1,b⟩=some (Jb 1 b):=by
 show cond (decide (b=0)) (some 18) (some 0)=some (Gc 18 b)
 unfold Gc
 by_cases h:b=0 <;> simp [h]
theorem aQ1 (b:Int):A1 ⟨1,b⟩=some (Jb 1 b):=by
 show (Ck b [0] [18]).bind (fun y_8=>some y_8)=some (Gc 18 b)
 rw [Hc b [0] [18] rfl (by decide)]
 unfold T7 Gc
 by_cases h:b=0 <;> simp [h]
theorem aPd (b:Int):A9 ⟨2,b⟩=some (Jb 2 b):=by
 show cond (decide (b=0)) (some 60) (some 0)=some (Gc 60 b)
 unfold Gc
 by_cases h:b=0 <;> simp [h]
theorem aQm (b:Int):A1 ⟨2,b⟩=some (Jb 2 b):=by
 show (Ck b [0] [60]).bind (fun y_8=>some y_8)=some (Gc 60 b)
 rw [Hc b [0] [60] rfl (by decide)]
 unfold T7 Gc
 by_cases h:b=0 <;> simp [h]
theorem aO6 (b:Int):A9 ⟨3,b⟩=some (Jb 3 b):=by
 show cond (decide (b=0)) (some 128) (some 0)=some (Gc 128 b)
 unfold Gc
 by_cases h:b=0 <;> simp [h]
theorem aP9 (b:Int):A1 ⟨3,b⟩=some (Jb 3 b):=by
 show (Ck b [0] [128]).bind (fun y_8=>some y_8)=some (Gc 128 b)
 rw [Hc b [0] [128] rfl (by decide)]
 unfold T7 Gc
 by_cases h:b=0 <;> simp [h]
theorem aP1 (b:Int):A9 ⟨4,b⟩=some (Jb 4 b):=by
 show cond (decide (b=0)) (some 192) (some 0)=some (Gc 192 b)
 unfold Gc
 by_cases h:b=0 <;> simp [h]
theorem aRl (b:Int):A1 ⟨4,b⟩=some (Jb 4 b):=by
 show (Ck b [0] [192]).bind (fun y_8=>some y_8)=some (Gc 192 b)
 rw [Hc b [0] [192] rfl (by decide)]
 unfold T7 Gc
 by_cases h:b=0 <;> simp [h]
theorem aQz (b:Int):A9 ⟨5,b⟩=some (Jb 5 b):=by
 show cond (decide (512<=b)) (A9.j1 ⟨5,b⟩ (decide (b<=16384))) (A9.j1 ⟨5,b⟩ false)=some (Hb b)
 unfold A9.j1 Hb
 rw [dU]
 by_cases h1:512<=b <;> by_cases h2:b<=16384 <;> simp [h1,h2]
theorem aPy (b:Int):A1 ⟨5,b⟩=some (Jb 5 b):=by
 show (E6 b).bind (fun y=>some y)=some (Hb b)
 rw [dO]; rfl
theorem aPa (b:Int):A9 ⟨6,b⟩=some (Jb 6 b):=by
 show cond (decide (512<=b)) (A9.j1 ⟨6,b⟩ (decide (b<=16384))) (A9.j1 ⟨6,b⟩ false)=some (Hb b)
 unfold A9.j1 Hb
 rw [dU]
 by_cases h1:512<=b <;> by_cases h2:b<=16384 <;> simp [h1,h2]
theorem aPk (b:Int):A1 ⟨6,b⟩=some (Jb 6 b):=by
 show (E6 b).bind (fun y=>some y)=some (Hb b)
 rw [dO]; rfl
theorem aRu (b:Int):A9 ⟨7,b⟩=some (Jb 7 b):=by
 show (Cz [160,224,256,384,521] b).bind (fun y_3=>cond y_3 ((Pm b 2).bind fun q=>some q) (some 0))=some (Pv b)
 rw [Mz _ _ (by decide)]
 unfold Pv
 by_cases h:b=160\/b=224\/b=256\/b=384\/b=521
 ·rw [if_pos h,aA4 (by simpa using h)]
  rcases h with h | h | h | h | h <;> (subst h; rfl)
 ·rw [if_neg h,aAw (by simpa using h)]; rfl
theorem aO3 (b:Int):A1 ⟨7,b⟩=some (Jb 7 b):=by
 show A1.j2 ⟨7,b⟩ true=some (Pv b)
 unfold A1.j2 A1.j3 Pv
 by_cases h:b=160\/b=224\/b=256\/b=384\/b=521
 ·rw [if_pos h]
  rcases h with h | h | h | h | h <;> (subst h; rfl)
 ·rw [if_neg h]
  have h1:¬ b=160:=by omega
  have h2:¬ b=224:=by omega
  have h3:¬ b=256:=by omega
  have h4:¬ b=384:=by omega
  have h5:¬ b=521:=by omega
  simp [h1,h2,h3,h4,h5]
theorem aQa (b:Int):A9 ⟨8,b⟩=some (Jb 8 b):=by
 show cond (decide (b=0)) (some 128) (some 0)=some (Gc 128 b)
 unfold Gc
 by_cases h:b=0 <;> simp [h]
theorem aO5 (b:Int):A1 ⟨8,b⟩=some (Jb 8 b):=by
 show (Ck b [0] [128]).bind (fun y_8=>some y_8)=some (Gc 128 b)
 rw [Hc b [0] [128] rfl (by decide)]
 unfold T7 Gc
 by_cases h:b=0 <;> simp [h]
theorem aQx (b:Int):A9 ⟨9,b⟩=some (Jb 9 b):=by
 show (Ch [44,65,87] b).bind (fun y_4=>cond (decide (0<=y_4)) ((Bm [128,192,256] y_4).bind fun e_2=>some e_2) (some 0))=some (T7 [44,65,87] [128,192,256] b)
 rw [O9 _ _ (by decide)]
 unfold T7
 cases h:List.findIdx? (fun e=>decide (b=e)) [44,65,87] with
 | none=>rfl
 | some i=>
  have hi:=(aL6.1 h).1
  have:i < 3:=hi
  rcases (by omega:i=0\/i=1\/i=2) with h | h | h <;> (subst h; rfl)
theorem aQu (b:Int):A1 ⟨9,b⟩=some (Jb 9 b):=by
 show (Ck b [44,65,87] [128,192,256]).bind (fun y=>some y)=some (T7 [44,65,87] [128,192,256] b)
 rw [Hc b [44,65,87] [128,192,256] rfl (by decide)]; rfl
theorem aNi (b:Int):A9 ⟨10,b⟩=some (Jb 10 b):=by
 show cond (decide (512<=b)) (A9.j1 ⟨10,b⟩ (decide (b<=16384))) (A9.j1 ⟨10,b⟩ false)=some (Hb b)
 unfold A9.j1 Hb
 rw [dU]
 by_cases h1:512<=b <;> by_cases h2:b<=16384 <;> simp [h1,h2]
theorem aL8 (b:Int):A1 ⟨10,b⟩=some (Jb 10 b):=by
 show (E6 b).bind (fun y=>some y)=some (Hb b)
 rw [dO]; rfl
theorem aLt (b:Int):A9 ⟨11,b⟩=some (Jb 11 b):=by
 show cond (decide (512<=b)) (A9.j1 ⟨11,b⟩ (decide (b<=16384))) (A9.j1 ⟨11,b⟩ false)=some (Hb b)
 unfold A9.j1 Hb
 rw [dU]
 by_cases h1:512<=b <;> by_cases h2:b<=16384 <;> simp [h1,h2]
theorem aKk (b:Int):A1 ⟨11,b⟩=some (Jb 11 b):=by
 show (E6 b).bind (fun y=>some y)=some (Hb b)
 rw [dO]; rfl
theorem aLn (b:Int):A9 ⟨12,b⟩=some (Jb 12 b):=by
 show (Cz [160,224,256,384,521] b).bind (fun y_3=>cond y_3 ((Pm b 2).bind fun q=>some q) (some 0))=some (Pv b)
 rw [Mz _ _ (by decide)]
 unfold Pv
 by_cases h:b=160\/b=224\/b=256\/b=384\/b=521
 ·rw [if_pos h,aA4 (by simpa using h)]
  rcases h with h | h | h | h | h <;> (subst h; rfl)
 ·rw [if_neg h,aAw (by simpa using h)]; rfl
theorem aKg (b:Int):A1 ⟨12,b⟩=some (Jb 12 b):=by
 show A1.j2 ⟨12,b⟩ true=some (Pv b)
 unfold A1.j2 A1.j3 Pv
 by_cases h:b=160\/b=224\/b=256\/b=384\/b=521
 ·rw [if_pos h]
  rcases h with h | h | h | h | h <;> (subst h; rfl)
 ·rw [if_neg h]
  have h1:¬ b=160:=by omega
  have h2:¬ b=224:=by omega
  have h3:¬ b=256:=by omega
  have h4:¬ b=384:=by omega
  have h5:¬ b=521:=by omega
  simp [h1,h2,h3,h4,h5]
theorem aKl (b:Int):A9 ⟨13,b⟩=some (Jb 13 b):=by
 show (Ch [512,768,1024] b).bind (fun y_4=>cond (decide (0<=y_4)) ((Bm [128,192,256] y_4).bind fun e_2=>some e_2) (some 0))=some (T7 [512,768,1024] [128,192,256] b)
 rw [O9 _ _ (by decide)]
 unfold T7
 cases h:List.findIdx? (fun e=>decide (b=e)) [512,768,1024] with
 | none=>rfl
 | some i=>
  have hi:=(aL6.1 h).1
  have:i < 3:=hi
  rcases (by omega:i=0\/i=1\/i=2) with h | h | h <;> (subst h; rfl)
theorem aNj (b:Int):A1 ⟨13,b⟩=some (Jb 13 b):=by
 show (Ck b [512,768,1024] [128,192,256]).bind (fun y=>some y)=some (T7 [512,768,1024] [128,192,256] b)
 rw [Hc b [512,768,1024] [128,192,256] rfl (by decide)]; rfl
theorem aNq (b:Int):A9 ⟨14,b⟩=some (Jb 14 b):=by
 show (Ch [40,128] b).bind (fun y_4=>cond (decide (0<=y_4)) ((Bm [40,60] y_4).bind fun e_2=>some e_2) (some 0))=some (T7 [40,128] [40,60] b)
 rw [O9 _ _ (by decide)]
 unfold T7
 cases h:List.findIdx? (fun e=>decide (b=e)) [40,128] with
 | none=>rfl
 | some i=>
  have hi:=(aL6.1 h).1
  have:i < 2:=hi
  rcases (by omega:i=0\/i=1) with h | h <;> (subst h; rfl)
theorem aMi (b:Int):A1 ⟨14,b⟩=some (Jb 14 b):=by
 show (Ck b [40,128] [40,60]).bind (fun y=>some y)=some (T7 [40,128] [40,60] b)
 rw [Hc b [40,128] [40,60] rfl (by decide)]; rfl
theorem aN4 (b:Int):A9 ⟨15,b⟩=some (Jb 15 b):=by
 show (Ch [112,168] b).bind (fun y_4=>cond (decide (0<=y_4)) ((Bm [80,112] y_4).bind fun e_2=>some e_2) (some 0))=some (T7 [112,168] [80,112] b)
 rw [O9 _ _ (by decide)]
 unfold T7
 cases h:List.findIdx? (fun e=>decide (b=e)) [112,168] with
 | none=>rfl
 | some i=>
  have hi:=(aL6.1 h).1
  have:i < 2:=hi
  rcases (by omega:i=0\/i=1) with h | h <;> (subst h; rfl)
theorem aLg (b:Int):A1 ⟨15,b⟩=some (Jb 15 b):=by
 show (Ck b [112,168] [80,112]).bind (fun y=>some y)=some (T7 [112,168] [80,112] b)
 rw [Hc b [112,168] [80,112] rfl (by decide)]; rfl
theorem aOh (b:Int):A9 ⟨16,b⟩=some (Jb 16 b):=by
 show (Ch [128,256] b).bind (fun y_4=>cond (decide (0<=y_4)) ((Bm [128,256] y_4).bind fun e_2=>some e_2) (some 0))=some (T7 [128,256] [128,256] b)
 rw [O9 _ _ (by decide)]
 unfold T7
 cases h:List.findIdx? (fun e=>decide (b=e)) [128,256] with
 | none=>rfl
 | some i=>
  have hi:=(aL6.1 h).1
  have:i < 2:=hi
  rcases (by omega:i=0\/i=1) with h | h <;> (subst h; rfl)
theorem aN6 (b:Int):A1 ⟨16,b⟩=some (Jb 16 b):=by
 show (Ck b [128,256] [128,256]).bind (fun y=>some y)=some (T7 [128,256] [128,256] b)
 rw [Hc b [128,256] [128,256] rfl (by decide)]; rfl
theorem aLh (b:Int):A9 ⟨17,b⟩=some (Jb 17 b):=by
 show (Ch [128,256] b).bind (fun y_4=>cond (decide (0<=y_4)) ((Bm [128,256] y_4).bind fun e_2=>some e_2) (some 0))=some (T7 [128,256] [128,256] b)
 rw [O9 _ _ (by decide)]
 unfold T7
 cases h:List.findIdx? (fun e=>decide (b=e)) [128,256] with
 | none=>rfl
 | some i=>
  have hi:=(aL6.1 h).1
  have:i < 2:=hi
  rcases (by omega:i=0\/i=1) with h | h <;> (subst h; rfl)
theorem aKj (b:Int):A1 ⟨17,b⟩=some (Jb 17 b):=by
 show (Ck b [128,256] [128,256]).bind (fun y=>some y)=some (T7 [128,256] [128,256] b)
 rw [Hc b [128,256] [128,256] rfl (by decide)]; rfl
theorem aMj (b:Int):A9 ⟨18,b⟩=some (Jb 18 b):=by
 show cond (decide (b=0)) (some 256) (some 0)=some (Gc 256 b)
 unfold Gc
 by_cases h:b=0 <;> simp [h]
theorem aOd (b:Int):A1 ⟨18,b⟩=some (Jb 18 b):=by
 show (Ck b [0] [256]).bind (fun y_8=>some y_8)=some (Gc 256 b)
 rw [Hc b [0] [256] rfl (by decide)]
 unfold T7 Gc
 by_cases h:b=0 <;> simp [h]
theorem aLu (b:Int):A9 ⟨19,b⟩=some (Jb 19 b):=by
 show cond (decide (b=0)) (some 64) (some 0)=some (Gc 64 b)
 unfold Gc
 by_cases h:b=0 <;> simp [h]
theorem aOa (b:Int):A1 ⟨19,b⟩=some (Jb 19 b):=by
 show (Ck b [0] [64]).bind (fun y_8=>some y_8)=some (Gc 64 b)
 rw [Hc b [0] [64] rfl (by decide)]
 unfold T7 Gc
 by_cases h:b=0 <;> simp [h]
theorem aL0 (b:Int):A9 ⟨20,b⟩=some (Jb 20 b):=by
 show cond (decide (b=0)) (some 80) (some 0)=some (Gc 80 b)
 unfold Gc
 by_cases h:b=0 <;> simp [h]
theorem aLd (b:Int):A1 ⟨20,b⟩=some (Jb 20 b):=by
 show (Ck b [0] [80]).bind (fun y_8=>some y_8)=some (Gc 80 b)
 rw [Hc b [0] [80] rfl (by decide)]
 unfold T7 Gc
 by_cases h:b=0 <;> simp [h]
theorem aMm (b:Int):A9 ⟨21,b⟩=some (Jb 21 b):=by
 show cond (decide (b=0)) (some 128) (some 0)=some (Gc 128 b)
 unfold Gc
 by_cases h:b=0 <;> simp [h]
theorem aLx (b:Int):A1 ⟨21,b⟩=some (Jb 21 b):=by
 show (Ck b [0] [128]).bind (fun y_8=>some y_8)=some (Gc 128 b)
 rw [Hc b [0] [128] rfl (by decide)]
 unfold T7 Gc
 by_cases h:b=0 <;> simp [h]
theorem aMx (b:Int):A9 ⟨22,b⟩=some (Jb 22 b):=by
 show cond (decide (b=0)) (some 256) (some 0)=some (Gc 256 b)
 unfold Gc
 by_cases h:b=0 <;> simp [h]
theorem aNe (b:Int):A1 ⟨22,b⟩=some (Jb 22 b):=by
 show (Ck b [0] [256]).bind (fun y_8=>some y_8)=some (Gc 256 b)
 rw [Hc b [0] [256] rfl (by decide)]
 unfold T7 Gc
 by_cases h:b=0 <;> simp [h]
theorem Wh {a:Int} (h:1<=a/\a<=22):a=1\/a=2\/a=3\/a=4\/a=5\/a=6\/a=7\/a=8\/a=9\/a=10\/a=11\/a=12\/a=13\/a=14\/a=15\/a=16\/a=17\/a=18\/a=19\/a=20\/a=21\/a=22:=by omega
theorem Zm (u:Ao):A9 u=some (H8 u):=by
 obtain⟨a,b⟩:=u
 unfold H8
 by_cases h0:1<=a/\a<=22
 ·rw [if_pos h0]
  rcases Wh h0 with h | h | h | h | h | h | h | h | h | h | h | h | h | h | h | h | h | h | h | h | h | h <;> subst h
  ·exact aRv b
  ·exact aPd b
  ·exact aO6 b
  ·exact aP1 b
  ·exact aQz b
  ·exact aPa b
  ·exact aRu b
  ·exact aQa b
  ·exact aQx b
  ·exact aNi b
  ·exact aLt b
  ·exact aLn b
  ·exact aKl b
  ·exact aNq b
  ·exact aN4 b
  ·exact aOh b
  ·exact aLh b
  ·exact aMj b
  ·exact aLu b
  ·exact aL0 b
  ·exact aMm b
  ·exact aMx b
 ·rw [if_neg h0]
  unfold A9 Gb
  by_cases h1:a < 1
  ·simp [h1,Gb.j1]
  ·have h2:22 < a:=by omega
   simp [h1,h2,Gb.j1]
theorem Oq (u:Ao):A1 u=some (H8 u):=by
 obtain⟨a,b⟩:=u
 unfold H8
 by_cases h0:1<=a/\a<=22
 ·rw [if_pos h0]
  rcases Wh h0 with h | h | h | h | h | h | h | h | h | h | h | h | h | h | h | h | h | h | h | h | h | h <;> subst h
  ·exact aQ1 b
  ·exact aQm b
  ·exact aP9 b
  ·exact aRl b
  ·exact aPy b
  ·exact aPk b
  ·exact aO3 b
  ·exact aO5 b
  ·exact aQu b
  ·exact aL8 b
  ·exact aKk b
  ·exact aKg b
  ·exact aNj b
  ·exact aMi b
  ·exact aLg b
  ·exact aN6 b
  ·exact aKj b
  ·exact aOd b
  ·exact aOa b
  ·exact aLd b
  ·exact aLx b
  ·exact aNe b
 ·rw [if_neg h0]
  have h1:¬ a=1:=by omega
  have h2:¬ a=2:=by omega
  have h3:¬ a=3:=by omega
  have h4:¬ a=4:=by omega
  have h5:¬ a=5:=by omega
  have h6:¬ a=6:=by omega
  have h7:¬ a=7:=by omega
  have h8:¬ a=8:=by omega
  have h9:¬ a=9:=by omega
  have h10:¬ a=10:=by omega
  have h11:¬ a=11:=by omega
  have h12:¬ a=12:=by omega
  have h13:¬ a=13:=by omega
  have h14:¬ a=14:=by omega
  have h15:¬ a=15:=by omega
  have h16:¬ a=16:=by omega
  have h17:¬ a=17:=by omega
  have h18:¬ a=18:=by omega
  have h19:¬ a=19:=by omega
  have h20:¬ a=20:=by omega
  have h21:¬ a=21:=by omega
  have h22:¬ a=22:=by omega
  simp [A1,A1.j1,A1.j2,A1.j4,Ev,Ev.j1,Ev.j2,h1,h2,h3,h4,h5,h6,h7,h8,h9,h10,h11,h12,h13,h14,h15,h16,h17,h18,h19,h20,h21,h22]
  rw [Hc b [0] [0] rfl (by decide)]
  unfold T7
  by_cases h:b=0 <;> simp [h]
theorem gU (a:Int):I1 a=some (Ur a):=by
 unfold Ur
 by_cases h0:1<=a/\a<=22
 ·rw [if_pos h0]
  rcases Wh h0 with h | h | h | h | h | h | h | h | h | h | h | h | h | h | h | h | h | h | h | h | h | h <;> (subst h; rfl)
 ·rw [if_neg h0]
  unfold I1 Gb
  by_cases h1:a < 1
  ·simp [h1,Gb.j1]
  ·have h2:22 < a:=by omega
   simp [h1,h2,Gb.j1]
theorem gM (a:Int):Gj a=some (Ur a):=by
 unfold Ur
 by_cases h0:1<=a/\a<=22
 ·rw [if_pos h0]
  rcases Wh h0 with h | h | h | h | h | h | h | h | h | h | h | h | h | h | h | h | h | h | h | h | h | h <;> (subst h; rfl)
 ·rw [if_neg h0]
  unfold Gj
  by_cases h1:a < 1
  ·simp [h1,Gj.j1]
  ·have h2:22 < a:=by omega
   simp [h1,h2,Gj.j1]
theorem Sw (u:Ao):Hw u=some (decide (0 < H8 u)):=by unfold Hw; rw [Zm]; rfl
theorem V4 (u:Ao):It u=some (decide (0 < H8 u)):=by unfold It; rw [Oq]; rfl
end
section
open Go
theorem V3 {i n:Nat} (h:i < n) (hn:n<=9223372036854775807):W ((i:Int) + 1)=((i + 1:Nat):Int):=by
 rw [Ej (by omega)]; omega
theorem T3 (s:ByteArray):(Oz s).length=s.size:=by unfold Oz; rw [Array.length_toList]; rfl
theorem wY {s:ByteArray} {i:Nat} {c:UInt8} (h:(Oz s)[i]?=some c):oI s (i:Int)=some c:=by
 unfold oI
 rw [if_neg (by omega),aMr]
 unfold Oz at h
 rw [<- h]; simp
def chS (c:UInt8):Bool:=decide (33<=(c.toNat:Int)) && decide ((c.toNat:Int)<=126)
def Ha (s:ByteArray):Bool:=decide (1<=(s.size:Int)) && decide ((s.size:Int)<=32) && !(Oz s).any (fun c=>!chS c)
theorem S4 (s:ByteArray) (hs:s.size<=9223372036854775807):De s=some (Ha s):=by
 unfold De Ha
 refine (Qs (body:=fun q'=>De.l1 s q') (Oz s) (fun i=>(i:Int)) (fun c=>!chS c) false (decide (1<=(s.size:Int)) && decide ((s.size:Int)<=32)) (fun i c hc=>?_) ?_).trans ?_
 ·have h1:=G3 hc
  rw [T3] at h1
  show De.l1 s (i:Int)=_
  unfold De.l1 De.j2 chS
  rw [Dz hc,V3 h1 hs]
  by_cases a:(c.toNat:Int)<=32
  ·rw [aA4 a,aAw (show ¬ (33:Int)<=(c.toNat:Int) by omega)]; rfl
  ·rw [aAw a,aA4 (show (33:Int)<=(c.toNat:Int) by omega)]
   by_cases b:126 < (c.toNat:Int)
   ·rw [aA4 b,aAw (by omega)]; rfl
   ·rw [aAw b,aA4 (by omega)]; rfl
 ·show De.l1 s ((Oz s).length:Int)=_
  unfold De.l1
  rw [Cy]
  by_cases a:(1:Int)<=(s.size:Int) <;> simp [a,up]
 ·cases (Oz s).any fun c=>!chS c <;> simp
theorem Za (s:ByteArray) (hs:s.size<=9223372036854775807):Db s=some (Ha s):=by
 unfold Db Ha
 have hl:Db.j1 s false=some (!(Oz s).any fun c=>!chS c):=by
  unfold Db.j1
  rw [aDb]
  refine (Qs (body:=fun q'=>Db.l2 s q') (Oz s) (fun i=>(i:Int)) (fun c=>!chS c) false true (fun i c hc=>?_) ?_).trans ?_
  ·have h1:=G3 hc
   rw [T3] at h1
   show Db.l2 s (i:Int)=_
   unfold Db.l2 Db.j3 chS
   rw [aA4 (by omega),aEa,wY hc,aAg,aAg,V3 h1 hs]
   by_cases a:(c.toNat:Int) < 33
   ·rw [aA4 a,aAw (show ¬ (33:Int)<=(c.toNat:Int) by omega)]; rfl
   ·rw [aAw a,aA4 (show (33:Int)<=(c.toNat:Int) by omega)]
    by_cases b:126 < (c.toNat:Int)
    ·rw [aA4 b,aAw (by omega)]; rfl
    ·rw [aAw b,aA4 (by omega)]; rfl
  ·show Db.l2 s ((Oz s).length:Int)=_
   unfold Db.l2
   rw [T3,Cy]; rfl
  ·cases (Oz s).any fun c=>!chS c <;> rfl
 by_cases a:(s.size:Int) < 1
 ·rw [aA4 a,aAw (show ¬ (1:Int)<=(s.size:Int) by omega)]; rfl
 ·rw [aAw a,aA4 (show (1:Int)<=(s.size:Int) by omega),aDb]
  by_cases b:32 < (s.size:Int)
  ·rw [aA4 b,aAw (by omega)]; rfl
  ·rw [aAw b,aA4 (by omega),hl]; simp
def pE (l:List ByteArray) (i:Nat):Bool:=!Ha (l.getD i ⟨#[]⟩) || (decide (0 < i) && !ltT (Oz (l.getD (i - 1) ⟨#[]⟩)) (Oz (l.getD i ⟨#[]⟩)))
def Oi (l:List ByteArray):Bool:=!(List.range l.length).any (pE l)
theorem Ph {α:Type} {l:List α} {i:Nat} {x d:α} (h:l[i]?=some x):l.getD i d=x:=by
 rw [aR6,h]; rfl
theorem uQ (l:List ByteArray) (hl:l.length<=9223372036854775807) (hs:∀ s∈l,s.size<=9223372036854775807):Cs l=some (Oi l && decide ((l.length:Int)<=8)):=by
 unfold Cs Oi
 refine (Tc (body:=fun q'=>Cs.l1 l q') l.length (fun i=>(i:Int)) (pE l) false (decide ((l.length:Int)<=8)) (fun i hi=>?_) ?_).trans ?_
 ·obtain⟨s,hx⟩:∃ s,l[i]?=some s:=⟨_,aCv hi⟩
  show Cs.l1 l (i:Int)=_
  unfold Cs.l1 pE
  rw [Dz hx,S4 s (hs s (Fr hx)),aAg,Ph hx]
  cases hn:Ha s with
  | false=>rfl
  | true=>
   rw [aHl,aDb,aZk]
   cases i with
   | zero=>rfl
   | succ i=>
    obtain⟨p,hp⟩:∃ p,l[i]?=some p:=⟨_,aCv (by omega)⟩
    rw [aA4 (by omega),aEa,Ej (by omega),show ((i + 1:Nat):Int) - 1=(i:Int) by omega,Ef,hp,aAg,show i + 1 - 1=i from rfl,Ph hp,aA4 (by omega),aP5]
    unfold Cs.j2
    rw [V3 (n:=l.length) (by omega) hl]
    cases ltT (Oz p) (Oz s) <;> rfl
 ·show Cs.l1 l (l.length:Int)=_
  unfold Cs.l1
  rw [Cy]; rfl
 ·cases (List.range l.length).any (pE l) <;> rfl
end
section
open Go
def O8 (u:Ao) (k:Int):Bool:=decide (0 < H8 u) && decide (Ur u.Alg=k)
def Wr (c:Ae):List Bool:=[decide (c.Serial < 0),decide (1099511627776 < c.Serial),!Ha c.Issuer,!Ha c.Subject,!Oi c.Names,decide (8 < (c.Names.length:Int)),!O8 c.Key 2,decide (c.KeyId < 0),decide (2147483648 < c.KeyId),!O8 c.Hash 1,decide (c.Seal.Key < 0),decide (2147483648 < c.Seal.Key),decide (c.Seal.Sum < 0),decide (4294967296<=c.Seal.Sum),decide (c.From < 0),decide (c.To < c.From),decide (40000 < c.To),decide (c.Path < 0),decide (8 < c.Path),!c.Authority && !decide (c.Path=0)]
def F6 (c:Ae):Bool:=!(Wr c).any id
structure Nl (c:Ae):Prop where
 names:c.Names.length < 1000000000
 name:∀ s∈c.Names,s.size<=9223372036854775807
 issuer:c.Issuer.size<=9223372036854775807
 subject:c.Subject.size<=9223372036854775807
 ints:∀ n∈[c.Serial,c.Key.Alg,c.Key.Bits,c.KeyId,c.Hash.Alg,c.Hash.Bits,c.From,c.To,c.Path,c.Seal.Key,c.Seal.Sum],-9223372036854775808<=n/\n<=9223372036854775807
structure cR (c:Ae):Prop where
 names:c.Names.length<=9223372036854775807
 name:∀ s∈c.Names,s.size<=9223372036854775807
 issuer:c.Issuer.size<=9223372036854775807
 subject:c.Subject.size<=9223372036854775807
theorem Nl.w {c:Ae} (h:Nl c):cR c:=⟨by have:=h.names; omega,h.name,h.issuer,h.subject⟩
theorem aFn (u:Ao) (k:Int):Ix u k=some (O8 u k):=by
 unfold Ix O8
 rw [Sw,gU,aAg]
 cases decide (0 < H8 u) <;> rfl
theorem W7 (u:Ao):Ib u=some (O8 u 2):=by
 unfold Ib O8
 rw [V4,gM,aAg]
 cases decide (0 < H8 u) <;> rfl
theorem dW (n:Int):Eg n=some (!(decide (n < 0) || decide (2147483648 < n))):=by
 unfold Eg
 by_cases a:n < 0
 ·rw [aA4 a,aAw (show ¬ 0<=n by omega)]; rfl
 ·rw [aAw a,aA4 (show 0<=n by omega)]
  by_cases b:n<=2147483648
  ·rw [aA4 b,aAw (show ¬ 2147483648 < n by omega)]; rfl
  ·rw [aAw b,aA4 (show 2147483648 < n by omega)]; rfl
theorem aI0 (n:Int):Jx n=some (!(decide (n < 0) || decide (4294967296<=n))):=by
 unfold Jx
 by_cases a:n < 0
 ·rw [aA4 a,aAw (show ¬ 0<=n by omega)]; rfl
 ·rw [aAw a,aA4 (show 0<=n by omega)]
  by_cases b:n < 4294967296
  ·rw [aA4 b,aAw (show ¬ 4294967296<=n by omega)]; rfl
  ·rw [aAw b,aA4 (show 4294967296<=n by omega)]; rfl
theorem aS0 (n:Nat):decide ((n:Int)<=8)=!decide (8 < (n:Int)):=by
 by_cases h:(n:Int)<=8
 ·rw [aA4 h,aAw (by omega)]; rfl
 ·rw [aAw h,aA4 (by omega)]; rfl
theorem aIb (c:Ae):Bj.j3 c false=some (!(decide (c.Path < 0) || decide (8 < c.Path) || (!c.Authority && !decide (c.Path=0)))):=by
 unfold Bj.j3
 by_cases a:c.Path < 0
 ·rw [aA4 a,aAw (show ¬ 0<=c.Path by omega)]; rfl
 ·rw [aAw a,aA4 (show 0<=c.Path by omega)]
  by_cases b:c.Path<=8
  ·rw [aA4 b,aAw (show ¬ 8 < c.Path by omega)]
   cases c.Authority <;> simp
  ·rw [aAw b,aA4 (show 8 < c.Path by omega)]; rfl
theorem aEo (c:Ae) (x:Bool):Bj.j3 c x=some (!(x || decide (c.Path < 0) || decide (8 < c.Path) || (!c.Authority && !decide (c.Path=0)))):=by
 cases x
 ·rw [aIb]; simp
 ·simp [Bj.j3]
theorem iD (c:Ae) (h:cR c):Bj c=some (F6 c):=by
 unfold Bj Bj.j1 Bj.j2
 simp only [aEo]
 rw [S4 _ h.issuer,S4 _ h.subject,uQ _ h.names h.name,aFn,dW,aFn,dW,aI0,aS0]
 simp only [aAg]
 unfold F6 Wr
 simp only [aS9,bBh,id]
 generalize decide (c.Serial < 0)=b1
 cases b1
 case true=>simp
 generalize decide (1099511627776 < c.Serial)=b2
 cases b2
 case true=>simp
 generalize Ha c.Issuer=b3
 cases b3
 case false=>simp
 generalize Ha c.Subject=b4
 cases b4
 case false=>simp
 generalize Oi c.Names=b5
 cases b5
 case false=>simp
 generalize decide (8 < (c.Names.length:Int))=b6
 cases b6
 case true=>simp
 generalize O8 c.Key 2=b7
 cases b7
 case false=>simp
 generalize decide (c.KeyId < 0)=b8
 cases b8
 case true=>simp
 generalize decide (2147483648 < c.KeyId)=b9
 cases b9
 case true=>simp
 generalize O8 c.Hash 1=b10
 cases b10
 case false=>simp
 generalize decide (c.Seal.Key < 0)=b11
 cases b11
 case true=>simp
 generalize decide (2147483648 < c.Seal.Key)=b12
 cases b12
 case true=>simp
 generalize decide (c.Seal.Sum < 0)=b13
 cases b13
 case true=>simp
 generalize decide (4294967296<=c.Seal.Sum)=b14
 cases b14
 case true=>simp
 generalize decide (c.From < 0)=b15
 cases b15
 case true=>simp
 generalize decide (c.To < c.From)=b16
 cases b16
 case true=>simp
 generalize decide (40000 < c.To)=b17
 cases b17
 case true=>simp
 generalize decide (c.Path < 0)=b18
 generalize decide (8 < c.Path)=b19
 generalize decide (c.Path=0)=b20
 cases b18 <;> cases b19 <;> cases b20 <;> simp
theorem kY (c:Ae) (h:Nl c):Bj c=some (F6 c):=iD c h.w
end
section
open Go
def Y0 (c:Ae):Bool:=decide (c.Seal.Key < 0) || (decide (2147483648 < c.Seal.Key) || (decide (c.Seal.Sum < 0) || decide (4294967296<=c.Seal.Sum)))
theorem aKu (c:Ae) (h:cR c) (x:Bool):Bb.j3 c x=some (bif (x || !Oi c.Names || Y0 c) then 9 else 0):=by
 cases x
 ·unfold Bb.j3
  rw [aDb]
  refine (Tc (body:=fun q'=>Bb.l4 c q') c.Names.length (fun i=>(i:Int)) (pE c.Names) 9 (bif Y0 c then 9 else 0) (fun i hi=>?_) ?_).trans ?_
  ·obtain⟨s,hx⟩:∃ s,c.Names[i]?=some s:=⟨_,aCv hi⟩
   have hN:=h.names
   show Bb.l4 c (i:Int)=_
   unfold Bb.l4 pE
   rw [Dz hx,Za s (h.name s (Fr hx)),aAg,Ph hx]
   cases hn:Ha s with
   | false=>rfl
   | true=>
    rw [aHl,aDb,aZk]
    cases i with
    | zero=>rfl
    | succ i=>
     obtain⟨p,hp⟩:∃ p,c.Names[i]?=some p:=⟨_,aCv (by omega)⟩
     rw [aA4 (by omega),aEa,Ej (by omega),show ((i + 1:Nat):Int) - 1=(i:Int) by omega,Ef,hp,aAg,show i + 1 - 1=i from rfl,Ph hp,aA4 (by omega),aP5]
     unfold Bb.j5
     rw [V3 (n:=c.Names.length) (by omega) hN]
     cases ltT (Oz p) (Oz s) <;> rfl
  ·show Bb.l4 c (c.Names.length:Int)=_
   unfold Bb.l4 Bb.j6 Y0
   rw [Cy]
   cases decide (c.Seal.Key < 0) <;> cases decide (2147483648 < c.Seal.Key) <;> cases decide (c.Seal.Sum < 0) <;> cases decide (4294967296<=c.Seal.Sum) <;> rfl
  ·unfold Oi
   cases (List.range c.Names.length).any (pE c.Names) <;> cases Y0 c <;> rfl
 ·rfl
theorem fK (c:Ae) (h:cR c):Bb c=some (bif F6 c then 0 else 9):=by
 unfold Bb Bb.j1 Bb.j2
 simp only [aKu c h]
 rw [Za _ h.issuer,Za _ h.subject,W7,V4,gM]
 simp only [aAg]
 unfold F6 Wr Y0
 simp only [aS9,bBh,id]
 have hu:O8 c.Hash 1=(decide (0 < H8 c.Hash) && decide (Ur c.Hash.Alg=1)):=rfl
 rw [hu]
 generalize decide (c.Serial < 0)=b1
 cases b1
 case true=>simp
 generalize decide (1099511627776 < c.Serial)=b2
 cases b2
 case true=>simp
 generalize Ha c.Issuer=b3
 cases b3
 case false=>simp
 generalize Ha c.Subject=b4
 cases b4
 case false=>simp
 generalize O8 c.Key 2=b7
 cases b7
 case false=>simp
 generalize decide (c.KeyId < 0)=b8
 cases b8
 case true=>simp
 generalize decide (2147483648 < c.KeyId)=b9
 cases b9
 case true=>simp
 generalize decide (0 < H8 c.Hash)=b10
 cases b10
 case false=>simp
 generalize decide (Ur c.Hash.Alg=1)=b10'
 cases b10'
 case false=>simp
 generalize decide (c.From < 0)=b15
 cases b15
 case true=>simp
 generalize decide (c.To < c.From)=b16
 cases b16
 case true=>simp
 generalize decide (40000 < c.To)=b17
 cases b17
 case true=>simp
 generalize decide (c.Path < 0)=b18
 cases b18
 case true=>simp
 generalize decide (8 < c.Path)=b19
 cases b19
 case true=>simp
 generalize decide (c.Path=0)=b20
 generalize c.Authority=b21
 generalize decide (8 < (c.Names.length:Int))=b6
 generalize Oi c.Names=b5
 cases b20 <;> cases b21 <;> cases b6 <;> cases b5 <;> simp <;> generalize decide (c.Seal.Key < 0)=b11 <;> generalize decide (2147483648 < c.Seal.Key)=b12 <;> generalize decide (c.Seal.Sum < 0)=b13 <;> generalize decide (4294967296<=c.Seal.Sum)=b14 <;> cases b11 <;> cases b12 <;> cases b13 <;> cases b14 <;> rfl
theorem Z3 (c:Ae) (h:Nl c):Bb c=some (bif F6 c then 0 else 9):=fK c h.w
end
end Go.Proofs.YtobamahlipiakaaGreat
