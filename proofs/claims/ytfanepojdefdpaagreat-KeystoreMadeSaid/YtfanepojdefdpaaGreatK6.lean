/- Plain texts, joined. No program is in sight here. -/
import Derived.Test.YtfanepojdefdpaaGreatL3
import Derived.Test.YtfanepojdefdpaaGreatP1
import Derived.Test.YtfanepojdefdpaaGreatD8
set_option linter.unusedVariables false
set_option linter.unusedSimpArgs false
namespace Go.Proofs.YtfanepojdefdpaaGreat
section
open Go
def Ds (s b:Int):Int:=if b=0 then s else 0
def kW (b:Int):Int:=if b < 1024 then 56 else if b < 2048 then 80 else if b < 3072 then 112 else if b < 7680 then 128 else if b < 15360 then 192 else 256
def Er (b:Int):Int:=if 512<=b/\b<=16384 then kW b else 0
def Jj (b:Int):Int:=if b=160\/b=224\/b=256\/b=384\/b=521 then b / 2 else 0
def Mf (sizes strengths:List Int) (b:Int):Int:=match sizes.findIdx? (fun e=>decide (b=e)) with | some i=>strengths.getD i 0 | none=>0
def F0:Nat->Int->Int
 | 1=>Ds 18
 | 2=>Ds 60
 | 3=>Ds 128
 | 4=>Ds 192
 | 5=>Er
 | 6=>Er
 | 7=>Jj
 | 8=>Ds 128
 | 9=>Mf [44,65,87] [128,192,256]
 | 10=>Er
 | 11=>Er
 | 12=>Jj
 | 13=>Mf [512,768,1024] [128,192,256]
 | 14=>Mf [40,128] [40,60]
 | 15=>Mf [112,168] [80,112]
 | 16=>Mf [128,256] [128,256]
 | 17=>Mf [128,256] [128,256]
 | 18=>Ds 256
 | 19=>Ds 64
 | 20=>Ds 80
 | 21=>Ds 128
 | 22=>Ds 256
 | _=>fun _=>0
def tF:Nat->Int
 | 1=>1
 | 2=>1
 | 3=>1
 | 4=>1
 | 5=>2
 | 6=>2
 | 7=>2
 | 8=>2
 | 9=>2
 | 10=>3
 | 11=>3
 | 12=>3
 | 13=>3
 | 14=>4
 | 15=>4
 | 16=>4
 | 17=>4
 | 18=>4
 | 19=>5
 | 20=>5
 | 21=>5
 | 22=>5
 | _=>0
def M8 (u:Ax):Int:=if 1<=u.Alg/\u.Alg<=22 then F0 u.Alg.toNat u.Bits else 0
def Rv (a:Int):Int:=if 1<=a/\a<=22 then tF a.toNat else 0
theorem Ev (b:Int) (sizes strengths:List Int) (h:sizes.length=strengths.length) (hl:sizes.length < 1000000):Bf b sizes strengths=some (Mf sizes strengths b):=by
 unfold Bf Mf
 refine (L5 (body:=fun q'=>Bf.l1 b sizes strengths q') sizes (fun i=>(i:Int)) (fun e=>decide (b=e)) (fun i=>strengths.getD i 0) 0 (fun i x hx=>?_) ?_).trans ?_
 ·have h1:=Jc hx
  show Bf.l1 b sizes strengths (i:Int)=_
  unfold Bf.l1
  rw [Dw hx,Ec,Du (by omega)]
  have hs:strengths[i]?=some (strengths.getD i 0):=by
   rw [yK,vJ (by omega)]; rfl
  by_cases e:b=x
  ·rw [vL e.symm,vL e,hs]; rfl
  ·rw [vK (fun e'=>e e'.symm),vK e]; rfl
 ·show Bf.l1 b sizes strengths (sizes.length:Int)=_
  unfold Bf.l1
  rw [Db]; rfl
 ·rfl
theorem I6 (s:List Int) (v:Int) (hl:s.length < 4611686018427387904):Bq s v=some (match s.findIdx? (fun e=>decide (v=e)) with | some i=>(i:Int) | none=>-1):=by
 unfold Bq
 refine L5 (body:=fun q'=>Bq.l1 s v q') s (fun i=>(i:Int)) (fun e=>decide (v=e)) (fun i=>(i:Int)) (-1) (fun i x hx=>?_) ?_
 ·have h1:=Jc hx
  show Bq.l1 s v (i:Int)=_
  unfold Bq.l1
  rw [Dw hx,Du (by omega)]
  cases decide (v=x) <;> rfl
 ·show Bq.l1 s v (s.length:Int)=_
  unfold Bq.l1
  rw [Db]; rfl
theorem Ql (s:List Int) (v:Int) (hl:s.length < 4611686018427387904):Dv s v=some (decide (v∈s)):=by
 unfold Dv
 rw [I6 s v hl,vI]
 cases h:s.findIdx? (fun e=>decide (v=e)) with
 | none=>
  have:=zP.1 h
  have hn:¬ v∈s:=fun hm=>by have:=this v hm; simp at this
  rw [vK hn]; rfl
 | some i=>
  have h2:=List.findIdx?_isSome (xs:=s) (p:=fun e=>decide (v=e))
  rw [h] at h2
  have:v∈s:=by
   have h3:=h2.symm
   rw [Option.isSome_some,wY] at h3
   obtain⟨x,hx,e⟩:=h3
   rw [xB e]; exact hx
  rw [vL this]
  simp
theorem S8 (b:Int):Ck b=some (kW b):=by
 have s0:Ck.l1 b 0=some (if b < 1024 then .done 56 else .next 1):=by
  by_cases h:b < 1024
  ·rw [if_pos h]; show cond (decide (b < 1024)) _ _=_; rw [vL h]; rfl
  ·rw [if_neg h]; show cond (decide (b < 1024)) _ _=_; rw [vK h]; rfl
 have s1:Ck.l1 b 1=some (if b < 2048 then .done 80 else .next 2):=by
  by_cases h:b < 2048
  ·rw [if_pos h]; show cond (decide (b < 2048)) _ _=_; rw [vL h]; rfl
  ·rw [if_neg h]; show cond (decide (b < 2048)) _ _=_; rw [vK h]; rfl
 have s2:Ck.l1 b 2=some (if b < 3072 then .done 112 else .next 3):=by
  by_cases h:b < 3072
  ·rw [if_pos h]; show cond (decide (b < 3072)) _ _=_; rw [vL h]; rfl
  ·rw [if_neg h]; show cond (decide (b < 3072)) _ _=_; rw [vK h]; rfl
 have s3:Ck.l1 b 3=some (if b < 7680 then .done 128 else .next 4):=by
  by_cases h:b < 7680
  ·rw [if_pos h]; show cond (decide (b < 7680)) _ _=_; rw [vL h]; rfl
  ·rw [if_neg h]; show cond (decide (b < 7680)) _ _=_; rw [vK h]; rfl
 have s4:Ck.l1 b 4=some (if b < 15360 then .done 192 else .next 5):=by
  by_cases h:b < 15360
  ·rw [if_pos h]; show cond (decide (b < 15360)) _ _=_; rw [vL h]; rfl
  ·rw [if_neg h]; show cond (decide (b < 15360)) _ _=_; rw [vK h]; rfl
 have s5:Ck.l1 b 5=some (.done 256):=rfl
 unfold Ck kW
 rw [E9,s0]
 split
 ·rfl
 show C5 _ (1:Int)=_
 rw [E9,s1]
 split
 ·rfl
 show C5 _ (2:Int)=_
 rw [E9,s2]
 split
 ·rfl
 show C5 _ (3:Int)=_
 rw [E9,s3]
 split
 ·rfl
 show C5 _ (4:Int)=_
 rw [E9,s4]
 split
 ·rfl
 show C5 _ (5:Int)=_
 rw [E9,s5]; rfl
theorem S9 (b:Int):Cz b=some (Er b):=by
 unfold Cz Cz.j1 Er kW
 by_cases h1:b < 512
 ·rw [vL h1,if_neg (by omega)]; rfl
 ·by_cases h2:16384 < b
  ·rw [vK h1,vL h2,if_neg (by omega)]; rfl
  ·rw [vK h1,vK h2,if_pos (by omega)]
   simp only [vQ]
   by_cases a:b < 1024
   ·simp [a]
   by_cases a2:b < 2048
   ·simp [a,a2]
   by_cases a3:b < 3072
   ·simp [a,a2,a3]
   by_cases a4:b < 7680
   ·simp [a,a2,a3,a4]
   by_cases a5:b < 15360 <;> simp [a,a2,a3,a4,a5]
theorem rQ (b:Int):Av ⟨1,b⟩=some (F0 1 b):=by
 show cond (decide (b=0)) (some 18) (some 0)=some (Ds 18 b)
 unfold Ds
 by_cases h:b=0 <;> simp [h]
theorem sL (b:Int):Aq ⟨1,b⟩=some (F0 1 b):=by
 show (Bf b [0] [18]).bind (fun y_8=>some y_8)=some (Ds 18 b)
 rw [Ev b [0] [18] rfl (by decide)]
 unfold Mf Ds
 by_cases h:b=0 <;> simp [h]
theorem sN (b:Int):Av ⟨2,b⟩=some (F0 2 b):=by
 show cond (decide (b=0)) (some 60) (some 0)=some (Ds 60 b)
 unfold Ds
 by_cases h:b=0 <;> simp [h]
theorem rN (b:Int):Aq ⟨2,b⟩=some (F0 2 b):=by
 show (Bf b [0] [60]).bind (fun y_8=>some y_8)=some (Ds 60 b)
 rw [Ev b [0] [60] rfl (by decide)]
 unfold Mf Ds
 by_cases h:b=0 <;> simp [h]
theorem tD (b:Int):Av ⟨3,b⟩=some (F0 3 b):=by
 show cond (decide (b=0)) (some 128) (some 0)=some (Ds 128 b)
 unfold Ds
 by_cases h:b=0 <;> simp [h]
theorem tK (b:Int):Aq ⟨3,b⟩=some (F0 3 b):=by
 show (Bf b [0] [128]).bind (fun y_8=>some y_8)=some (Ds 128 b)
 rw [Ev b [0] [128] rfl (by decide)]
 unfold Mf Ds
 by_cases h:b=0 <;> simp [h]
theorem rI (b:Int):Av ⟨4,b⟩=some (F0 4 b):=by
 show cond (decide (b=0)) (some 192) (some 0)=some (Ds 192 b)
 unfold Ds
 by_cases h:b=0 <;> simp [h]
theorem sU (b:Int):Aq ⟨4,b⟩=some (F0 4 b):=by
 show (Bf b [0] [192]).bind (fun y_8=>some y_8)=some (Ds 192 b)
 rw [Ev b [0] [192] rfl (by decide)]
 unfold Mf Ds
 by_cases h:b=0 <;> simp [h]
theorem sD (b:Int):Av ⟨5,b⟩=some (F0 5 b):=by
 show cond (decide (512<=b)) (Av.j1 ⟨5,b⟩ (decide (b<=16384))) (Av.j1 ⟨5,b⟩ false)=some (Er b)
 unfold Av.j1 Er
 rw [S8]
 by_cases h1:512<=b <;> by_cases h2:b<=16384 <;> simp [h1,h2]
theorem sJ (b:Int):Aq ⟨5,b⟩=some (F0 5 b):=by
 show (Cz b).bind (fun y=>some y)=some (Er b)
 rw [S9]; rfl
theorem tB (b:Int):Av ⟨6,b⟩=some (F0 6 b):=by
 show cond (decide (512<=b)) (Av.j1 ⟨6,b⟩ (decide (b<=16384))) (Av.j1 ⟨6,b⟩ false)=some (Er b)
 unfold Av.j1 Er
 rw [S8]
 by_cases h1:512<=b <;> by_cases h2:b<=16384 <;> simp [h1,h2]
theorem tL (b:Int):Aq ⟨6,b⟩=some (F0 6 b):=by
 show (Cz b).bind (fun y=>some y)=some (Er b)
 rw [S9]; rfl
theorem rK (b:Int):Av ⟨7,b⟩=some (F0 7 b):=by
 show (Dv [160,224,256,384,521] b).bind (fun y_3=>cond y_3 ((Qq b 2).bind fun q=>some q) (some 0))=some (Jj b)
 rw [Ql _ _ (by decide)]
 unfold Jj
 by_cases h:b=160\/b=224\/b=256\/b=384\/b=521
 ·rw [if_pos h,vL (by simpa using h)]
  rcases h with h | h | h | h | h <;> (subst h; rfl)
 ·rw [if_neg h,vK (by simpa using h)]; rfl
theorem sI (b:Int):Aq ⟨7,b⟩=some (F0 7 b):=by
 show Aq.j2 ⟨7,b⟩ true=some (Jj b)
 unfold Aq.j2 Aq.j3 Jj
 by_cases h:b=160\/b=224\/b=256\/b=384\/b=521
 ·rw [if_pos h]
  rcases h with h | h | h | h | h <;> (subst h; rfl)
 ·rw [if_neg h]
  have h1:¬ b=160:=by omega
  have h2:¬ b=224:=by omega
  have h3:¬ b=256:=by omega
  have h4:¬ b=384:=by omega
  have h5:¬ b=521:=by omega
  simp [h1,h2,h3,h4,h5]
theorem sS (b:Int):Av ⟨8,b⟩=some (F0 8 b):=by
 show cond (decide (b=0)) (some 128) (some 0)=some (Ds 128 b)
 unfold Ds
 by_cases h:b=0 <;> simp [h]
theorem sR (b:Int):Aq ⟨8,b⟩=some (F0 8 b):=by
 show (Bf b [0] [128]).bind (fun y_8=>some y_8)=some (Ds 128 b)
 rw [Ev b [0] [128] rfl (by decide)]
 unfold Mf Ds
 by_cases h:b=0 <;> simp [h]
theorem rP (b:Int):Av ⟨9,b⟩=some (F0 9 b):=by
 show (Bq [44,65,87] b).bind (fun y_4=>cond (decide (0<=y_4)) ((C2 [128,192,256] y_4).bind fun e_2=>some e_2) (some 0))=some (Mf [44,65,87] [128,192,256] b)
 rw [I6 _ _ (by decide)]
 unfold Mf
 cases h:List.findIdx? (fun e=>decide (b=e)) [44,65,87] with
 | none=>rfl
 | some i=>
  have hi:=(wS.1 h).1
  have:i < 3:=hi
  rcases (by omega:i=0\/i=1\/i=2) with h | h | h <;> (subst h; rfl)
theorem rM (b:Int):Aq ⟨9,b⟩=some (F0 9 b):=by
 show (Bf b [44,65,87] [128,192,256]).bind (fun y=>some y)=some (Mf [44,65,87] [128,192,256] b)
 rw [Ev b [44,65,87] [128,192,256] rfl (by decide)]; rfl
theorem qB (b:Int):Av ⟨10,b⟩=some (F0 10 b):=by
 show cond (decide (512<=b)) (Av.j1 ⟨10,b⟩ (decide (b<=16384))) (Av.j1 ⟨10,b⟩ false)=some (Er b)
 unfold Av.j1 Er
 rw [S8]
 by_cases h1:512<=b <;> by_cases h2:b<=16384 <;> simp [h1,h2]
theorem pZ (b:Int):Aq ⟨10,b⟩=some (F0 10 b):=by
 show (Cz b).bind (fun y=>some y)=some (Er b)
 rw [S9]; rfl
theorem qX (b:Int):Av ⟨11,b⟩=some (F0 11 b):=by
 show cond (decide (512<=b)) (Av.j1 ⟨11,b⟩ (decide (b<=16384))) (Av.j1 ⟨11,b⟩ false)=some (Er b)
 unfold Av.j1 Er
 rw [S8]
 by_cases h1:512<=b <;> by_cases h2:b<=16384 <;> simp [h1,h2]
theorem oR (b:Int):Aq ⟨11,b⟩=some (F0 11 b):=by
 show (Cz b).bind (fun y=>some y)=some (Er b)
 rw [S9]; rfl
theorem nI (b:Int):Av ⟨12,b⟩=some (F0 12 b):=by
 show (Dv [160,224,256,384,521] b).bind (fun y_3=>cond y_3 ((Qq b 2).bind fun q=>some q) (some 0))=some (Jj b)
 rw [Ql _ _ (by decide)]
 unfold Jj
 by_cases h:b=160\/b=224\/b=256\/b=384\/b=521
 ·rw [if_pos h,vL (by simpa using h)]
  rcases h with h | h | h | h | h <;> (subst h; rfl)
 ·rw [if_neg h,vK (by simpa using h)]; rfl
theorem pQ (b:Int):Aq ⟨12,b⟩=some (F0 12 b):=by
 show Aq.j2 ⟨12,b⟩ true=some (Jj b)
 unfold Aq.j2 Aq.j3 Jj
 by_cases h:b=160\/b=224\/b=256\/b=384\/b=521
 ·rw [if_pos h]
  rcases h with h | h | h | h | h <;> (subst h; rfl)
 ·rw [if_neg h]
  have h1:¬ b=160:=by omega
  have h2:¬ b=224:=by omega
  have h3:¬ b=256:=by omega
  have h4:¬ b=384:=by omega
  have h5:¬ b=521:=by omega
  simp [h1,h2,h3,h4,h5]
theorem oO (b:Int):Av ⟨13,b⟩=some (F0 13 b):=by
 show (Bq [512,768,1024] b).bind (fun y_4=>cond (decide (0<=y_4)) ((C2 [128,192,256] y_4).bind fun e_2=>some e_2) (some 0))=some (Mf [512,768,1024] [128,192,256] b)
 rw [I6 _ _ (by decide)]
 unfold Mf
 cases h:List.findIdx? (fun e=>decide (b=e)) [512,768,1024] with
 | none=>rfl
 | some i=>
  have hi:=(wS.1 h).1
  have:i < 3:=hi
  rcases (by omega:i=0\/i=1\/i=2) with h | h | h <;> (subst h; rfl)
theorem qE (b:Int):Aq ⟨13,b⟩=some (F0 13 b):=by
 show (Bf b [512,768,1024] [128,192,256]).bind (fun y=>some y)=some (Mf [512,768,1024] [128,192,256] b)
 rw [Ev b [512,768,1024] [128,192,256] rfl (by decide)]; rfl
theorem pA (b:Int):Av ⟨14,b⟩=some (F0 14 b):=by
 show (Bq [40,128] b).bind (fun y_4=>cond (decide (0<=y_4)) ((C2 [40,60] y_4).bind fun e_2=>some e_2) (some 0))=some (Mf [40,128] [40,60] b)
 rw [I6 _ _ (by decide)]
 unfold Mf
 cases h:List.findIdx? (fun e=>decide (b=e)) [40,128] with
 | none=>rfl
 | some i=>
  have hi:=(wS.1 h).1
  have:i < 2:=hi
  rcases (by omega:i=0\/i=1) with h | h <;> (subst h; rfl)
theorem nG (b:Int):Aq ⟨14,b⟩=some (F0 14 b):=by
 show (Bf b [40,128] [40,60]).bind (fun y=>some y)=some (Mf [40,128] [40,60] b)
 rw [Ev b [40,128] [40,60] rfl (by decide)]; rfl
theorem qJ (b:Int):Av ⟨15,b⟩=some (F0 15 b):=by
 show (Bq [112,168] b).bind (fun y_4=>cond (decide (0<=y_4)) ((C2 [80,112] y_4).bind fun e_2=>some e_2) (some 0))=some (Mf [112,168] [80,112] b)
 rw [I6 _ _ (by decide)]
 unfold Mf
 cases h:List.findIdx? (fun e=>decide (b=e)) [112,168] with
 | none=>rfl
 | some i=>
  have hi:=(wS.1 h).1
  have:i < 2:=hi
  rcases (by omega:i=0\/i=1) with h | h <;> (subst h; rfl)
theorem pV (b:Int):Aq ⟨15,b⟩=some (F0 15 b):=by
 show (Bf b [112,168] [80,112]).bind (fun y=>some y)=some (Mf [112,168] [80,112] b)
 rw [Ev b [112,168] [80,112] rfl (by decide)]; rfl
theorem qD (b:Int):Av ⟨16,b⟩=some (F0 16 b):=by
 show (Bq [128,256] b).bind (fun y_4=>cond (decide (0<=y_4)) ((C2 [128,256] y_4).bind fun e_2=>some e_2) (some 0))=some (Mf [128,256] [128,256] b)
 rw [I6 _ _ (by decide)]
 unfold Mf
 cases h:List.findIdx? (fun e=>decide (b=e)) [128,256] with
 | none=>rfl
 | some i=>
  have hi:=(wS.1 h).1
  have:i < 2:=hi
  rcases (by omega:i=0\/i=1) with h | h <;> (subst h; rfl)
theorem nE (b:Int):Aq ⟨16,b⟩=some (F0 16 b):=by
 show (Bf b [128,256] [128,256]).bind (fun y=>some y)=some (Mf [128,256] [128,256] b)
 rw [Ev b [128,256] [128,256] rfl (by decide)]; rfl
theorem nJ (b:Int):Av ⟨17,b⟩=some (F0 17 b):=by
 show (Bq [128,256] b).bind (fun y_4=>cond (decide (0<=y_4)) ((C2 [128,256] y_4).bind fun e_2=>some e_2) (some 0))=some (Mf [128,256] [128,256] b)
 rw [I6 _ _ (by decide)]
 unfold Mf
 cases h:List.findIdx? (fun e=>decide (b=e)) [128,256] with
 | none=>rfl
 | some i=>
  have hi:=(wS.1 h).1
  have:i < 2:=hi
  rcases (by omega:i=0\/i=1) with h | h <;> (subst h; rfl)
theorem pC (b:Int):Aq ⟨17,b⟩=some (F0 17 b):=by
 show (Bf b [128,256] [128,256]).bind (fun y=>some y)=some (Mf [128,256] [128,256] b)
 rw [Ev b [128,256] [128,256] rfl (by decide)]; rfl
theorem qA (b:Int):Av ⟨18,b⟩=some (F0 18 b):=by
 show cond (decide (b=0)) (some 256) (some 0)=some (Ds 256 b)
 unfold Ds
 by_cases h:b=0 <;> simp [h]
theorem qR (b:Int):Aq ⟨18,b⟩=some (F0 18 b):=by
 show (Bf b [0] [256]).bind (fun y_8=>some y_8)=some (Ds 256 b)
 rw [Ev b [0] [256] rfl (by decide)]
 unfold Mf Ds
 by_cases h:b=0 <;> simp [h]
theorem oJ (b:Int):Av ⟨19,b⟩=some (F0 19 b):=by
 show cond (decide (b=0)) (some 64) (some 0)=some (Ds 64 b)
 unfold Ds
 by_cases h:b=0 <;> simp [h]
theorem qM (b:Int):Aq ⟨19,b⟩=some (F0 19 b):=by
 show (Bf b [0] [64]).bind (fun y_8=>some y_8)=some (Ds 64 b)
 rw [Ev b [0] [64] rfl (by decide)]
 unfold Mf Ds
 by_cases h:b=0 <;> simp [h]
theorem nO (b:Int):Av ⟨20,b⟩=some (F0 20 b):=by
 show cond (decide (b=0)) (some 80) (some 0)=some (Ds 80 b)
 unfold Ds
 by_cases h:b=0 <;> simp [h]
theorem qV (b:Int):Aq ⟨20,b⟩=some (F0 20 b):=by
 show (Bf b [0] [80]).bind (fun y_8=>some y_8)=some (Ds 80 b)
 rw [Ev b [0] [80] rfl (by decide)]
 unfold Mf Ds
 by_cases h:b=0 <;> simp [h]
theorem oU (b:Int):Av ⟨21,b⟩=some (F0 21 b):=by
 show cond (decide (b=0)) (some 128) (some 0)=some (Ds 128 b)
 unfold Ds
 by_cases h:b=0 <;> simp [h]
theorem nP (b:Int):Aq ⟨21,b⟩=some (F0 21 b):=by
 show (Bf b [0] [128]).bind (fun y_8=>some y_8)=some (Ds 128 b)
 rw [Ev b [0] [128] rfl (by decide)]
 unfold Mf Ds
 by_cases h:b=0 <;> simp [h]
theorem oL (b:Int):Av ⟨22,b⟩=some (F0 22 b):=by
 show cond (decide (b=0)) (some 256) (some 0)=some (Ds 256 b)
 unfold Ds
 by_cases h:b=0 <;> simp [h]
theorem qY (b:Int):Aq ⟨22,b⟩=some (F0 22 b):=by
 show (Bf b [0] [256]).bind (fun y_8=>some y_8)=some (Ds 256 b)
 rw [Ev b [0] [256] rfl (by decide)]
 unfold Mf Ds
 by_cases h:b=0 <;> simp [h]
theorem N2 {a:Int} (h:1<=a/\a<=22):a=1\/a=2\/a=3\/a=4\/a=5\/a=6\/a=7\/a=8\/a=9\/a=10\/a=11\/a=12\/a=13\/a=14\/a=15\/a=16\/a=17\/a=18\/a=19\/a=20\/a=21\/a=22:=by omega
theorem V8 (u:Ax):Av u=some (M8 u):=by
 obtain⟨a,b⟩:=u
 unfold M8
 by_cases h0:1<=a/\a<=22
 ·rw [if_pos h0]
  rcases N2 h0 with h | h | h | h | h | h | h | h | h | h | h | h | h | h | h | h | h | h | h | h | h | h <;> subst h
  ·exact rQ b
  ·exact sN b
  ·exact tD b
  ·exact rI b
  ·exact sD b
  ·exact tB b
  ·exact rK b
  ·exact sS b
  ·exact rP b
  ·exact qB b
  ·exact qX b
  ·exact nI b
  ·exact oO b
  ·exact pA b
  ·exact qJ b
  ·exact qD b
  ·exact nJ b
  ·exact qA b
  ·exact oJ b
  ·exact nO b
  ·exact oU b
  ·exact oL b
 ·rw [if_neg h0]
  unfold Av Dp
  by_cases h1:a < 1
  ·simp [h1,Dp.j1]
  ·have h2:22 < a:=by omega
   simp [h1,h2,Dp.j1]
theorem Wl (u:Ax):Aq u=some (M8 u):=by
 obtain⟨a,b⟩:=u
 unfold M8
 by_cases h0:1<=a/\a<=22
 ·rw [if_pos h0]
  rcases N2 h0 with h | h | h | h | h | h | h | h | h | h | h | h | h | h | h | h | h | h | h | h | h | h <;> subst h
  ·exact sL b
  ·exact rN b
  ·exact tK b
  ·exact sU b
  ·exact sJ b
  ·exact tL b
  ·exact sI b
  ·exact sR b
  ·exact rM b
  ·exact pZ b
  ·exact oR b
  ·exact pQ b
  ·exact qE b
  ·exact nG b
  ·exact pV b
  ·exact nE b
  ·exact pC b
  ·exact qR b
  ·exact qM b
  ·exact qV b
  ·exact nP b
  ·exact qY b
 ·rw [if_neg h0]
  have h1:¬ a=1:=by omega
  have h2:¬ a=2:=by omega
  have h3:¬ a=3:=by omega
  have h4:¬ a=4:=by omega
  have h5:¬ a=5:=by omega
  have h6:¬ a=6:=by omega
  have h7:¬ a=7:=by omega
  have h8:¬ a=8:=by omega
  have h9:¬ a=9:=by omega
  have h10:¬ a=10:=by omega
  have h11:¬ a=11:=by omega
  have h12:¬ a=12:=by omega
  have h13:¬ a=13:=by omega
  have h14:¬ a=14:=by omega
  have h15:¬ a=15:=by omega
  have h16:¬ a=16:=by omega
  have h17:¬ a=17:=by omega
  have h18:¬ a=18:=by omega
  have h19:¬ a=19:=by omega
  have h20:¬ a=20:=by omega
  have h21:¬ a=21:=by omega
  have h22:¬ a=22:=by omega
  simp [Aq,Aq.j1,Aq.j2,Aq.j4,Cm,Cm.j1,Cm.j2,h1,h2,h3,h4,h5,h6,h7,h8,h9,h10,h11,h12,h13,h14,h15,h16,h17,h18,h19,h20,h21,h22]
  rw [Ev b [0] [0] rfl (by decide)]
  unfold Mf
  by_cases h:b=0 <;> simp [h]
theorem Yp (a:Int):Gq a=some (Rv a):=by
 unfold Rv
 by_cases h0:1<=a/\a<=22
 ·rw [if_pos h0]
  rcases N2 h0 with h | h | h | h | h | h | h | h | h | h | h | h | h | h | h | h | h | h | h | h | h | h <;> (subst h; rfl)
 ·rw [if_neg h0]
  unfold Gq Dp
  by_cases h1:a < 1
  ·simp [h1,Dp.j1]
  ·have h2:22 < a:=by omega
   simp [h1,h2,Dp.j1]
theorem X1 (a:Int):Dy a=some (Rv a):=by
 unfold Rv
 by_cases h0:1<=a/\a<=22
 ·rw [if_pos h0]
  rcases N2 h0 with h | h | h | h | h | h | h | h | h | h | h | h | h | h | h | h | h | h | h | h | h | h <;> (subst h; rfl)
 ·rw [if_neg h0]
  unfold Dy
  by_cases h1:a < 1
  ·simp [h1,Dy.j1]
  ·have h2:22 < a:=by omega
   simp [h1,h2,Dy.j1]
theorem V5 (u:Ax):F3 u=some (decide (0 < M8 u)):=by unfold F3; rw [V8]; rfl
theorem Vk (u:Ax):Hb u=some (decide (0 < M8 u)):=by unfold Hb; rw [Wl]; rfl
end
section
open Go
theorem Ta {i n:Nat} (h:i < n) (hn:n<=9223372036854775807):W ((i:Int) + 1)=((i + 1:Nat):Int):=by
 rw [Hy (by omega)]; omega
theorem Su (s:ByteArray):(Hs s).length=s.size:=by unfold Hs; rw [aAo]; rfl
theorem lK {s:ByteArray} {i:Nat} {c:UInt8} (h:(Hs s)[i]?=some c):idxT s (i:Int)=some c:=by
 unfold idxT
 rw [if_neg (by omega),yY]
 unfold Hs at h
 rw [<- h]; simp
def mQ (c:UInt8):Bool:=decide (33<=(c.toNat:Int)) && decide ((c.toNat:Int)<=126)
def Eh (s:ByteArray):Bool:=decide (1<=(s.size:Int)) && decide ((s.size:Int)<=32) && !(Hs s).any (fun c=>!mQ c)
theorem Nt (s:ByteArray) (hs:s.size<=9223372036854775807):Bs s=some (Eh s):=by
 unfold Bs Eh
 refine (Px (body:=fun q'=>Bs.l1 s q') (Hs s) (fun i=>(i:Int)) (fun c=>!mQ c) false (decide (1<=(s.size:Int)) && decide ((s.size:Int)<=32)) (fun i c hc=>?_) ?_).trans ?_
 ·have h1:=Jc hc
  rw [Su] at h1
  show Bs.l1 s (i:Int)=_
  unfold Bs.l1 Bs.j2 mQ
  rw [Dw hc,Ta h1 hs]
  by_cases a:(c.toNat:Int)<=32
  ·rw [vL a,vK (show ¬ (33:Int)<=(c.toNat:Int) by omega)]; rfl
  ·rw [vK a,vL (show (33:Int)<=(c.toNat:Int) by omega)]
   by_cases b:126 < (c.toNat:Int)
   ·rw [vL b,vK (by omega)]; rfl
   ·rw [vK b,vL (by omega)]; rfl
 ·show Bs.l1 s ((Hs s).length:Int)=_
  unfold Bs.l1
  rw [Db]
  by_cases a:(1:Int)<=(s.size:Int) <;> simp [a,up]
 ·cases (Hs s).any fun c=>!mQ c <;> simp
theorem P5 (s:ByteArray) (hs:s.size<=9223372036854775807):Br s=some (Eh s):=by
 unfold Br Eh
 have hl:Br.j1 s false=some (!(Hs s).any fun c=>!mQ c):=by
  unfold Br.j1
  rw [vQ]
  refine (Px (body:=fun q'=>Br.l2 s q') (Hs s) (fun i=>(i:Int)) (fun c=>!mQ c) false true (fun i c hc=>?_) ?_).trans ?_
  ·have h1:=Jc hc
   rw [Su] at h1
   show Br.l2 s (i:Int)=_
   unfold Br.l2 Br.j3 mQ
   rw [vL (by omega),wD,lK hc,vI,vI,Ta h1 hs]
   by_cases a:(c.toNat:Int) < 33
   ·rw [vL a,vK (show ¬ (33:Int)<=(c.toNat:Int) by omega)]; rfl
   ·rw [vK a,vL (show (33:Int)<=(c.toNat:Int) by omega)]
    by_cases b:126 < (c.toNat:Int)
    ·rw [vL b,vK (by omega)]; rfl
    ·rw [vK b,vL (by omega)]; rfl
  ·show Br.l2 s ((Hs s).length:Int)=_
   unfold Br.l2
   rw [Su,Db]; rfl
  ·cases (Hs s).any fun c=>!mQ c <;> rfl
 by_cases a:(s.size:Int) < 1
 ·rw [vL a,vK (show ¬ (1:Int)<=(s.size:Int) by omega)]; rfl
 ·rw [vK a,vL (show (1:Int)<=(s.size:Int) by omega),vQ]
  by_cases b:32 < (s.size:Int)
  ·rw [vL b,vK (by omega)]; rfl
  ·rw [vK b,vL (by omega),hl]; simp
def Xg (l:List ByteArray) (i:Nat):Bool:=!Eh (l.getD i ⟨#[]⟩) || (decide (0 < i) && !Ns (Hs (l.getD (i - 1) ⟨#[]⟩)) (Hs (l.getD i ⟨#[]⟩)))
def Il (l:List ByteArray):Bool:=!(List.range l.length).any (Xg l)
theorem Hh {α:Type} {l:List α} {i:Nat} {x d:α} (h:l[i]?=some x):l.getD i d=x:=by
 rw [yK,h]; rfl
theorem Zl (l:List ByteArray) (hl:l.length<=9223372036854775807) (hs:∀ s∈l,s.size<=9223372036854775807):Bg l=some (Il l && decide ((l.length:Int)<=8)):=by
 unfold Bg Il
 refine (Ly (body:=fun q'=>Bg.l1 l q') l.length (fun i=>(i:Int)) (Xg l) false (decide ((l.length:Int)<=8)) (fun i hi=>?_) ?_).trans ?_
 ·obtain⟨s,hx⟩:∃ s,l[i]?=some s:=⟨_,vJ hi⟩
  show Bg.l1 l (i:Int)=_
  unfold Bg.l1 Xg
  rw [Dw hx,Nt s (hs s (Ef hx)),vI,Hh hx]
  cases hn:Eh s with
  | false=>rfl
  | true=>
   rw [wM,vQ,xX]
   cases i with
   | zero=>rfl
   | succ i=>
    obtain⟨p,hp⟩:∃ p,l[i]?=some p:=⟨_,vJ (by omega)⟩
    rw [vL (by omega),wD,Hy (by omega),show ((i + 1:Nat):Int) - 1=(i:Int) by omega,Ec,hp,vI,show i + 1 - 1=i from rfl,Hh hp,vL (by omega),aAl]
    unfold Bg.j2
    rw [Ta (n:=l.length) (by omega) hl]
    cases Ns (Hs p) (Hs s) <;> rfl
 ·show Bg.l1 l (l.length:Int)=_
  unfold Bg.l1
  rw [Db]; rfl
 ·cases (List.range l.length).any (Xg l) <;> rfl
end
section
open Go
def Iw (u:Ax) (k:Int):Bool:=decide (0 < M8 u) && decide (Rv u.Alg=k)
def Nx (c:Ab):List Bool:=[decide (c.Serial < 0),decide (1099511627776 < c.Serial),!Eh c.Issuer,!Eh c.Subject,!Il c.Names,decide (8 < (c.Names.length:Int)),!Iw c.Key 2,decide (c.KeyId < 0),decide (2147483648 < c.KeyId),!Iw c.Hash 1,decide (c.Seal.Key < 0),decide (2147483648 < c.Seal.Key),decide (c.Seal.Sum < 0),decide (4294967296<=c.Seal.Sum),decide (c.From < 0),decide (c.To < c.From),decide (40000 < c.To),decide (c.Path < 0),decide (8 < c.Path),!c.Authority && !decide (c.Path=0)]
def Dq (c:Ab):Bool:=!(Nx c).any id
structure Kz (c:Ab):Prop where
 names:c.Names.length < 1000000000
 name:∀ s∈c.Names,s.size<=9223372036854775807
 issuer:c.Issuer.size<=9223372036854775807
 subject:c.Subject.size<=9223372036854775807
 ints:∀ n∈[c.Serial,c.Key.Alg,c.Key.Bits,c.KeyId,c.Hash.Alg,c.Hash.Bits,c.From,c.To,c.Path,c.Seal.Key,c.Seal.Sum],-9223372036854775808<=n/\n<=9223372036854775807
structure W9 (c:Ab):Prop where
 names:c.Names.length<=9223372036854775807
 name:∀ s∈c.Names,s.size<=9223372036854775807
 issuer:c.Issuer.size<=9223372036854775807
 subject:c.Subject.size<=9223372036854775807
theorem Kz.w {c:Ab} (h:Kz c):W9 c:=⟨by have:=h.names; omega,h.name,h.issuer,h.subject⟩
theorem hG (u:Ax) (k:Int):Fs u k=some (Iw u k):=by
 unfold Fs Iw
 rw [V5,Yp,vI]
 cases decide (0 < M8 u) <;> rfl
theorem Of (u:Ax):Ff u=some (Iw u 2):=by
 unfold Ff Iw
 rw [Vk,X1,vI]
 cases decide (0 < M8 u) <;> rfl
theorem Wq (n:Int):Ez n=some (!(decide (n < 0) || decide (2147483648 < n))):=by
 unfold Ez
 by_cases a:n < 0
 ·rw [vL a,vK (show ¬ 0<=n by omega)]; rfl
 ·rw [vK a,vL (show 0<=n by omega)]
  by_cases b:n<=2147483648
  ·rw [vL b,vK (show ¬ 2147483648 < n by omega)]; rfl
  ·rw [vK b,vL (show 2147483648 < n by omega)]; rfl
theorem lZ (n:Int):F9 n=some (!(decide (n < 0) || decide (4294967296<=n))):=by
 unfold F9
 by_cases a:n < 0
 ·rw [vL a,vK (show ¬ 0<=n by omega)]; rfl
 ·rw [vK a,vL (show 0<=n by omega)]
  by_cases b:n < 4294967296
  ·rw [vL b,vK (show ¬ 4294967296<=n by omega)]; rfl
  ·rw [vK b,vL (show 4294967296<=n by omega)]; rfl
theorem uG (n:Nat):decide ((n:Int)<=8)=!decide (8 < (n:Int)):=by
 by_cases h:(n:Int)<=8
 ·rw [vL h,vK (by omega)]; rfl
 ·rw [vK h,vL (by omega)]; rfl
theorem lQ (c:Ab):Ay.j3 c false=some (!(decide (c.Path < 0) || decide (8 < c.Path) || (!c.Authority && !decide (c.Path=0)))):=by
 unfold Ay.j3
 by_cases a:c.Path < 0
 ·rw [vL a,vK (show ¬ 0<=c.Path by omega)]; rfl
 ·rw [vK a,vL (show 0<=c.Path by omega)]
  by_cases b:c.Path<=8
  ·rw [vL b,vK (show ¬ 8 < c.Path by omega)]
   cases c.Authority <;> simp
  ·rw [vK b,vL (show 8 < c.Path by omega)]; rfl
theorem gE (c:Ab) (x:Bool):Ay.j3 c x=some (!(x || decide (c.Path < 0) || decide (8 < c.Path) || (!c.Authority && !decide (c.Path=0)))):=by
 cases x
 ·rw [lQ]; simp
 ·simp [Ay.j3]
theorem Z9 (c:Ab) (h:W9 c):Ay c=some (Dq c):=by
 unfold Ay Ay.j1 Ay.j2
 simp only [gE]
 rw [Nt _ h.issuer,Nt _ h.subject,Zl _ h.names h.name,hG,Wq,hG,Wq,lZ,uG]
 simp only [vI]
 unfold Dq Nx
 simp only [xY,aAs,id]
 generalize decide (c.Serial < 0)=b1
 cases b1
 case true=>simp
 generalize decide (1099511627776 < c.Serial)=b2
 cases b2
 case true=>simp
 generalize Eh c.Issuer=b3
 cases b3
 case false=>simp
 generalize Eh c.Subject=b4
 cases b4
 case false=>simp
 generalize Il c.Names=b5
 cases b5
 case false=>simp
 generalize decide (8 < (c.Names.length:Int))=b6
 cases b6
 case true=>simp
 generalize Iw c.Key 2=b7
 cases b7
 case false=>simp
 generalize decide (c.KeyId < 0)=b8
 cases b8
 case true=>simp
 generalize decide (2147483648 < c.KeyId)=b9
 cases b9
 case true=>simp
 generalize Iw c.Hash 1=b10
 cases b10
 case false=>simp
 generalize decide (c.Seal.Key < 0)=b11
 cases b11
 case true=>simp
 generalize decide (2147483648 < c.Seal.Key)=b12
 cases b12
 case true=>simp
 generalize decide (c.Seal.Sum < 0)=b13
 cases b13
 case true=>simp
 generalize decide (4294967296<=c.Seal.Sum)=b14
 cases b14
 case true=>simp
 generalize decide (c.From < 0)=b15
 cases b15
 case true=>simp
 generalize decide (c.To < c.From)=b16
 cases b16
 case true=>simp
 generalize decide (40000 < c.To)=b17
 cases b17
 case true=>simp
 generalize decide (c.Path < 0)=b18
 generalize decide (8 < c.Path)=b19
 generalize decide (c.Path=0)=b20
 cases b18 <;> cases b19 <;> cases b20 <;> simp
end
section
open Go
def Pv (c:Ab):Bool:=decide (c.Seal.Key < 0) || (decide (2147483648 < c.Seal.Key) || (decide (c.Seal.Sum < 0) || decide (4294967296<=c.Seal.Sum)))
theorem qT (c:Ab) (h:W9 c) (x:Bool):Au.j3 c x=some (bif (x || !Il c.Names || Pv c) then 9 else 0):=by
 cases x
 ·unfold Au.j3
  rw [vQ]
  refine (Ly (body:=fun q'=>Au.l4 c q') c.Names.length (fun i=>(i:Int)) (Xg c.Names) 9 (bif Pv c then 9 else 0) (fun i hi=>?_) ?_).trans ?_
  ·obtain⟨s,hx⟩:∃ s,c.Names[i]?=some s:=⟨_,vJ hi⟩
   have hN:=h.names
   show Au.l4 c (i:Int)=_
   unfold Au.l4 Xg
   rw [Dw hx,P5 s (h.name s (Ef hx)),vI,Hh hx]
   cases hn:Eh s with
   | false=>rfl
   | true=>
    rw [wM,vQ,xX]
    cases i with
    | zero=>rfl
    | succ i=>
     obtain⟨p,hp⟩:∃ p,c.Names[i]?=some p:=⟨_,vJ (by omega)⟩
     rw [vL (by omega),wD,Hy (by omega),show ((i + 1:Nat):Int) - 1=(i:Int) by omega,Ec,hp,vI,show i + 1 - 1=i from rfl,Hh hp,vL (by omega),aAl]
     unfold Au.j5
     rw [Ta (n:=c.Names.length) (by omega) hN]
     cases Ns (Hs p) (Hs s) <;> rfl
  ·show Au.l4 c (c.Names.length:Int)=_
   unfold Au.l4 Au.j6 Pv
   rw [Db]
   cases decide (c.Seal.Key < 0) <;> cases decide (2147483648 < c.Seal.Key) <;> cases decide (c.Seal.Sum < 0) <;> cases decide (4294967296<=c.Seal.Sum) <;> rfl
  ·unfold Il
   cases (List.range c.Names.length).any (Xg c.Names) <;> cases Pv c <;> rfl
 ·rfl
theorem Tx (c:Ab) (h:W9 c):Au c=some (bif Dq c then 0 else 9):=by
 unfold Au Au.j1 Au.j2
 simp only [qT c h]
 rw [P5 _ h.issuer,P5 _ h.subject,Of,Vk,X1]
 simp only [vI]
 unfold Dq Nx Pv
 simp only [xY,aAs,id]
 have hu:Iw c.Hash 1=(decide (0 < M8 c.Hash) && decide (Rv c.Hash.Alg=1)):=rfl
 rw [hu]
 generalize decide (c.Serial < 0)=b1
 cases b1
 case true=>simp
 generalize decide (1099511627776 < c.Serial)=b2
 cases b2
 case true=>simp
 generalize Eh c.Issuer=b3
 cases b3
 case false=>simp
 generalize Eh c.Subject=b4
 cases b4
 case false=>simp
 generalize Iw c.Key 2=b7
 cases b7
 case false=>simp
 generalize decide (c.KeyId < 0)=b8
 cases b8
 case true=>simp
 generalize decide (2147483648 < c.KeyId)=b9
 cases b9
 case true=>simp
 generalize decide (0 < M8 c.Hash)=b10
 cases b10
 case false=>simp
 generalize decide (Rv c.Hash.Alg=1)=b10'
 cases b10'
 case false=>simp
 generalize decide (c.From < 0)=b15
 cases b15
 case true=>simp
 generalize decide (c.To < c.From)=b16
 cases b16
 case true=>simp
 generalize decide (40000 < c.To)=b17
 cases b17
 case true=>simp
 generalize decide (c.Path < 0)=b18
 cases b18
 case true=>simp
 generalize decide (8 < c.Path)=b19
 cases b19
 case true=>simp
 generalize decide (c.Path=0)=b20
 generalize c.Authority=b21
 generalize decide (8 < (c.Names.length:Int))=b6
 generalize Il c.Names=b5
 cases b20 <;> cases b21 <;> cases b6 <;> cases b5 <;> simp <;> generalize decide (c.Seal.Key < 0)=b11 <;> generalize decide (2147483648 < c.Seal.Key)=b12 <;> generalize decide (c.Seal.Sum < 0)=b13 <;> generalize decide (4294967296<=c.Seal.Sum)=b14 <;> cases b11 <;> cases b12 <;> cases b13 <;> cases b14 <;> rfl
theorem Vr (c:Ab) (h:Kz c):Au c=some (bif Dq c then 0 else 9):=Tx c h.w
end
section
open Go
def F8 (s:ByteArray):Aa:=.mk 12 (Hs s) false []
def Pa (b:Bool):Aa:=.mk 1 [bif b then 255 else 0] false []
def Li (l:List Aa):Aa:=.mk 48 [] true l
def Rc (u:Ax):Aa:=Li [H3 u.Alg,H3 u.Bits]
def Kk (c:Ab):List Aa:=[H3 c.Serial,F8 c.Issuer,F8 c.Subject,Rc c.Key,H3 c.KeyId,Rc c.Hash,H3 c.From,H3 c.To,Pa c.Authority,H3 c.Path,Li (c.Names.map F8)]
def Jf (c:Ab):Aa:=Li (Kk c)
theorem I4 {s:ByteArray} (h:Eh s=true):s.size<=32:=by
 unfold Eh at h
 simp only [vN,xF] at h
 omega
theorem Xy {l:List ByteArray} (h:Il l=true):∀ s∈l,s.size<=32:=by
 intro s hs
 obtain⟨i,hi,e⟩:=xI hs
 unfold Il at h
 have h1:(List.range l.length).any (Xg l)=false:=by simpa using h
 rw [yF] at h1
 have h2:=h1 i (yQ.2 hi)
 unfold Xg at h2
 rw [Hh (vJ hi),e] at h2
 refine I4 ?_
 cases hn:Eh s with
 | true=>rfl
 | false=>rw [hn] at h2; simp at h2
theorem Ja {c:Ab} (h:Dq c=true):c.Issuer.size<=32/\c.Subject.size<=32/\c.Names.length<=8/\∀ s∈c.Names,s.size<=32:=by
 unfold Dq Nx at h
 simp only [xY,aAs,id,xG,yE] at h
 obtain⟨-,-,h3,h4,h5,h6,-⟩:=h
 refine⟨I4 (by simpa using h3),I4 (by simpa using h4),?_,Xy (by simpa using h5)⟩
 have:=zF h6
 omega
theorem Wp (s:ByteArray):(F8 s).sz=s.size + 1:=by
 unfold F8
 rw [Jv]
 show (Hs s).length + Ij [] + 1=_
 rw [Su,Ij]
theorem Pw:∀ l:List ByteArray,(∀ s∈l,s.size<=32)->Ij (l.map F8)<=33 * l.length
 | [],_=>wR _
 | s :: l,h=>by
  have h1:=Pw l fun x hx=>h x (wG _ hx)
  have h2:=h s (wL ..)
  rw [xL,Ij,Wp,xA]; omega
theorem Rp (u:Ax):(Rc u).sz<=19:=by
 unfold Rc Li
 have h1:=J0 u.Alg
 have h2:=J0 u.Bits
 rw [Jv]
 show 0 + Ij [H3 u.Alg,H3 u.Bits] + 1<=19
 simp only [Ij]; omega
theorem Ge (l:List Aa):(Li l).sz=Ij l + 1:=by
 unfold Li
 rw [Jv]
 show 0 + Ij l + 1=_
 omega
theorem N3 {c:Ab} (h:Dq c=true):Ij (Kk c)<=1000:=by
 obtain⟨h1,h2,h3,h4⟩:=Ja h
 have t:=Pw c.Names h4
 have a1:=J0 c.Serial
 have a2:=Rp c.Key
 have a3:=J0 c.KeyId
 have a4:=Rp c.Hash
 have a5:=J0 c.From
 have a6:=J0 c.To
 have a7:=J0 c.Path
 have a8:(Pa c.Authority).sz=2:=by unfold Pa; rw [Jv]; simp [Ij]
 unfold Kk
 simp only [Ij,Wp,Ge,a8]
 omega
theorem aZ (u:Ax):E0 u=some (Rc u):=by
 have:=Rp u
 unfold Rc at this
 rw [Ge] at this
 unfold E0
 rw [N4,vI,N4,vI,Qp _ (by omega)]; rfl
theorem Sz (u:Ax) (h1:-9223372036854775808<=u.Alg/\u.Alg<=9223372036854775807) (h2:-9223372036854775808<=u.Bits/\u.Bits<=9223372036854775807):Ii u=some (Rc u):=by
 have:=Rp u
 unfold Rc at this
 rw [Ge] at this
 unfold Ii
 rw [Et _ h1.1 h1.2,vI,Et _ h2.1 h2.2,vI,Ft _ (by omega)]; rfl
theorem Yr (b:Bool):Ku b=some (Pa b):=by cases b <;> rfl
theorem Oz (b:Bool):Ik b=some (Pa b):=by cases b <;> rfl
theorem iM (c:Ab) (h:Dq c=true):Cl c=some (Jf c):=by
 obtain⟨h1,h2,h3,h4⟩:=Ja h
 have t:=Pw c.Names h4
 have hb:=N3 h
 unfold Cl
 refine D8 (body:=fun q'=>Cl.l1 c q'.1 q'.2) c.Names.length (fun i=>((i:Int),(c.Names.take i).map F8)) (Jf c) ?_ ?_
 ·intro i hi
  obtain⟨s,hx⟩:∃ s,c.Names[i]?=some s:=⟨_,vJ hi⟩
  show Cl.l1 c (i:Int) ((c.Names.take i).map F8)=_
  unfold Cl.l1
  rw [Dw hx,show Gv s=some (F8 s) from rfl,vI,Dj (by simp; omega),vI,Du (by omega),En hx,xK]
  rfl
 ·show Cl.l1 c (c.Names.length:Int) ((c.Names.take c.Names.length).map F8)=_
  unfold Cl.l1
  have hT:∀ s,Gv s=some (F8 s):=fun _=>rfl
  rw [Db,wP]
  simp only [N4,hT,aZ,Yr,vI]
  rw [Uy _ (by omega)]
  simp only [vI]
  show up ((Gg (Kk c)).bind fun y=>some y)=_
  rw [Qp _ (show Ij (Kk c) < 1073741824 by omega)]
  rfl
theorem iV (c:Ab) (hf:Kz c) (h:Dq c=true):Co c=some (Jf c):=by
 obtain⟨h1,h2,h3,h4⟩:=Ja h
 have t:=Pw c.Names h4
 have hb:=N3 h
 have hi:=hf.ints
 simp only [wA,xE,zZ,forall_eq_or_imp,forall_eq] at hi
 obtain⟨i1,i2,i3,i4,i5,i6,i7,i8,i9,-⟩:=hi
 unfold Co
 refine D8 (body:=fun q'=>Co.l1 c q'.1 q'.2) c.Names.length (fun i=>((i:Int),(c.Names.take i).map F8)) (Jf c) ?_ ?_
 ·intro i hi
  obtain⟨s,hx⟩:∃ s,c.Names[i]?=some s:=⟨_,vJ hi⟩
  show Co.l1 c (i:Int) ((c.Names.take i).map F8)=_
  unfold Co.l1
  rw [Dw hx,show E1 s=some (F8 s) from rfl,vI,Dj (by simp; omega),vI,Du (by omega),En hx,xK]
  rfl
 ·show Co.l1 c (c.Names.length:Int) ((c.Names.take c.Names.length).map F8)=_
  unfold Co.l1
  have hT:∀ s,E1 s=some (F8 s):=fun _=>rfl
  rw [Db,wP,Et _ i1.1 i1.2,Et _ i4.1 i4.2,Et _ i7.1 i7.2,Et _ i8.1 i8.2,Et _ i9.1 i9.2,Sz _ i2 i3,Sz _ i5 i6]
  simp only [hT,Oz,vI]
  rw [Ft _ (by omega)]
  simp only [vI]
  show up ((De (Kk c)).bind fun y=>some y)=_
  rw [Ft _ (show Ij (Kk c) < 1073741824 by omega)]
  rfl
def Kd (c:Ab):List UInt8×Int:=bif Dq c then Yu (Jf c) else ([],9)
theorem fQ {c:Ab} (h:Dq c=true):(Jf c).sz < 67108864:=by
 have:=N3 h
 unfold Jf
 rw [Ge]; omega
theorem cZ (c:Ab) (hf:Kz c):Hc c=some (Kd c):=by
 unfold Hc Kd
 rw [Vr c hf,vI]
 cases h:Dq c with
 | false=>rfl
 | true=>
  show (Co c).bind _=_
  rw [iV c hf h,vI,Pl _ (fQ h)]; rfl
end
section
open Go
def Vc (b:List UInt8):Int:=W (b.foldl (fun s e=>IntKind.wrap .u32 ((X0 .u32 s (IntKind.wrap .u32 (e.toNat:Int))) * 16777619)) 2166136261)
theorem lH (b:List UInt8) (h:Lo b):Eg b=some (Vc b):=by
 unfold Eg
 refine cY (body:=fun q'=>Eg.l1 b q'.1 q'.2) b _ 2166136261 W h (fun i x s hx=>?_) (fun s=>?_)
 ·show Eg.l1 b s (i:Int)=_
  unfold Eg.l1; rw [Dw hx]
 ·show Eg.l1 b s (b.length:Int)=_
  unfold Eg.l1; rw [Db]; rfl
theorem iK (v:Aa):(Yu v).1.length<=4096:=by
 unfold Yu
 split
 ·split
  ·exact wV _
  ·split
   ·exact wV _
   ·simp; omega
 ·exact wV _
theorem Zg (c:Ab):(Kd c).1.length<=4096:=by
 unfold Kd
 cases Dq c with
 | false=>exact wV _
 | true=>exact iK _
theorem eV (c:Ab):Lo (Kd c).1:=by
 have:=Zg c
 unfold Lo; omega
end
end Go.Proofs.YtfanepojdefdpaaGreat
