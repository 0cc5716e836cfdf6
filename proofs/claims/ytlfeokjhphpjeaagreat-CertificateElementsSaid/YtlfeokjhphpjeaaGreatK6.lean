/- Plain texts, joined. No program is in sight here. -/
import Derived.Test.YtlfeokjhphpjeaaGreatL3
import Derived.Test.YtlfeokjhphpjeaaGreatP1
import Derived.Test.YtlfeokjhphpjeaaGreatD8
set_option linter.unusedVariables false
set_option linter.unusedSimpArgs false
namespace Go.Proofs.YtlfeokjhphpjeaaGreat
section
open Go
def Ea (s b:Int):Int:=if b=0 then s else 0
def pL (b:Int):Int:=if b < 1024 then 56 else if b < 2048 then 80 else if b < 3072 then 112 else if b < 7680 then 128 else if b < 15360 then 192 else 256
def Fj (b:Int):Int:=if 512<=b/\b<=16384 then pL b else 0
def M0 (b:Int):Int:=if b=160\/b=224\/b=256\/b=384\/b=521 then b / 2 else 0
def Ot (sizes strengths:List Int) (b:Int):Int:=match sizes.findIdx? (fun e=>decide (b=e)) with | some i=>strengths.getD i 0 | none=>0
def Gv:Nat->Int->Int
 | 1=>Ea 18
 | 2=>Ea 60
 | 3=>Ea 128
 | 4=>Ea 192
 | 5=>Fj
 | 6=>Fj
 | 7=>M0
 | 8=>Ea 128
 | 9=>Ot [44,65,87] [128,192,256]
 | 10=>Fj
 | 11=>Fj
 | 12=>M0
 | 13=>Ot [512,768,1024] [128,192,256]
 | 14=>Ot [40,128] [40,60]
 | 15=>Ot [112,168] [80,112]
 | 16=>Ot [128,256] [128,256]
 | 17=>Ot [128,256] [128,256]
 | 18=>Ea 256
 | 19=>Ea 64
 | 20=>Ea 80
 | 21=>Ea 128
 | 22=>Ea 256
 | _=>fun _=>0
def xL:Nat->Int
 | 1=>1
 | 2=>1
 | 3=>1
 | 4=>1
 | 5=>2
 | 6=>2
 | 7=>2
 | 8=>2
 | 9=>2
 | 10=>3
 | 11=>3
 | 12=>3
 | 13=>3
 | 14=>4
 | 15=>4
 | 16=>4
 | 17=>4
 | 18=>4
 | 19=>5
 | 20=>5
 | 21=>5
 | 22=>5
 | _=>0
def Wa (u:A3):Int:=if 1<=u.Alg/\u.Alg<=22 then Gv u.Alg.toNat u.Bits else 0
def W2 (a:Int):Int:=if 1<=a/\a<=22 then xL a.toNat else 0
theorem E1 (b:Int) (sizes strengths:List Int) (h:sizes.length=strengths.length) (hl:sizes.length < 1000000):Bd b sizes strengths=some (Ot sizes strengths b):=by
 unfold Bd Ot
 refine (P2 (body:=fun q'=>Bd.l1 b sizes strengths q') sizes (fun i=>(i:Int)) (fun e=>decide (b=e)) (fun i=>strengths.getD i 0) 0 (fun i x hx=>?_) ?_).trans ?_
 ·have h1:=Rx hx
  show Bd.l1 b sizes strengths (i:Int)=_
  unfold Bd.l1
  rw [Fs hx,Hu,Gp (by omega)]
  have hs:strengths[i]?=some (strengths.getD i 0):=by
   rw [List.getD_eq_getElem?_getD,List.getElem?_eq_getElem (by omega)]; rfl
  by_cases e:b=x
  ·rw [decide_eq_true e.symm,decide_eq_true e,hs]; rfl
  ·rw [decide_eq_false (fun e'=>e e'.symm),decide_eq_false e]; rfl
 ·show Bd.l1 b sizes strengths (sizes.length:Int)=_
  unfold Bd.l1
  rw [Ej]; rfl
 ·rfl
theorem Kg (s:List Int) (v:Int) (hl:s.length < 4611686018427387904):Bm s v=some (match s.findIdx? (fun e=>decide (v=e)) with | some i=>(i:Int) | none=>-1):=by
 unfold Bm
 refine P2 (body:=fun q'=>Bm.l1 s v q') s (fun i=>(i:Int)) (fun e=>decide (v=e)) (fun i=>(i:Int)) (-1) (fun i x hx=>?_) ?_
 ·have h1:=Rx hx
  show Bm.l1 s v (i:Int)=_
  unfold Bm.l1
  rw [Fs hx,Gp (by omega)]
  cases decide (v=x) <;> rfl
 ·show Bm.l1 s v (s.length:Int)=_
  unfold Bm.l1
  rw [Ej]; rfl
theorem Rz (s:List Int) (v:Int) (hl:s.length < 4611686018427387904):Eb s v=some (decide (v∈s)):=by
 unfold Eb
 rw [Kg s v hl,Option.bind_some]
 cases h:s.findIdx? (fun e=>decide (v=e)) with
 | none=>
  have:=List.findIdx?_eq_none_iff.1 h
  have hn:¬ v∈s:=fun hm=>by have:=this v hm; simp at this
  rw [decide_eq_false hn]; rfl
 | some i=>
  have h2:=List.findIdx?_isSome (xs:=s) (p:=fun e=>decide (v=e))
  rw [h] at h2
  have:v∈s:=by
   have h3:=h2.symm
   rw [Option.isSome_some,aB5] at h3
   obtain⟨x,hx,e⟩:=h3
   rw [aBw e]; exact hx
  rw [decide_eq_true this]
  simp
theorem Uv (b:Int):Cp b=some (pL b):=by
 have s0:Cp.l1 b 0=some (if b < 1024 then .done 56 else .next 1):=by
  by_cases h:b < 1024
  ·rw [if_pos h]; show cond (decide (b < 1024)) _ _=_; rw [decide_eq_true h]; rfl
  ·rw [if_neg h]; show cond (decide (b < 1024)) _ _=_; rw [decide_eq_false h]; rfl
 have s1:Cp.l1 b 1=some (if b < 2048 then .done 80 else .next 2):=by
  by_cases h:b < 2048
  ·rw [if_pos h]; show cond (decide (b < 2048)) _ _=_; rw [decide_eq_true h]; rfl
  ·rw [if_neg h]; show cond (decide (b < 2048)) _ _=_; rw [decide_eq_false h]; rfl
 have s2:Cp.l1 b 2=some (if b < 3072 then .done 112 else .next 3):=by
  by_cases h:b < 3072
  ·rw [if_pos h]; show cond (decide (b < 3072)) _ _=_; rw [decide_eq_true h]; rfl
  ·rw [if_neg h]; show cond (decide (b < 3072)) _ _=_; rw [decide_eq_false h]; rfl
 have s3:Cp.l1 b 3=some (if b < 7680 then .done 128 else .next 4):=by
  by_cases h:b < 7680
  ·rw [if_pos h]; show cond (decide (b < 7680)) _ _=_; rw [decide_eq_true h]; rfl
  ·rw [if_neg h]; show cond (decide (b < 7680)) _ _=_; rw [decide_eq_false h]; rfl
 have s4:Cp.l1 b 4=some (if b < 15360 then .done 192 else .next 5):=by
  by_cases h:b < 15360
  ·rw [if_pos h]; show cond (decide (b < 15360)) _ _=_; rw [decide_eq_true h]; rfl
  ·rw [if_neg h]; show cond (decide (b < 15360)) _ _=_; rw [decide_eq_false h]; rfl
 have s5:Cp.l1 b 5=some (.done 256):=rfl
 unfold Cp pL
 rw [Fg,s0]
 split
 ·rfl
 show Dl _ (1:Int)=_
 rw [Fg,s1]
 split
 ·rfl
 show Dl _ (2:Int)=_
 rw [Fg,s2]
 split
 ·rfl
 show Dl _ (3:Int)=_
 rw [Fg,s3]
 split
 ·rfl
 show Dl _ (4:Int)=_
 rw [Fg,s4]
 split
 ·rfl
 show Dl _ (5:Int)=_
 rw [Fg,s5]; rfl
theorem U0 (b:Int):C6 b=some (Fj b):=by
 unfold C6 C6.j1 Fj pL
 by_cases h1:b < 512
 ·rw [decide_eq_true h1,if_neg (by omega)]; rfl
 ·by_cases h2:16384 < b
  ·rw [decide_eq_false h1,decide_eq_true h2,if_neg (by omega)]; rfl
  ·rw [decide_eq_false h1,decide_eq_false h2,if_pos (by omega)]
   simp only [cond_false]
   by_cases a:b < 1024
   ·simp [a]
   by_cases a2:b < 2048
   ·simp [a,a2]
   by_cases a3:b < 3072
   ·simp [a,a2,a3]
   by_cases a4:b < 7680
   ·simp [a,a2,a3,a4]
   by_cases a5:b < 15360 <;> simp [a,a2,a3,a4,a5]
theorem wU (b:Int):As ⟨1,b⟩=some (Gv 1 b):=by
 show cond (decide (b=0)) (some 18) (some 0)=some (Ea 18 b)
 unfold Ea
 by_cases h:b=0 <;> simp [h]
theorem yO (b:Int):Aq ⟨1,b⟩=some (Gv 1 b):=by
 show (Bd b [0] [18]).bind (fun y_8=>some y_8)=some (Ea 18 b)
 rw [E1 b [0] [18] rfl (by decide)]
 unfold Ot Ea
 by_cases h:b=0 <;> simp [h]
theorem xB (b:Int):As ⟨2,b⟩=some (Gv 2 b):=by
 show cond (decide (b=0)) (some 60) (some 0)=some (Ea 60 b)
 unfold Ea
 by_cases h:b=0 <;> simp [h]
theorem wX (b:Int):Aq ⟨2,b⟩=some (Gv 2 b):=by
 show (Bd b [0] [60]).bind (fun y_8=>some y_8)=some (Ea 60 b)
 rw [E1 b [0] [60] rfl (by decide)]
 unfold Ot Ea
 by_cases h:b=0 <;> simp [h]
theorem xQ (b:Int):As ⟨3,b⟩=some (Gv 3 b):=by
 show cond (decide (b=0)) (some 128) (some 0)=some (Ea 128 b)
 unfold Ea
 by_cases h:b=0 <;> simp [h]
theorem xS (b:Int):Aq ⟨3,b⟩=some (Gv 3 b):=by
 show (Bd b [0] [128]).bind (fun y_8=>some y_8)=some (Ea 128 b)
 rw [E1 b [0] [128] rfl (by decide)]
 unfold Ot Ea
 by_cases h:b=0 <;> simp [h]
theorem wV (b:Int):As ⟨4,b⟩=some (Gv 4 b):=by
 show cond (decide (b=0)) (some 192) (some 0)=some (Ea 192 b)
 unfold Ea
 by_cases h:b=0 <;> simp [h]
theorem yR (b:Int):Aq ⟨4,b⟩=some (Gv 4 b):=by
 show (Bd b [0] [192]).bind (fun y_8=>some y_8)=some (Ea 192 b)
 rw [E1 b [0] [192] rfl (by decide)]
 unfold Ot Ea
 by_cases h:b=0 <;> simp [h]
theorem xH (b:Int):As ⟨5,b⟩=some (Gv 5 b):=by
 show cond (decide (512<=b)) (As.j1 ⟨5,b⟩ (decide (b<=16384))) (As.j1 ⟨5,b⟩ false)=some (Fj b)
 unfold As.j1 Fj
 rw [Uv]
 by_cases h1:512<=b <;> by_cases h2:b<=16384 <;> simp [h1,h2]
theorem yT (b:Int):Aq ⟨5,b⟩=some (Gv 5 b):=by
 show (C6 b).bind (fun y=>some y)=some (Fj b)
 rw [U0]; rfl
theorem yH (b:Int):As ⟨6,b⟩=some (Gv 6 b):=by
 show cond (decide (512<=b)) (As.j1 ⟨6,b⟩ (decide (b<=16384))) (As.j1 ⟨6,b⟩ false)=some (Fj b)
 unfold As.j1 Fj
 rw [Uv]
 by_cases h1:512<=b <;> by_cases h2:b<=16384 <;> simp [h1,h2]
theorem xN (b:Int):Aq ⟨6,b⟩=some (Gv 6 b):=by
 show (C6 b).bind (fun y=>some y)=some (Fj b)
 rw [U0]; rfl
theorem xR (b:Int):As ⟨7,b⟩=some (Gv 7 b):=by
 show (Eb [160,224,256,384,521] b).bind (fun y_3=>cond y_3 ((Rb b 2).bind fun q=>some q) (some 0))=some (M0 b)
 rw [Rz _ _ (by decide)]
 unfold M0
 by_cases h:b=160\/b=224\/b=256\/b=384\/b=521
 ·rw [if_pos h,decide_eq_true (by simpa using h)]
  rcases h with h | h | h | h | h <;> (subst h; rfl)
 ·rw [if_neg h,decide_eq_false (by simpa using h)]; rfl
theorem xE (b:Int):Aq ⟨7,b⟩=some (Gv 7 b):=by
 show Aq.j2 ⟨7,b⟩ true=some (M0 b)
 unfold Aq.j2 Aq.j3 M0
 by_cases h:b=160\/b=224\/b=256\/b=384\/b=521
 ·rw [if_pos h]
  rcases h with h | h | h | h | h <;> (subst h; rfl)
 ·rw [if_neg h]
  have h1:¬ b=160:=by omega
  have h2:¬ b=224:=by omega
  have h3:¬ b=256:=by omega
  have h4:¬ b=384:=by omega
  have h5:¬ b=521:=by omega
  simp [h1,h2,h3,h4,h5]
theorem yV (b:Int):As ⟨8,b⟩=some (Gv 8 b):=by
 show cond (decide (b=0)) (some 128) (some 0)=some (Ea 128 b)
 unfold Ea
 by_cases h:b=0 <;> simp [h]
theorem yM (b:Int):Aq ⟨8,b⟩=some (Gv 8 b):=by
 show (Bd b [0] [128]).bind (fun y_8=>some y_8)=some (Ea 128 b)
 rw [E1 b [0] [128] rfl (by decide)]
 unfold Ot Ea
 by_cases h:b=0 <;> simp [h]
theorem xV (b:Int):As ⟨9,b⟩=some (Gv 9 b):=by
 show (Bm [44,65,87] b).bind (fun y_4=>cond (decide (0<=y_4)) ((Dd [128,192,256] y_4).bind fun e_2=>some e_2) (some 0))=some (Ot [44,65,87] [128,192,256] b)
 rw [Kg _ _ (by decide)]
 unfold Ot
 cases h:List.findIdx? (fun e=>decide (b=e)) [44,65,87] with
 | none=>rfl
 | some i=>
  have hi:=(List.findIdx?_eq_some_iff_getElem.1 h).1
  have:i < 3:=hi
  rcases (by omega:i=0\/i=1\/i=2) with h | h | h <;> (subst h; rfl)
theorem wY (b:Int):Aq ⟨9,b⟩=some (Gv 9 b):=by
 show (Bd b [44,65,87] [128,192,256]).bind (fun y=>some y)=some (Ot [44,65,87] [128,192,256] b)
 rw [E1 b [44,65,87] [128,192,256] rfl (by decide)]; rfl
theorem wQ (b:Int):As ⟨10,b⟩=some (Gv 10 b):=by
 show cond (decide (512<=b)) (As.j1 ⟨10,b⟩ (decide (b<=16384))) (As.j1 ⟨10,b⟩ false)=some (Fj b)
 unfold As.j1 Fj
 rw [Uv]
 by_cases h1:512<=b <;> by_cases h2:b<=16384 <;> simp [h1,h2]
theorem uV (b:Int):Aq ⟨10,b⟩=some (Gv 10 b):=by
 show (C6 b).bind (fun y=>some y)=some (Fj b)
 rw [U0]; rfl
theorem wD (b:Int):As ⟨11,b⟩=some (Gv 11 b):=by
 show cond (decide (512<=b)) (As.j1 ⟨11,b⟩ (decide (b<=16384))) (As.j1 ⟨11,b⟩ false)=some (Fj b)
 unfold As.j1 Fj
 rw [Uv]
 by_cases h1:512<=b <;> by_cases h2:b<=16384 <;> simp [h1,h2]
theorem vN (b:Int):Aq ⟨11,b⟩=some (Gv 11 b):=by
 show (C6 b).bind (fun y=>some y)=some (Fj b)
 rw [U0]; rfl
theorem vG (b:Int):As ⟨12,b⟩=some (Gv 12 b):=by
 show (Eb [160,224,256,384,521] b).bind (fun y_3=>cond y_3 ((Rb b 2).bind fun q=>some q) (some 0))=some (M0 b)
 rw [Rz _ _ (by decide)]
 unfold M0
 by_cases h:b=160\/b=224\/b=256\/b=384\/b=521
 ·rw [if_pos h,decide_eq_true (by simpa using h)]
  rcases h with h | h | h | h | h <;> (subst h; rfl)
 ·rw [if_neg h,decide_eq_false (by simpa using h)]; rfl
theorem vU (b:Int):Aq ⟨12,b⟩=some (Gv 12 b):=by
 show Aq.j2 ⟨12,b⟩ true=some (M0 b)
 unfold Aq.j2 Aq.j3 M0
 by_cases h:b=160\/b=224\/b=256\/b=384\/b=521
 ·rw [if_pos h]
  rcases h with h | h | h | h | h <;> (subst h; rfl)
 ·rw [if_neg h]
  have h1:¬ b=160:=by omega
  have h2:¬ b=224:=by omega
  have h3:¬ b=256:=by omega
  have h4:¬ b=384:=by omega
  have h5:¬ b=521:=by omega
  simp [h1,h2,h3,h4,h5]
theorem uL (b:Int):As ⟨13,b⟩=some (Gv 13 b):=by
 show (Bm [512,768,1024] b).bind (fun y_4=>cond (decide (0<=y_4)) ((Dd [128,192,256] y_4).bind fun e_2=>some e_2) (some 0))=some (Ot [512,768,1024] [128,192,256] b)
 rw [Kg _ _ (by decide)]
 unfold Ot
 cases h:List.findIdx? (fun e=>decide (b=e)) [512,768,1024] with
 | none=>rfl
 | some i=>
  have hi:=(List.findIdx?_eq_some_iff_getElem.1 h).1
  have:i < 3:=hi
  rcases (by omega:i=0\/i=1\/i=2) with h | h | h <;> (subst h; rfl)
theorem sS (b:Int):Aq ⟨13,b⟩=some (Gv 13 b):=by
 show (Bd b [512,768,1024] [128,192,256]).bind (fun y=>some y)=some (Ot [512,768,1024] [128,192,256] b)
 rw [E1 b [512,768,1024] [128,192,256] rfl (by decide)]; rfl
theorem uU (b:Int):As ⟨14,b⟩=some (Gv 14 b):=by
 show (Bm [40,128] b).bind (fun y_4=>cond (decide (0<=y_4)) ((Dd [40,60] y_4).bind fun e_2=>some e_2) (some 0))=some (Ot [40,128] [40,60] b)
 rw [Kg _ _ (by decide)]
 unfold Ot
 cases h:List.findIdx? (fun e=>decide (b=e)) [40,128] with
 | none=>rfl
 | some i=>
  have hi:=(List.findIdx?_eq_some_iff_getElem.1 h).1
  have:i < 2:=hi
  rcases (by omega:i=0\/i=1) with h | h <;> (subst h; rfl)
theorem vR (b:Int):Aq ⟨14,b⟩=some (Gv 14 b):=by
 show (Bd b [40,128] [40,60]).bind (fun y=>some y)=some (Ot [40,128] [40,60] b)
 rw [E1 b [40,128] [40,60] rfl (by decide)]; rfl
theorem sO (b:Int):As ⟨15,b⟩=some (Gv 15 b):=by
 show (Bm [112,168] b).bind (fun y_4=>cond (decide (0<=y_4)) ((Dd [80,112] y_4).bind fun e_2=>some e_2) (some 0))=some (Ot [112,168] [80,112] b)
 rw [Kg _ _ (by decide)]
 unfold Ot
 cases h:List.findIdx? (fun e=>decide (b=e)) [112,168] with
 | none=>rfl
 | some i=>
  have hi:=(List.findIdx?_eq_some_iff_getElem.1 h).1
  have:i < 2:=hi
  rcases (by omega:i=0\/i=1) with h | h <;> (subst h; rfl)
theorem uO (b:Int):Aq ⟨15,b⟩=some (Gv 15 b):=by
 show (Bd b [112,168] [80,112]).bind (fun y=>some y)=some (Ot [112,168] [80,112] b)
 rw [E1 b [112,168] [80,112] rfl (by decide)]; rfl
theorem uT (b:Int):As ⟨16,b⟩=some (Gv 16 b):=by
 show (Bm [128,256] b).bind (fun y_4=>cond (decide (0<=y_4)) ((Dd [128,256] y_4).bind fun e_2=>some e_2) (some 0))=some (Ot [128,256] [128,256] b)
 rw [Kg _ _ (by decide)]
 unfold Ot
 cases h:List.findIdx? (fun e=>decide (b=e)) [128,256] with
 | none=>rfl
 | some i=>
  have hi:=(List.findIdx?_eq_some_iff_getElem.1 h).1
  have:i < 2:=hi
  rcases (by omega:i=0\/i=1) with h | h <;> (subst h; rfl)
theorem uG (b:Int):Aq ⟨16,b⟩=some (Gv 16 b):=by
 show (Bd b [128,256] [128,256]).bind (fun y=>some y)=some (Ot [128,256] [128,256] b)
 rw [E1 b [128,256] [128,256] rfl (by decide)]; rfl
theorem vV (b:Int):As ⟨17,b⟩=some (Gv 17 b):=by
 show (Bm [128,256] b).bind (fun y_4=>cond (decide (0<=y_4)) ((Dd [128,256] y_4).bind fun e_2=>some e_2) (some 0))=some (Ot [128,256] [128,256] b)
 rw [Kg _ _ (by decide)]
 unfold Ot
 cases h:List.findIdx? (fun e=>decide (b=e)) [128,256] with
 | none=>rfl
 | some i=>
  have hi:=(List.findIdx?_eq_some_iff_getElem.1 h).1
  have:i < 2:=hi
  rcases (by omega:i=0\/i=1) with h | h <;> (subst h; rfl)
theorem wM (b:Int):Aq ⟨17,b⟩=some (Gv 17 b):=by
 show (Bd b [128,256] [128,256]).bind (fun y=>some y)=some (Ot [128,256] [128,256] b)
 rw [E1 b [128,256] [128,256] rfl (by decide)]; rfl
theorem vA (b:Int):As ⟨18,b⟩=some (Gv 18 b):=by
 show cond (decide (b=0)) (some 256) (some 0)=some (Ea 256 b)
 unfold Ea
 by_cases h:b=0 <;> simp [h]
theorem vH (b:Int):Aq ⟨18,b⟩=some (Gv 18 b):=by
 show (Bd b [0] [256]).bind (fun y_8=>some y_8)=some (Ea 256 b)
 rw [E1 b [0] [256] rfl (by decide)]
 unfold Ot Ea
 by_cases h:b=0 <;> simp [h]
theorem vI (b:Int):As ⟨19,b⟩=some (Gv 19 b):=by
 show cond (decide (b=0)) (some 64) (some 0)=some (Ea 64 b)
 unfold Ea
 by_cases h:b=0 <;> simp [h]
theorem tV (b:Int):Aq ⟨19,b⟩=some (Gv 19 b):=by
 show (Bd b [0] [64]).bind (fun y_8=>some y_8)=some (Ea 64 b)
 rw [E1 b [0] [64] rfl (by decide)]
 unfold Ot Ea
 by_cases h:b=0 <;> simp [h]
theorem uI (b:Int):As ⟨20,b⟩=some (Gv 20 b):=by
 show cond (decide (b=0)) (some 80) (some 0)=some (Ea 80 b)
 unfold Ea
 by_cases h:b=0 <;> simp [h]
theorem sU (b:Int):Aq ⟨20,b⟩=some (Gv 20 b):=by
 show (Bd b [0] [80]).bind (fun y_8=>some y_8)=some (Ea 80 b)
 rw [E1 b [0] [80] rfl (by decide)]
 unfold Ot Ea
 by_cases h:b=0 <;> simp [h]
theorem uF (b:Int):As ⟨21,b⟩=some (Gv 21 b):=by
 show cond (decide (b=0)) (some 128) (some 0)=some (Ea 128 b)
 unfold Ea
 by_cases h:b=0 <;> simp [h]
theorem uW (b:Int):Aq ⟨21,b⟩=some (Gv 21 b):=by
 show (Bd b [0] [128]).bind (fun y_8=>some y_8)=some (Ea 128 b)
 rw [E1 b [0] [128] rfl (by decide)]
 unfold Ot Ea
 by_cases h:b=0 <;> simp [h]
theorem tI (b:Int):As ⟨22,b⟩=some (Gv 22 b):=by
 show cond (decide (b=0)) (some 256) (some 0)=some (Ea 256 b)
 unfold Ea
 by_cases h:b=0 <;> simp [h]
theorem tK (b:Int):Aq ⟨22,b⟩=some (Gv 22 b):=by
 show (Bd b [0] [256]).bind (fun y_8=>some y_8)=some (Ea 256 b)
 rw [E1 b [0] [256] rfl (by decide)]
 unfold Ot Ea
 by_cases h:b=0 <;> simp [h]
theorem P3 {a:Int} (h:1<=a/\a<=22):a=1\/a=2\/a=3\/a=4\/a=5\/a=6\/a=7\/a=8\/a=9\/a=10\/a=11\/a=12\/a=13\/a=14\/a=15\/a=16\/a=17\/a=18\/a=19\/a=20\/a=21\/a=22:=by omega
theorem Z2 (u:A3):As u=some (Wa u):=by
 obtain⟨a,b⟩:=u
 unfold Wa
 by_cases h0:1<=a/\a<=22
 ·rw [if_pos h0]
  rcases P3 h0 with h | h | h | h | h | h | h | h | h | h | h | h | h | h | h | h | h | h | h | h | h | h <;> subst h
  ·exact wU b
  ·exact xB b
  ·exact xQ b
  ·exact wV b
  ·exact xH b
  ·exact yH b
  ·exact xR b
  ·exact yV b
  ·exact xV b
  ·exact wQ b
  ·exact wD b
  ·exact vG b
  ·exact uL b
  ·exact uU b
  ·exact sO b
  ·exact uT b
  ·exact vV b
  ·exact vA b
  ·exact vI b
  ·exact uI b
  ·exact uF b
  ·exact tI b
 ·rw [if_neg h0]
  unfold As Ds
  by_cases h1:a < 1
  ·simp [h1,Ds.j1]
  ·have h2:22 < a:=by omega
   simp [h1,h2,Ds.j1]
theorem Z3 (u:A3):Aq u=some (Wa u):=by
 obtain⟨a,b⟩:=u
 unfold Wa
 by_cases h0:1<=a/\a<=22
 ·rw [if_pos h0]
  rcases P3 h0 with h | h | h | h | h | h | h | h | h | h | h | h | h | h | h | h | h | h | h | h | h | h <;> subst h
  ·exact yO b
  ·exact wX b
  ·exact xS b
  ·exact yR b
  ·exact yT b
  ·exact xN b
  ·exact xE b
  ·exact yM b
  ·exact wY b
  ·exact uV b
  ·exact vN b
  ·exact vU b
  ·exact sS b
  ·exact vR b
  ·exact uO b
  ·exact uG b
  ·exact wM b
  ·exact vH b
  ·exact tV b
  ·exact sU b
  ·exact uW b
  ·exact tK b
 ·rw [if_neg h0]
  have h1:¬ a=1:=by omega
  have h2:¬ a=2:=by omega
  have h3:¬ a=3:=by omega
  have h4:¬ a=4:=by omega
  have h5:¬ a=5:=by omega
  have h6:¬ a=6:=by omega
  have h7:¬ a=7:=by omega
  have h8:¬ a=8:=by omega
  have h9:¬ a=9:=by omega
  have h10:¬ a=10:=by omega
  have h11:¬ a=11:=by omega
  have h12:¬ a=12:=by omega
  have h13:¬ a=13:=by omega
  have h14:¬ a=14:=by omega
  have h15:¬ a=15:=by omega
  have h16:¬ a=16:=by omega
  have h17:¬ a=17:=by omega
  have h18:¬ a=18:=by omega
  have h19:¬ a=19:=by omega
  have h20:¬ a=20:=by omega
  have h21:¬ a=21:=by omega
  have h22:¬ a=22:=by omega
  simp [Aq,Aq.j1,Aq.j2,Aq.j4,Cq,Cq.j1,Cq.j2,h1,h2,h3,h4,h5,h6,h7,h8,h9,h10,h11,h12,h13,h14,h15,h16,h17,h18,h19,h20,h21,h22]
  rw [E1 b [0] [0] rfl (by decide)]
  unfold Ot
  by_cases h:b=0 <;> simp [h]
theorem mR (a:Int):Il a=some (W2 a):=by
 unfold W2
 by_cases h0:1<=a/\a<=22
 ·rw [if_pos h0]
  rcases P3 h0 with h | h | h | h | h | h | h | h | h | h | h | h | h | h | h | h | h | h | h | h | h | h <;> (subst h; rfl)
 ·rw [if_neg h0]
  unfold Il Ds
  by_cases h1:a < 1
  ·simp [h1,Ds.j1]
  ·have h2:22 < a:=by omega
   simp [h1,h2,Ds.j1]
theorem bN (a:Int):Eg a=some (W2 a):=by
 unfold W2
 by_cases h0:1<=a/\a<=22
 ·rw [if_pos h0]
  rcases P3 h0 with h | h | h | h | h | h | h | h | h | h | h | h | h | h | h | h | h | h | h | h | h | h <;> (subst h; rfl)
 ·rw [if_neg h0]
  unfold Eg
  by_cases h1:a < 1
  ·simp [h1,Eg.j1]
  ·have h2:22 < a:=by omega
   simp [h1,h2,Eg.j1]
theorem iJ (u:A3):Hv u=some (decide (0 < Wa u)):=by unfold Hv; rw [Z2]; rfl
theorem Yq (u:A3):Hy u=some (decide (0 < Wa u)):=by unfold Hy; rw [Z3]; rfl
end
section
open Go
theorem Uw {i n:Nat} (h:i < n) (hn:n<=9223372036854775807):W ((i:Int) + 1)=((i + 1:Nat):Int):=by
 rw [Fv (by omega)]; omega
theorem Vb (s:ByteArray):(Ln s).length=s.size:=by unfold Ln; rw [aD0]; rfl
theorem rB {s:ByteArray} {i:Nat} {c:UInt8} (h:(Ln s)[i]?=some c):idxT s (i:Int)=some c:=by
 unfold idxT
 rw [if_neg (by omega),Int.toNat_natCast]
 unfold Ln at h
 rw [<- h]; simp
def pY (c:UInt8):Bool:=decide (33<=(c.toNat:Int)) && decide ((c.toNat:Int)<=126)
def Iy (s:ByteArray):Bool:=decide (1<=(s.size:Int)) && decide ((s.size:Int)<=32) && !(Ln s).any (fun c=>!pY c)
theorem S7 (s:ByteArray) (hs:s.size<=9223372036854775807):Bw s=some (Iy s):=by
 unfold Bw Iy
 refine (R2 (body:=fun q'=>Bw.l1 s q') (Ln s) (fun i=>(i:Int)) (fun c=>!pY c) false (decide (1<=(s.size:Int)) && decide ((s.size:Int)<=32)) (fun i c hc=>?_) ?_).trans ?_
 ·have h1:=Rx hc
  rw [Vb] at h1
  show Bw.l1 s (i:Int)=_
  unfold Bw.l1 Bw.j2 pY
  rw [Fs hc,Uw h1 hs]
  by_cases a:(c.toNat:Int)<=32
  ·rw [decide_eq_true a,decide_eq_false (show ¬ (33:Int)<=(c.toNat:Int) by omega)]; rfl
  ·rw [decide_eq_false a,decide_eq_true (show (33:Int)<=(c.toNat:Int) by omega)]
   by_cases b:126 < (c.toNat:Int)
   ·rw [decide_eq_true b,decide_eq_false (by omega)]; rfl
   ·rw [decide_eq_false b,decide_eq_true (by omega)]; rfl
 ·show Bw.l1 s ((Ln s).length:Int)=_
  unfold Bw.l1
  rw [Ej]
  by_cases a:(1:Int)<=(s.size:Int) <;> simp [a,up]
 ·cases (Ln s).any fun c=>!pY c <;> simp
theorem Ww (s:ByteArray) (hs:s.size<=9223372036854775807):Bu s=some (Iy s):=by
 unfold Bu Iy
 have hl:Bu.j1 s false=some (!(Ln s).any fun c=>!pY c):=by
  unfold Bu.j1
  rw [cond_false]
  refine (R2 (body:=fun q'=>Bu.l2 s q') (Ln s) (fun i=>(i:Int)) (fun c=>!pY c) false true (fun i c hc=>?_) ?_).trans ?_
  ·have h1:=Rx hc
   rw [Vb] at h1
   show Bu.l2 s (i:Int)=_
   unfold Bu.l2 Bu.j3 pY
   rw [decide_eq_true (by omega),cond_true,rB hc,Option.bind_some,Option.bind_some,Uw h1 hs]
   by_cases a:(c.toNat:Int) < 33
   ·rw [decide_eq_true a,decide_eq_false (show ¬ (33:Int)<=(c.toNat:Int) by omega)]; rfl
   ·rw [decide_eq_false a,decide_eq_true (show (33:Int)<=(c.toNat:Int) by omega)]
    by_cases b:126 < (c.toNat:Int)
    ·rw [decide_eq_true b,decide_eq_false (by omega)]; rfl
    ·rw [decide_eq_false b,decide_eq_true (by omega)]; rfl
  ·show Bu.l2 s ((Ln s).length:Int)=_
   unfold Bu.l2
   rw [Vb,Ej]; rfl
  ·cases (Ln s).any fun c=>!pY c <;> rfl
 by_cases a:(s.size:Int) < 1
 ·rw [decide_eq_true a,decide_eq_false (show ¬ (1:Int)<=(s.size:Int) by omega)]; rfl
 ·rw [decide_eq_false a,decide_eq_true (show (1:Int)<=(s.size:Int) by omega),cond_false]
  by_cases b:32 < (s.size:Int)
  ·rw [decide_eq_true b,decide_eq_false (by omega)]; rfl
  ·rw [decide_eq_false b,decide_eq_true (by omega),hl]; simp
def Ws (l:List ByteArray) (i:Nat):Bool:=!Iy (l.getD i ⟨#[]⟩) || (decide (0 < i) && !kJ (Ln (l.getD (i - 1) ⟨#[]⟩)) (Ln (l.getD i ⟨#[]⟩)))
def Kw (l:List ByteArray):Bool:=!(List.range l.length).any (Ws l)
theorem Pt {α:Type} {l:List α} {i:Nat} {x d:α} (h:l[i]?=some x):l.getD i d=x:=by
 rw [List.getD_eq_getElem?_getD,h]; rfl
theorem eJ (l:List ByteArray) (hl:l.length<=9223372036854775807) (hs:∀ s∈l,s.size<=9223372036854775807):Be l=some (Kw l && decide ((l.length:Int)<=8)):=by
 unfold Be Kw
 refine (S3 (body:=fun q'=>Be.l1 l q') l.length (fun i=>(i:Int)) (Ws l) false (decide ((l.length:Int)<=8)) (fun i hi=>?_) ?_).trans ?_
 ·obtain⟨s,hx⟩:∃ s,l[i]?=some s:=⟨_,List.getElem?_eq_getElem hi⟩
  show Be.l1 l (i:Int)=_
  unfold Be.l1 Ws
  rw [Fs hx,S7 s (hs s (I3 hx)),Option.bind_some,Pt hx]
  cases hn:Iy s with
  | false=>rfl
  | true=>
   rw [Bool.not_true,cond_false,Bool.false_or]
   cases i with
   | zero=>rfl
   | succ i=>
    obtain⟨p,hp⟩:∃ p,l[i]?=some p:=⟨_,List.getElem?_eq_getElem (by omega)⟩
    rw [decide_eq_true (by omega),cond_true,Fv (by omega),show ((i + 1:Nat):Int) - 1=(i:Int) by omega,Hu,hp,Option.bind_some,show i + 1 - 1=i from rfl,Pt hp,decide_eq_true (by omega),Bool.true_and]
    unfold Be.j2
    rw [Uw (n:=l.length) (by omega) hl]
    cases kJ (Ln p) (Ln s) <;> rfl
 ·show Be.l1 l (l.length:Int)=_
  unfold Be.l1
  rw [Ej]; rfl
 ·cases (List.range l.length).any (Ws l) <;> rfl
end
section
open Go
def Uj (u:A3) (k:Int):Bool:=decide (0 < Wa u) && decide (W2 u.Alg=k)
def Sl (c:Ab):List Bool:=[decide (c.Serial < 0),decide (1099511627776 < c.Serial),!Iy c.Issuer,!Iy c.Subject,!Kw c.Names,decide (8 < (c.Names.length:Int)),!Uj c.Key 2,decide (c.KeyId < 0),decide (2147483648 < c.KeyId),!Uj c.Hash 1,decide (c.Seal.Key < 0),decide (2147483648 < c.Seal.Key),decide (c.Seal.Sum < 0),decide (4294967296<=c.Seal.Sum),decide (c.From < 0),decide (c.To < c.From),decide (40000 < c.To),decide (c.Path < 0),decide (8 < c.Path),!c.Authority && !decide (c.Path=0)]
def Fq (c:Ab):Bool:=!(Sl c).any id
structure Ik (c:Ab):Prop where
 names:c.Names.length < 1000000000
 name:∀ s∈c.Names,s.size<=9223372036854775807
 issuer:c.Issuer.size<=9223372036854775807
 subject:c.Subject.size<=9223372036854775807
 ints:∀ n∈[c.Serial,c.Key.Alg,c.Key.Bits,c.KeyId,c.Hash.Alg,c.Hash.Bits,c.From,c.To,c.Path,c.Seal.Key,c.Seal.Sum],-9223372036854775808<=n/\n<=9223372036854775807
structure aBd (c:Ab):Prop where
 names:c.Names.length<=9223372036854775807
 name:∀ s∈c.Names,s.size<=9223372036854775807
 issuer:c.Issuer.size<=9223372036854775807
 subject:c.Subject.size<=9223372036854775807
theorem Ik.w {c:Ab} (h:Ik c):aBd c:=⟨by have:=h.names; omega,h.name,h.issuer,h.subject⟩
theorem oK (u:A3) (k:Int):Gj u k=some (Uj u k):=by
 unfold Gj Uj
 rw [iJ,mR,Option.bind_some]
 cases decide (0 < Wa u) <;> rfl
theorem Xw (u:A3):Gz u=some (Uj u 2):=by
 unfold Gz Uj
 rw [Yq,bN,Option.bind_some]
 cases decide (0 < Wa u) <;> rfl
theorem Zm (n:Int):E9 n=some (!(decide (n < 0) || decide (2147483648 < n))):=by
 unfold E9
 by_cases a:n < 0
 ·rw [decide_eq_true a,decide_eq_false (show ¬ 0<=n by omega)]; rfl
 ·rw [decide_eq_false a,decide_eq_true (show 0<=n by omega)]
  by_cases b:n<=2147483648
  ·rw [decide_eq_true b,decide_eq_false (show ¬ 2147483648 < n by omega)]; rfl
  ·rw [decide_eq_false b,decide_eq_true (show 2147483648 < n by omega)]; rfl
theorem pU (n:Int):Gy n=some (!(decide (n < 0) || decide (4294967296<=n))):=by
 unfold Gy
 by_cases a:n < 0
 ·rw [decide_eq_true a,decide_eq_false (show ¬ 0<=n by omega)]; rfl
 ·rw [decide_eq_false a,decide_eq_true (show 0<=n by omega)]
  by_cases b:n < 4294967296
  ·rw [decide_eq_true b,decide_eq_false (show ¬ 4294967296<=n by omega)]; rfl
  ·rw [decide_eq_false b,decide_eq_true (show 4294967296<=n by omega)]; rfl
theorem aAj (n:Nat):decide ((n:Int)<=8)=!decide (8 < (n:Int)):=by
 by_cases h:(n:Int)<=8
 ·rw [decide_eq_true h,decide_eq_false (by omega)]; rfl
 ·rw [decide_eq_false h,decide_eq_true (by omega)]; rfl
theorem rO (c:Ab):Au.j3 c false=some (!(decide (c.Path < 0) || decide (8 < c.Path) || (!c.Authority && !decide (c.Path=0)))):=by
 unfold Au.j3
 by_cases a:c.Path < 0
 ·rw [decide_eq_true a,decide_eq_false (show ¬ 0<=c.Path by omega)]; rfl
 ·rw [decide_eq_false a,decide_eq_true (show 0<=c.Path by omega)]
  by_cases b:c.Path<=8
  ·rw [decide_eq_true b,decide_eq_false (show ¬ 8 < c.Path by omega)]
   cases c.Authority <;> simp
  ·rw [decide_eq_false b,decide_eq_true (show 8 < c.Path by omega)]; rfl
theorem kO (c:Ab) (x:Bool):Au.j3 c x=some (!(x || decide (c.Path < 0) || decide (8 < c.Path) || (!c.Authority && !decide (c.Path=0)))):=by
 cases x
 ·rw [rO]; simp
 ·simp [Au.j3]
theorem dY (c:Ab) (h:aBd c):Au c=some (Fq c):=by
 unfold Au Au.j1 Au.j2
 simp only [kO]
 rw [S7 _ h.issuer,S7 _ h.subject,eJ _ h.names h.name,oK,Zm,oK,Zm,pU,aAj]
 simp only [Option.bind_some]
 unfold Fq Sl
 simp only [List.any_cons,List.any_nil,id]
 generalize decide (c.Serial < 0)=b1
 cases b1
 case true=>simp
 generalize decide (1099511627776 < c.Serial)=b2
 cases b2
 case true=>simp
 generalize Iy c.Issuer=b3
 cases b3
 case false=>simp
 generalize Iy c.Subject=b4
 cases b4
 case false=>simp
 generalize Kw c.Names=b5
 cases b5
 case false=>simp
 generalize decide (8 < (c.Names.length:Int))=b6
 cases b6
 case true=>simp
 generalize Uj c.Key 2=b7
 cases b7
 case false=>simp
 generalize decide (c.KeyId < 0)=b8
 cases b8
 case true=>simp
 generalize decide (2147483648 < c.KeyId)=b9
 cases b9
 case true=>simp
 generalize Uj c.Hash 1=b10
 cases b10
 case false=>simp
 generalize decide (c.Seal.Key < 0)=b11
 cases b11
 case true=>simp
 generalize decide (2147483648 < c.Seal.Key)=b12
 cases b12
 case true=>simp
 generalize decide (c.Seal.Sum < 0)=b13
 cases b13
 case true=>simp
 generalize decide (4294967296<=c.Seal.Sum)=b14
 cases b14
 case true=>simp
 generalize decide (c.From < 0)=b15
 cases b15
 case true=>simp
 generalize decide (c.To < c.From)=b16
 cases b16
 case true=>simp
 generalize decide (40000 < c.To)=b17
 cases b17
 case true=>simp
 generalize decide (c.Path < 0)=b18
 generalize decide (8 < c.Path)=b19
 generalize decide (c.Path=0)=b20
 cases b18 <;> cases b19 <;> cases b20 <;> simp
theorem Th (c:Ab) (h:Ik c):Au c=some (Fq c):=dY c h.w
end
section
open Go
def Ri (c:Ab):Bool:=decide (c.Seal.Key < 0) || (decide (2147483648 < c.Seal.Key) || (decide (c.Seal.Sum < 0) || decide (4294967296<=c.Seal.Sum)))
theorem sX (c:Ab) (h:aBd c) (x:Bool):Ar.j3 c x=some (bif (x || !Kw c.Names || Ri c) then 9 else 0):=by
 cases x
 ·unfold Ar.j3
  rw [cond_false]
  refine (S3 (body:=fun q'=>Ar.l4 c q') c.Names.length (fun i=>(i:Int)) (Ws c.Names) 9 (bif Ri c then 9 else 0) (fun i hi=>?_) ?_).trans ?_
  ·obtain⟨s,hx⟩:∃ s,c.Names[i]?=some s:=⟨_,List.getElem?_eq_getElem hi⟩
   have hN:=h.names
   show Ar.l4 c (i:Int)=_
   unfold Ar.l4 Ws
   rw [Fs hx,Ww s (h.name s (I3 hx)),Option.bind_some,Pt hx]
   cases hn:Iy s with
   | false=>rfl
   | true=>
    rw [Bool.not_true,cond_false,Bool.false_or]
    cases i with
    | zero=>rfl
    | succ i=>
     obtain⟨p,hp⟩:∃ p,c.Names[i]?=some p:=⟨_,List.getElem?_eq_getElem (by omega)⟩
     rw [decide_eq_true (by omega),cond_true,Fv (by omega),show ((i + 1:Nat):Int) - 1=(i:Int) by omega,Hu,hp,Option.bind_some,show i + 1 - 1=i from rfl,Pt hp,decide_eq_true (by omega),Bool.true_and]
     unfold Ar.j5
     rw [Uw (n:=c.Names.length) (by omega) hN]
     cases kJ (Ln p) (Ln s) <;> rfl
  ·show Ar.l4 c (c.Names.length:Int)=_
   unfold Ar.l4 Ar.j6 Ri
   rw [Ej]
   cases decide (c.Seal.Key < 0) <;> cases decide (2147483648 < c.Seal.Key) <;> cases decide (c.Seal.Sum < 0) <;> cases decide (4294967296<=c.Seal.Sum) <;> rfl
  ·unfold Kw
   cases (List.range c.Names.length).any (Ws c.Names) <;> cases Ri c <;> rfl
 ·rfl
theorem eX (c:Ab) (h:aBd c):Ar c=some (bif Fq c then 0 else 9):=by
 unfold Ar Ar.j1 Ar.j2
 simp only [sX c h]
 rw [Ww _ h.issuer,Ww _ h.subject,Xw,Yq,bN]
 simp only [Option.bind_some]
 unfold Fq Sl Ri
 simp only [List.any_cons,List.any_nil,id]
 have hu:Uj c.Hash 1=(decide (0 < Wa c.Hash) && decide (W2 c.Hash.Alg=1)):=rfl
 rw [hu]
 generalize decide (c.Serial < 0)=b1
 cases b1
 case true=>simp
 generalize decide (1099511627776 < c.Serial)=b2
 cases b2
 case true=>simp
 generalize Iy c.Issuer=b3
 cases b3
 case false=>simp
 generalize Iy c.Subject=b4
 cases b4
 case false=>simp
 generalize Uj c.Key 2=b7
 cases b7
 case false=>simp
 generalize decide (c.KeyId < 0)=b8
 cases b8
 case true=>simp
 generalize decide (2147483648 < c.KeyId)=b9
 cases b9
 case true=>simp
 generalize decide (0 < Wa c.Hash)=b10
 cases b10
 case false=>simp
 generalize decide (W2 c.Hash.Alg=1)=b10'
 cases b10'
 case false=>simp
 generalize decide (c.From < 0)=b15
 cases b15
 case true=>simp
 generalize decide (c.To < c.From)=b16
 cases b16
 case true=>simp
 generalize decide (40000 < c.To)=b17
 cases b17
 case true=>simp
 generalize decide (c.Path < 0)=b18
 cases b18
 case true=>simp
 generalize decide (8 < c.Path)=b19
 cases b19
 case true=>simp
 generalize decide (c.Path=0)=b20
 generalize c.Authority=b21
 generalize decide (8 < (c.Names.length:Int))=b6
 generalize Kw c.Names=b5
 cases b20 <;> cases b21 <;> cases b6 <;> cases b5 <;> simp <;> generalize decide (c.Seal.Key < 0)=b11 <;> generalize decide (2147483648 < c.Seal.Key)=b12 <;> generalize decide (c.Seal.Sum < 0)=b13 <;> generalize decide (4294967296<=c.Seal.Sum)=b14 <;> cases b11 <;> cases b12 <;> cases b13 <;> cases b14 <;> rfl
theorem S4 (c:Ab) (h:Ik c):Ar c=some (bif Fq c then 0 else 9):=eX c h.w
end
section
open Go
def Fx (s:ByteArray):Aa:=.mk 12 (Ln s) false []
def Qm (b:Bool):Aa:=.mk 1 [bif b then 255 else 0] false []
def Ml (l:List Aa):Aa:=.mk 48 [] true l
def Rw (u:A3):Aa:=Ml [I0 u.Alg,I0 u.Bits]
def Hj (c:Ab):List Aa:=[I0 c.Serial,Fx c.Issuer,Fx c.Subject,Rw c.Key,I0 c.KeyId,Rw c.Hash,I0 c.From,I0 c.To,Qm c.Authority,I0 c.Path,Ml (c.Names.map Fx)]
def G6 (c:Ab):Aa:=Ml (Hj c)
theorem Qt {s:ByteArray} (h:Iy s=true):s.size<=32:=by
 unfold Iy at h
 simp only [Bool.and_eq_true,aDa] at h
 omega
theorem bB {l:List ByteArray} (h:Kw l=true):∀ s∈l,s.size<=32:=by
 intro s hs
 obtain⟨i,hi,e⟩:=aB6 hs
 unfold Kw at h
 have h1:(List.range l.length).any (Ws l)=false:=by simpa using h
 rw [List.any_eq_false] at h1
 have h2:=h1 i (aDm.2 hi)
 unfold Ws at h2
 rw [Pt (List.getElem?_eq_getElem hi),e] at h2
 refine Qt ?_
 cases hn:Iy s with
 | true=>rfl
 | false=>rw [hn] at h2; simp at h2
theorem Po {c:Ab} (h:Fq c=true):c.Issuer.size<=32/\c.Subject.size<=32/\c.Names.length<=8/\∀ s∈c.Names,s.size<=32:=by
 unfold Fq Sl at h
 simp only [List.any_cons,List.any_nil,id,aCe,Bool.or_eq_false_iff] at h
 obtain⟨-,-,h3,h4,h5,h6,-⟩:=h
 refine⟨Qt (by simpa using h3),Qt (by simpa using h4),?_,bB (by simpa using h5)⟩
 have:=of_decide_eq_false h6
 omega
theorem Rr (s:ByteArray):(Fx s).sz=s.size + 1:=by
 unfold Fx
 rw [Ha]
 show (Ln s).length + Fz [] + 1=_
 rw [Vb,Fz]
theorem Sg:∀ l:List ByteArray,(∀ s∈l,s.size<=32)->Fz (l.map Fx)<=33 * l.length
 | [],_=>aBk _
 | s :: l,h=>by
  have h1:=Sg l fun x hx=>h x (List.mem_cons_of_mem _ hx)
  have h2:=h s (aA9 ..)
  rw [aB2,Fz,Rr,List.length_cons]; omega
theorem S1 (u:A3):(Rw u).sz<=19:=by
 unfold Rw Ml
 have h1:=Hf u.Alg
 have h2:=Hf u.Bits
 rw [Ha]
 show 0 + Fz [I0 u.Alg,I0 u.Bits] + 1<=19
 simp only [Fz]; omega
theorem H7 (l:List Aa):(Ml l).sz=Fz l + 1:=by
 unfold Ml
 rw [Ha]
 show 0 + Fz l + 1=_
 omega
theorem Pz {c:Ab} (h:Fq c=true):Fz (Hj c)<=1000:=by
 obtain⟨h1,h2,h3,h4⟩:=Po h
 have t:=Sg c.Names h4
 have a1:=Hf c.Serial
 have a2:=S1 c.Key
 have a3:=Hf c.KeyId
 have a4:=S1 c.Hash
 have a5:=Hf c.From
 have a6:=Hf c.To
 have a7:=Hf c.Path
 have a8:(Qm c.Authority).sz=2:=by unfold Qm; rw [Ha]; simp [Fz]
 unfold Hj
 simp only [Fz,Rr,H7,a8]
 omega
theorem qZ (u:A3):Fw u=some (Rw u):=by
 have:=S1 u
 unfold Rw at this
 rw [H7] at this
 unfold Fw
 rw [P4,Option.bind_some,P4,Option.bind_some,Wu _ (by omega)]; rfl
theorem U1 (u:A3) (h1:-9223372036854775808<=u.Alg/\u.Alg<=9223372036854775807) (h2:-9223372036854775808<=u.Bits/\u.Bits<=9223372036854775807):Jr u=some (Rw u):=by
 have:=S1 u
 unfold Rw at this
 rw [H7] at this
 unfold Jr
 rw [Ez _ h1.1 h1.2,Option.bind_some,Ez _ h2.1 h2.2,Option.bind_some,Ki _ (by omega)]; rfl
theorem kC (b:Bool):Np b=some (Qm b):=by cases b <;> rfl
theorem Wx (b:Bool):K9 b=some (Qm b):=by cases b <;> rfl
theorem cP (c:Ab) (h:Fq c=true):Ch c=some (G6 c):=by
 obtain⟨h1,h2,h3,h4⟩:=Po h
 have t:=Sg c.Names h4
 have hb:=Pz h
 unfold Ch
 refine Fy (body:=fun q'=>Ch.l1 c q'.1 q'.2) c.Names.length (fun i=>((i:Int),(c.Names.take i).map Fx)) (G6 c) ?_ ?_
 ·intro i hi
  obtain⟨s,hx⟩:∃ s,c.Names[i]?=some s:=⟨_,List.getElem?_eq_getElem hi⟩
  show Ch.l1 c (i:Int) ((c.Names.take i).map Fx)=_
  unfold Ch.l1
  rw [Fs hx,show Jk s=some (Fx s) from rfl,Option.bind_some,D5 (by simp; omega),Option.bind_some,Gp (by omega),Fm hx,aCh]
  rfl
 ·show Ch.l1 c (c.Names.length:Int) ((c.Names.take c.Names.length).map Fx)=_
  unfold Ch.l1
  have hT:∀ s,Jk s=some (Fx s):=fun _=>rfl
  rw [Ej,aBm]
  simp only [P4,hT,qZ,kC,Option.bind_some]
  rw [lL _ (by omega)]
  simp only [Option.bind_some]
  show up ((Ib (Hj c)).bind fun y=>some y)=_
  rw [Wu _ (show Fz (Hj c) < 1073741824 by omega)]
  rfl
theorem nT (c:Ab) (hf:Ik c) (h:Fq c=true):Co c=some (G6 c):=by
 obtain⟨h1,h2,h3,h4⟩:=Po h
 have t:=Sg c.Names h4
 have hb:=Pz h
 have hi:=hf.ints
 simp only [List.mem_cons,List.not_mem_nil,or_false,forall_eq_or_imp,forall_eq] at hi
 obtain⟨i1,i2,i3,i4,i5,i6,i7,i8,i9,-⟩:=hi
 unfold Co
 refine Fy (body:=fun q'=>Co.l1 c q'.1 q'.2) c.Names.length (fun i=>((i:Int),(c.Names.take i).map Fx)) (G6 c) ?_ ?_
 ·intro i hi
  obtain⟨s,hx⟩:∃ s,c.Names[i]?=some s:=⟨_,List.getElem?_eq_getElem hi⟩
  show Co.l1 c (i:Int) ((c.Names.take i).map Fx)=_
  unfold Co.l1
  rw [Fs hx,show Fa s=some (Fx s) from rfl,Option.bind_some,D5 (by simp; omega),Option.bind_some,Gp (by omega),Fm hx,aCh]
  rfl
 ·show Co.l1 c (c.Names.length:Int) ((c.Names.take c.Names.length).map Fx)=_
  unfold Co.l1
  have hT:∀ s,Fa s=some (Fx s):=fun _=>rfl
  rw [Ej,aBm,Ez _ i1.1 i1.2,Ez _ i4.1 i4.2,Ez _ i7.1 i7.2,Ez _ i8.1 i8.2,Ez _ i9.1 i9.2,U1 _ i2 i3,U1 _ i5 i6]
  simp only [hT,Wx,Option.bind_some]
  rw [Ki _ (by omega)]
  simp only [Option.bind_some]
  show up ((Fr (Hj c)).bind fun y=>some y)=_
  rw [Ki _ (show Fz (Hj c) < 1073741824 by omega)]
  rfl
def G4 (c:Ab):List UInt8×Int:=bif Fq c then Wh (G6 c) else ([],9)
theorem cU {c:Ab} (h:Fq c=true):(G6 c).sz < 67108864:=by
 have:=Pz h
 unfold G6
 rw [H7]; omega
theorem Y2 (c:Ab) (hf:Ik c):Es c=some (G4 c):=by
 unfold Es G4
 rw [Th c hf,Option.bind_some]
 cases h:Fq c with
 | false=>rfl
 | true=>rw [Bool.not_true,cond_false,cP c h,Option.bind_some,Wn _ (cU h)]; rfl
theorem iZ (c:Ab) (hf:Ik c):H1 c=some (G4 c):=by
 unfold H1 G4
 rw [S4 c hf,Option.bind_some]
 cases h:Fq c with
 | false=>rfl
 | true=>
  show (Co c).bind _=_
  rw [nT c hf h,Option.bind_some,Re _ (cU h)]; rfl
end
section
open Go
def aM (b:List UInt8):Int:=W (b.foldl (fun s e=>IntKind.wrap .u32 ((Zw .u32 s (IntKind.wrap .u32 (e.toNat:Int))) * 16777619)) 2166136261)
theorem Zj (b:List UInt8) (h:Lo b):Ci b=some (aM b):=by
 unfold Ci
 refine M7 (body:=fun q'=>Ci.l1 b q'.1 q'.2) b _ 2166136261 W h (fun i x s hx=>?_) (fun s=>?_)
 ·show Ci.l1 b s (i:Int)=_
  unfold Ci.l1; rw [Fs hx]
 ·show Ci.l1 b s (b.length:Int)=_
  unfold Ci.l1; rw [Ej]; rfl
theorem qG (b:List UInt8) (h:Lo b):Et b=some (aM b):=by
 unfold Et
 refine M7 (body:=fun q'=>Et.l1 b q'.1 q'.2) b _ 2166136261 W h (fun i x s hx=>?_) (fun s=>?_)
 ·show Et.l1 b s (i:Int)=_
  unfold Et.l1; rw [Fs hx]
 ·show Et.l1 b s (b.length:Int)=_
  unfold Et.l1; rw [Ej]; rfl
theorem kY (v:Aa):(Wh v).1.length<=4096:=by
 unfold Wh
 split
 ·split
  ·exact aBt _
  ·split
   ·exact aBt _
   ·simp; omega
 ·exact aBt _
theorem dD (c:Ab):(G4 c).1.length<=4096:=by
 unfold G4
 cases Fq c with
 | false=>exact aBt _
 | true=>exact kY _
theorem Sy (c:Ab):Lo (G4 c).1:=by
 have:=dD c
 unfold Lo; omega
def gB (c:Ab) (key:Int):Bool:=decide ((G4 c).2=0) && (decide (c.Seal.Key=key) && decide (c.Seal.Sum=aM (G4 c).1))
theorem Wr (c:Ab) (hf:Ik c) (key:Int):E0 c key=some (gB c key):=by
 unfold E0 gB
 rw [Y2 c hf,Option.bind_some,Zj _ (Sy c),Option.bind_some]
 generalize aM (G4 c).1=x
 have e:decide (c.Seal=⟨key,x⟩)=(decide (c.Seal.Key=key) && decide (c.Seal.Sum=x)):=by
  cases c.Seal; simp
 rw [e]
 cases decide ((G4 c).2=0) <;> rfl
end
end Go.Proofs.YtlfeokjhphpjeaaGreat
