import Derived.Test.YtchpcpaacenodaaGreatM1
set_option linter.unusedVariables false
set_option linter.unusedSimpArgs false
namespace Go.Proofs.YtchpcpaacenodaaGreat
open Go
theorem lV (c:Af) (h:Yv c):H2 c=some (bif Fx c then 0 else 9):=by
 unfold H2
 rw [lI c h,aAc]
 cases Fx c <;> rfl
def rJ (id:Int):Bool:=decide (id < 0) || decide (2147483648 < id)
def V3 (key:Am) (id:Int):List Af->Bool
 | []=>true
 | c :: _=>decide (c.Key=key) && decide (c.KeyId=id)
def Ja (key:Am) (id:Int) (l:List Af):Bool:=N1 key 2 && (!rJ id && (!decide (8 < (l.length:Int)) && (!l.any (fun c=>!Fx c) && V3 key id l)))
theorem jF (key:Am) (id:Int) (l:List Af) :
  (cond (decide ((l.length:Int)=0)) (some true) ((B8 l 0).bind fun e_2=>cond (decide (e_2.Key=key)) (some (decide (e_2.KeyId=id))) (some false)))=some (V3 key id l):=by
 cases l with
 | nil=>rfl
 | cons c l=>
  rw [aAg (by simp only [aH2]; omega),aCx]
  show cond (decide (c.Key=key)) (some (decide (c.KeyId=id))) (some false)=some (decide (c.Key=key) && decide (c.KeyId=id))
  cases decide (c.Key=key) <;> rfl
theorem eD (key:Am) (id:Int) (l:List Af) (hf:∀ c∈l,Yv c):Bx key id l=some (Ja key id l):=by
 unfold Bx Ja N1
 rw [Mr,aAc,Qv,aAc,Ze,aAc]
 have h1:Bx.j1 key id l true=some false:=rfl
 have h0:¬ (8 < (l.length:Int))->Bx.j1 key id l false=some (!l.any (fun c=>!Fx c) && V3 key id l):=fun h8=>by
  unfold Bx.j1
  rw [aCx]
  refine (Re l (fun c=>!Fx c) false (V3 key id l) (Q6 (by omega)) (fun i c hc=>?_) ?_).trans ?_
  ·show Bx.l2 key id l (i:Int)=_
   unfold Bx.l2
   rw [G7 hc,lV c (hf c (Ia hc)),aAc]
   cases Fx c <;> rfl
  ·show Bx.l2 key id l (l.length:Int)=_
   unfold Bx.l2
   rw [Fs,jF]
   rfl
  ·cases l.any (fun c=>!Fx c) <;> rfl
 cases decide (0 < Kq key) with
 | false=>rw [aJg,aD8,h1]; rfl
 | true=>
  rw [aG4,aCx]
  cases decide (Mf key.Alg=2) with
  | false=>rw [aJg,aD8,h1]; rfl
  | true=>
   rw [aG4,aCx]
   show cond (!!rJ id) _ _=_
   cases rJ id with
   | true=>rw [Bool.not_not,aD8,h1]; rfl
   | false=>
    rw [Bool.not_not,aCx]
    by_cases h8:8 < (l.length:Int)
    ·rw [aAe h8,h1]; rfl
    ·rw [aAg h8,h0 h8]; rfl
theorem dW (key:Am) (id:Int) (l:List Af) (hf:∀ c∈l,Yv c):C5 key id l=some (Ja key id l):=by
 unfold C5 Ja rJ
 rw [Vd,aAc]
 have h1:C5.j1 key id l true=some false:=rfl
 have h0:¬ (8 < (l.length:Int))->C5.j1 key id l false=some (!l.any (fun c=>!Fx c) && V3 key id l):=fun h8=>by
  unfold C5.j1
  rw [aCx]
  refine (Re l (fun c=>!Fx c) false (V3 key id l) (Q6 (by omega)) (fun i c hc=>?_) ?_).trans ?_
  ·show C5.l2 key id l (i:Int)=_
   unfold C5.l2
   rw [G7 hc,bR c (hf c (Ia hc)),aAc]
   cases Fx c <;> rfl
  ·show C5.l2 key id l (l.length:Int)=_
   unfold C5.l2
   rw [Fs,jF]
   rfl
  ·cases l.any (fun c=>!Fx c) <;> rfl
 cases N1 key 2 with
 | false=>rw [aJg,aD8,h1]; rfl
 | true=>
  rw [aG4,aCx]
  cases decide (id < 0) with
  | true=>rw [aD8,h1]; rfl
  | false=>
   rw [aCx]
   cases decide (2147483648 < id) with
   | true=>rw [aD8,h1]; rfl
   | false=>
    rw [aCx]
    by_cases h8:8 < (l.length:Int)
    ·rw [aAe h8,h1]; rfl
    ·rw [aAg h8,h0 h8]; rfl
end Go.Proofs.YtchpcpaacenodaaGreat
