/- Plain texts, joined. No program is in sight here. -/
import Derived.Test.YtlfeokjhphpjeaaGreatD8
import Derived.Test.YtlfeokjhphpjeaaGreatK6
import Derived.Test.YtlfeokjhphpjeaaGreatM2
set_option linter.unusedVariables false
set_option linter.unusedSimpArgs false
set_option maxRecDepth 100000
namespace Go.Proofs.YtlfeokjhphpjeaaGreat
section
open Go
def Mq (a:Int) (l:List UInt8):Int:=l.foldl (fun a x=>a * 256 + (x.toNat:Int)) a
def Wt (x:UInt8):Int:=if 128<=(x.toNat:Int) then -1 else 0
theorem orN (z:Int) (y:Nat) (hy:y < 256):(((BitVec.ofInt 64 (z * 256) ||| BitVec.ofInt 64 (y:Int)).toNat:Nat):Int)=(z * 256 + y) % 18446744073709551616:=by
 rw [BitVec.toNat_or,BitVec.toNat_ofInt,BitVec.toNat_ofInt]
 have e1:(((2 ^ 64:Nat):Int))=18446744073709551616:=by decide
 rw [e1]
 have h1:0<=z * 256 % 18446744073709551616/\z * 256 % 18446744073709551616 < 18446744073709551616:=by omega
 have h2:((y:Int) % 18446744073709551616).toNat=y:=by omega
 rw [h2,fP _ _ (by omega) hy]
 omega
theorem Rg (z:Int):BitVec.ofInt 64 (IntKind.u64.wrap z)=BitVec.ofInt 64 z:=by
 apply BitVec.eq_of_toNat_eq
 rw [BitVec.toNat_ofInt,BitVec.toNat_ofInt,IntKind.wrap_u64]
 have e1:(((2 ^ 64:Nat):Int))=18446744073709551616:=by decide
 rw [e1]
 omega
theorem Zs (z:Int):BitVec.ofInt 64 (IntKind.i64.wrap z)=BitVec.ofInt 64 z:=by
 apply BitVec.eq_of_toNat_eq
 rw [BitVec.toNat_ofInt,BitVec.toNat_ofInt,IntKind.wrap_i64]
 have e1:(((2 ^ 64:Nat):Int))=18446744073709551616:=by decide
 rw [e1]
 omega
theorem dM (z:Int):IntKind.u64.wrap (IntKind.u64.wrap z * 256)=IntKind.u64.wrap (z * 256):=by simp only [IntKind.wrap_u64]; omega
theorem eZ (z:Int):IntKind.i64.wrap (IntKind.i64.wrap z * 256)=IntKind.i64.wrap (z * 256):=by simp only [IntKind.wrap_i64]; omega
theorem zS (z:Int) (y:UInt8):Xq .u64 (IntKind.u64.wrap (IntKind.u64.wrap z * 256)) (IntKind.u64.wrap (y.toNat:Int))=IntKind.u64.wrap (z * 256 + y.toNat):=by
 show IntKind.u64.wrap ((BitVec.ofInt 64 _ ||| BitVec.ofInt 64 _).toNat:Int)=_
 rw [dM,Rg,Rg,orN z _ y.toNat_lt]
 simp only [IntKind.wrap_u64]; omega
theorem zE (z:Int) (y:UInt8):Xq .i64 (IntKind.i64.wrap (IntKind.i64.wrap z * 256)) (y.toNat:Int)=IntKind.i64.wrap (z * 256 + y.toNat):=by
 show IntKind.i64.wrap ((BitVec.ofInt 64 _ ||| BitVec.ofInt 64 _).toNat:Int)=_
 rw [eZ,Zs,orN z _ y.toNat_lt]
 simp only [IntKind.wrap_i64]; omega
def Mv:List UInt8->Int
 | []=>0
 | x :: r=>IntKind.i64.wrap (Mq (Wt x) (x :: r))
theorem dG (z:Int):IntKind.i64.wrap (IntKind.u64.wrap z)=IntKind.i64.wrap z:=by simp only [IntKind.wrap_u64,IntKind.wrap_i64]; omega
theorem kV (z:Int):IntKind.i64.wrap z=W z:=by rw [IntKind.wrap_i64]; unfold W; omega
theorem Tv:∀ l:List UInt8,Mv (Gh l)=Mv l
 | []=>rfl
 | [_]=>rfl
 | x :: y :: r=>by
  rw [Gh]
  split
  ·rename_i h
   rw [Tv (y :: r)]
   show IntKind.i64.wrap (Mq (Wt y) (y :: r))=IntKind.i64.wrap (Mq (Wt x) (x :: y :: r))
   have e:Mq (Wt x) (x :: y :: r)=Mq (Wt x * 256 + (x.toNat:Int)) (y :: r):=rfl
   rw [e]
   have hs:Wt x * 256 + (x.toNat:Int)=Wt y:=by
    unfold Wt
    rcases h with ⟨rfl,h⟩ | ⟨rfl,h⟩
    ·have:y.toNat < 128:=h
     rw [if_neg (by decide),if_neg (by omega)]; rfl
    ·have:128<=y.toNat:=h
     rw [if_pos (by decide),if_pos (by omega)]; rfl
   rw [hs]
  ·rfl
theorem dK (n:Int) (h1:-9223372036854775808<=n) (h2:n<=9223372036854775807):Mv (Nz n)=n:=by
 unfold Nz
 rw [Tv,zC]
 show IntKind.i64.wrap (Mq (Wt (Ct n 7)) _)=n
 have e:Mq (Wt (Ct n 7)) [Ct n 7,Ct n 6,Ct n 5,Ct n 4,Ct n 3,Ct n 2,Ct n 1,Ct n 0]=Wt (Ct n 7) * 18446744073709551616 + n % 18446744073709551616:=by
  simp only [Mq,List.foldl_cons,List.foldl_nil,Du]
  have d1:n / 256 ^ 1=n / 256:=by simp
  have d2:n / 256 ^ 2=n / 256 / 256:=by rw [Int.ediv_ediv_of_nonneg (by omega)]; rfl
  have d3:n / 256 ^ 3=n / 256 / 256 / 256:=by rw [Int.ediv_ediv_of_nonneg (by omega),Int.ediv_ediv_of_nonneg (by omega)]; rfl
  have d4:n / 256 ^ 4=n / 256 / 256 / 256 / 256:=by (repeat rw [Int.ediv_ediv_of_nonneg (by omega)]); rfl
  have d5:n / 256 ^ 5=n / 256 / 256 / 256 / 256 / 256:=by (repeat rw [Int.ediv_ediv_of_nonneg (by omega)]); rfl
  have d6:n / 256 ^ 6=n / 256 / 256 / 256 / 256 / 256 / 256:=by (repeat rw [Int.ediv_ediv_of_nonneg (by omega)]); rfl
  have d7:n / 256 ^ 7=n / 256 / 256 / 256 / 256 / 256 / 256 / 256:=by (repeat rw [Int.ediv_ediv_of_nonneg (by omega)]); rfl
  have d0:n / 256 ^ 0=n:=by simp
  rw [d0,d1,d2,d3,d4,d5,d6,d7]
  generalize Wt (Ct n 7)=s
  omega
 rw [e,IntKind.wrap_i64]
 have hs:Wt (Ct n 7)=0\/Wt (Ct n 7)=-1:=by unfold Wt; split; exact .inr rfl; exact .inl rfl
 rcases hs with h | h <;> rw [h] <;> omega
theorem Yo:∀ l:List UInt8,1<=l.length->1<=(Gh l).length
 | [],h=>h
 | [_],_=>aBk _
 | x :: y :: r,_=>by
  rw [Gh]
  split
  ·exact Yo (y :: r) (by simp)
  ·simp
theorem kU (n:Int):1<=(Nz n).length/\(Nz n).length<=8:=by
 have h8:(Xo n 8).length=8:=by simp [Xo]
 have h2:=Wz (Xo n 8)
 exact⟨Yo _ (by omega),by unfold Nz; omega⟩
theorem Tx (l:List UInt8):-9223372036854775808<=Mv l/\Mv l<=9223372036854775807:=by
 cases l with
 | nil=>exact⟨by decide,by decide⟩
 | cons x r=>
  show _<=IntKind.i64.wrap (Mq (Wt x) (x :: r))/\IntKind.i64.wrap (Mq (Wt x) (x :: r))<=_
  rw [kV]; exact Zd _
theorem Uz {a b:List UInt8}:(Xy a=Xy b)↔a=b:=by
 unfold Xy
 constructor
 ·intro h
  injection h with h
  exact Array.toList_inj.2 h |> fun h=>by simpa using h
 ·rintro rfl; rfl
def E5 (v:Aa) (t:Int):Bool:=decide (v.Tag=t) && (!v.Nested && decide (v.Elements.length=0))
def Dv (v:Aa):Option Int:=if E5 v 2/\1<=v.Bytes.length/\v.Bytes.length<=8/\Nz (Mv v.Bytes)=v.Bytes then some (Mv v.Bytes) else none
def Sr (c:UInt8):Bool:=decide ((c.toNat:Int) < 32) || decide (126 < (c.toNat:Int))
def C3 (v:Aa):Option ByteArray:=if E5 v 12/\v.Bytes.any Sr=false then some (Xy v.Bytes) else none
def G0 (v:Aa):Option Bool:=if E5 v 1/\(v.Bytes=[0]\/v.Bytes=[255]) then some (decide (v.Bytes=[255])) else none
def Cd (v:Aa):Option (List Aa):=if v.Tag=48/\v.formed=true then some v.Elements else none
def L5 {α:Type} (d:α):Option α->α×Int
 | some a=>(a,0)
 | none=>(d,1)
theorem Tn (v:Aa) (t:Int):Ig v t=some (E5 v t):=by
 unfold Ig E5
 have e:decide ((v.Elements.length:Int)=0)=decide (v.Elements.length=0):=by
  by_cases h:v.Elements.length=0
  ·rw [decide_eq_true h,decide_eq_true (by omega)]
  ·rw [decide_eq_false h,decide_eq_false (by omega)]
 rw [e]
 cases decide (v.Tag=t) <;> cases v.Nested <;> rfl
theorem yD (x:Int):bM .u64 x 8=some (IntKind.u64.wrap (x * 256)):=rfl
theorem oI:∀ (l:List UInt8) (a:Int),l.foldl (fun s (e:UInt8)=>Xq .u64 (IntKind.u64.wrap (s * 256)) (IntKind.u64.wrap (e.toNat:Int))) (IntKind.u64.wrap a)=IntKind.u64.wrap (Mq a l)
 | [],_=>rfl
 | x :: l,a=>by
  rw [List.foldl_cons,zS,oI l]; rfl
theorem nN:∀ (l:List UInt8) (a:Int),l.foldl (fun s (e:UInt8)=>Xq .i64 (IntKind.i64.wrap (s * 256)) (e.toNat:Int)) (IntKind.i64.wrap a)=IntKind.i64.wrap (Mq a l)
 | [],_=>rfl
 | x :: l,a=>by
  rw [List.foldl_cons,zE,nN l]; rfl
theorem Ys (v:Aa) (h1:E5 v 2=true) (h2:1<=v.Bytes.length) (h3:v.Bytes.length<=8):L5 0 (Dv v)=if Nz (Mv v.Bytes)=v.Bytes then (Mv v.Bytes,0) else (0,1):=by
 unfold Dv
 by_cases h:Nz (Mv v.Bytes)=v.Bytes
 ·rw [if_pos ⟨h1,h2,h3,h⟩,if_pos h]; rfl
 ·rw [if_neg (fun q=>h q.2.2.2),if_neg h]; rfl
theorem jV (v:Aa):B0 v=some (L5 0 (Dv v)):=by
 unfold B0
 rw [Tn,Option.bind_some]
 have J:Dv v=none->B0.j1 v true=some (L5 0 (Dv v)):=fun h=>by rw [h]; rfl
 cases hp:E5 v 2 with
 | false=>exact J (by unfold Dv; rw [if_neg (fun q=>by rw [hp] at q; exact absurd q.1 (by decide))])
 | true=>
  rw [Bool.not_true,cond_false]
  by_cases h1:v.Bytes.length < 1
  ·rw [decide_eq_true (by omega)]
   exact J (by unfold Dv; rw [if_neg (fun q=>by omega)])
  rw [decide_eq_false (by omega),cond_false]
  by_cases h8:8 < v.Bytes.length
  ·rw [decide_eq_true (by omega)]
   exact J (by unfold Dv; rw [if_neg (fun q=>by omega)])
  rw [decide_eq_false (by omega)]
  unfold B0.j1
  rw [cond_false]
  obtain⟨x,r,hb⟩:∃ x r,v.Bytes=x :: r:=by
   cases hv:v.Bytes with
   | nil=>rw [hv] at h1; simp at h1
   | cons x r=>exact⟨x,r,rfl⟩
  have L:∀ a:Int,a=Wt x->B0.j2 v (IntKind.u64.wrap a)=some (L5 0 (Dv v)):=by
   intro a ha
   unfold B0.j2
   have fin:∀ s,B0.l3 v s (v.Bytes.length:Int)=up ((Bz (W s)).bind fun y_2=>(Jb y_2.Bytes v.Bytes).bind fun y_3=>cond (!y_3) (some (0,1)) (some (W s,0))):=by
    intro s; unfold B0.l3; rw [Ej]
   refine (M7 (body:=fun q'=>B0.l3 v q'.1 q'.2) v.Bytes (fun s (e:UInt8)=>Xq .u64 (IntKind.u64.wrap (s * 256)) (IntKind.u64.wrap (e.toNat:Int))) (IntKind.u64.wrap a) (fun s=>if (Nz (W s))=v.Bytes then (W s,0) else (0,1)) (by unfold Lo; omega) (fun i e s he=>?_) (fun s=>?_)).trans ?_
   ·show B0.l3 v s (i:Int)=_
    unfold B0.l3
    rw [Fs he,yD,Option.bind_some]
   ·show B0.l3 v s (v.Bytes.length:Int)=_
    rw [fin,P4,Option.bind_some]
    unfold Jb
    rw [Option.bind_some]
    show up (cond (!decide (Xy (Nz (W s))=Xy v.Bytes)) _ _)=_
    by_cases h:Nz (W s)=v.Bytes
    ·rw [if_pos h,decide_eq_true (Uz.2 h)]; rfl
    ·rw [if_neg h,decide_eq_false (fun q=>h (Uz.1 q))]; rfl
   ·rw [oI,Ys v hp (by omega) (by omega)]
    have e:W (IntKind.u64.wrap (Mq a v.Bytes))=Mv v.Bytes:=by
     rw [<- kV,dG,hb,ha]; rfl
    rw [e]
  rw [N5,hb]
  show cond (decide (128<=(x.toNat:Int))) _ _=_
  by_cases hx:128<=x.toNat
  ·rw [decide_eq_true (by omega),cond_true]
   have:=L (-1) (by unfold Wt; rw [if_pos (by omega)])
   exact this
  ·rw [decide_eq_false (by omega),cond_false]
   have:=L 0 (by unfold Wt; rw [if_neg (by omega)])
   exact this
theorem cT (v:Aa):Bc v=some (L5 0 (Dv v)):=by
 unfold Bc
 have J:Dv v=none->Bc.j1 v true=some (L5 0 (Dv v)):=fun h=>by rw [h]; rfl
 have N:E5 v 2=false->Dv v=none:=fun hp=>by unfold Dv; rw [if_neg (fun q=>by rw [hp] at q; exact absurd q.1 (by decide))]
 by_cases ht:v.Tag=2
 rotate_left
 ·rw [decide_eq_false ht]
  exact J (N (by unfold E5; rw [decide_eq_false ht]; rfl))
 rw [decide_eq_true ht,Bool.not_true,cond_false]
 cases hn:v.Nested with
 | true=>exact J (N (by unfold E5; rw [hn]; simp))
 | false=>
 rw [cond_false]
 by_cases he:v.Elements.length=0
 rotate_left
 ·rw [decide_eq_true (by omega)]
  exact J (N (by unfold E5; rw [decide_eq_false he]; simp))
 rw [decide_eq_false (by omega),cond_false]
 have hp:E5 v 2=true:=by unfold E5; rw [hn,decide_eq_true ht,decide_eq_true he]; rfl
 by_cases h1:v.Bytes.length < 1
 ·rw [decide_eq_true (by omega)]
  exact J (by unfold Dv; rw [if_neg (fun q=>by omega)])
 rw [decide_eq_false (by omega),cond_false]
 by_cases h8:8 < v.Bytes.length
 ·rw [decide_eq_true (by omega)]
  exact J (by unfold Dv; rw [if_neg (fun q=>by omega)])
 rw [decide_eq_false (by omega)]
 unfold Bc.j1
 rw [cond_false]
 obtain⟨x,r,hb⟩:∃ x r,v.Bytes=x :: r:=by
  cases hv:v.Bytes with
  | nil=>rw [hv] at h1; simp at h1
  | cons x r=>exact⟨x,r,rfl⟩
 have L:∀ a:Int,a=Wt x->Bc.j2 v (IntKind.i64.wrap a)=some (L5 0 (Dv v)):=by
  intro a ha
  unfold Bc.j2
  have hlo:Lo v.Bytes:=by unfold Lo; omega
  have key:Dl (fun q'=>Bc.l3 v q'.1 q'.2) (IntKind.i64.wrap a,0)=(fun s=>(Bf s).bind fun y=>cond (!decide ((Xy y.Bytes)=(Xy v.Bytes))) (some (0,1)) (some (s,0))) (v.Bytes.foldl (fun s (e:UInt8)=>Xq .i64 (IntKind.i64.wrap (s * 256)) (e.toNat:Int)) (IntKind.i64.wrap a)):=by
   refine dQ (body:=fun q'=>Bc.l3 v q'.1 q'.2) v.Bytes (fun s (e:UInt8)=>Xq .i64 (IntKind.i64.wrap (s * 256)) (e.toNat:Int)) (IntKind.i64.wrap a) (fun s=>(Bf s).bind fun y=>cond (!decide ((Xy y.Bytes)=(Xy v.Bytes))) (some (0,1)) (some (s,0))) hlo (fun i e s he=>?_) (fun s=>?_)
   ·show Bc.l3 v s (i:Int)=_
    have hl:=Rx he
    unfold Bc.l3
    rw [decide_eq_true (by omega),cond_true,vT,Option.bind_some,Hu,he,Option.bind_some]
   ·show Bc.l3 v s (v.Bytes.length:Int)=_
    unfold Bc.l3; rw [Ej]
  rw [key,nN,Ys v hp (by omega) (by omega)]
  have e:IntKind.i64.wrap (Mq a v.Bytes)=Mv v.Bytes:=by rw [hb,ha]; rfl
  have hr:=Tx v.Bytes
  rw [e]
  dsimp only
  rw [Ez _ hr.1 hr.2,Option.bind_some]
  show cond (!decide (Xy (Nz (Mv v.Bytes))=Xy v.Bytes)) _ _=_
  by_cases h:Nz (Mv v.Bytes)=v.Bytes
  ·rw [if_pos h,decide_eq_true (Uz.2 h)]; rfl
  ·rw [if_neg h,decide_eq_false (fun q=>h (Uz.1 q))]; rfl
 rw [N5,hb]
 show cond (decide (128<=(x.toNat:Int))) _ _=_
 by_cases hx:128<=x.toNat
 ·rw [decide_eq_true (by omega),cond_true]
  have:=L (-1) (by unfold Wt; rw [if_pos (by omega)])
  exact this
 ·rw [decide_eq_false (by omega),cond_false]
  have:=L 0 (by unfold Wt; rw [if_neg (by omega)])
  exact this
theorem Vv (v:Aa) (hb:Lo v.Bytes):Eo v=some (L5 ⟨#[]⟩ (C3 v)):=by
 unfold Eo
 rw [Tn,Option.bind_some]
 unfold C3
 cases hp:E5 v 12 with
 | false=>rw [if_neg (by simp)]; rfl
 | true=>
  rw [Bool.not_true,cond_false]
  have e:El v.Bytes (fun x0=>F2 x0)=some (v.Bytes.any Sr):=by
   unfold El Bi
   have hL:=dH (body:=fun q'=>Bi.l1 v.Bytes (fun x0=>F2 x0) q') v.Bytes Sr hb (fun i x hx=>by
    unfold Bi.l1 F2 Sr
    rw [Fs hx]
    dsimp only
    cases decide ((x.toNat:Int) < 32) <;> cases decide (126 < (x.toNat:Int)) <;> rfl) (by unfold Bi.l1; rw [Ej]; rfl)
   rw [hL,Option.bind_some,eP]
  rw [e,Option.bind_some]
  cases v.Bytes.any Sr with
  | true=>rw [if_neg (by simp)]; rfl
  | false=>rw [if_pos ⟨rfl,rfl⟩]; rfl
theorem Rn (v:Aa) (hb:Lo v.Bytes):Bk v=some (L5 ⟨#[]⟩ (C3 v)):=by
 unfold Bk
 have J:E5 v 12=false->Bk.j1 v true=some (L5 ⟨#[]⟩ (C3 v)):=fun h=>by unfold C3; rw [if_neg (fun q=>by rw [h] at q; exact absurd q.1 (by decide))]; rfl
 by_cases ht:v.Tag=12
 rotate_left
 ·rw [decide_eq_false ht]
  exact J (by unfold E5; rw [decide_eq_false ht]; rfl)
 rw [decide_eq_true ht,Bool.not_true,cond_false]
 cases hn:v.Nested with
 | true=>exact J (by unfold E5; rw [hn]; simp)
 | false=>
 rw [cond_false]
 by_cases he:v.Elements.length=0
 rotate_left
 ·rw [decide_eq_true (by omega)]
  exact J (by unfold E5; rw [decide_eq_false he]; simp)
 rw [decide_eq_false (by omega)]
 have hp:E5 v 12=true:=by unfold E5; rw [hn,decide_eq_true ht,decide_eq_true he]; rfl
 unfold Bk.j1 C3
 rw [cond_false,hp]
 refine (kS v.Bytes Sr (⟨#[]⟩,1) (Xy v.Bytes,0) hb (fun i x hx=>?_) ?_).trans ?_
 ·show Bk.l2 v (i:Int)=_
  unfold Bk.l2 Bk.j3 Sr
  rw [Fs hx]
  cases decide ((x.toNat:Int) < 32) <;> cases decide (126 < (x.toNat:Int)) <;> rfl
 ·show Bk.l2 v (v.Bytes.length:Int)=_
  unfold Bk.l2; rw [Ej]; rfl
 ·cases v.Bytes.any Sr with
  | true=>rw [if_neg (by simp)]; rfl
  | false=>rw [if_pos ⟨rfl,rfl⟩]; rfl
theorem cJ {v:Aa} (hp:E5 v 1=true) (hl:v.Bytes.length=1):∃ x,v.Bytes=[x]/\G0 v=if x.toNat=0 then some false else if x.toNat=255 then some true else none:=by
 obtain⟨x,hx⟩:∃ x,v.Bytes=[x]:=by
  match h:v.Bytes with
  | [x]=>exact⟨x,rfl⟩
  | []=>rw [h] at hl; simp at hl
  | x :: y :: r=>rw [h] at hl; simp at hl
 refine⟨x,hx,?_⟩
 unfold G0
 rw [hx]
 by_cases h0:x.toNat=0
 ·have:x=0:=aCb.1 h0
  subst this
  rw [if_pos ⟨hp,.inl rfl⟩,if_pos h0]; rfl
 ·rw [if_neg h0]
  by_cases h1:x.toNat=255
  ·have:x=255:=aCb.1 h1
   subst this
   rw [if_pos ⟨hp,.inr rfl⟩,if_pos h1]; rfl
  ·rw [if_neg h1,if_neg]
   rintro⟨-,h | h⟩
   ·injection h with h; subst h; exact h0 rfl
   ·injection h with h; subst h; exact h1 rfl
theorem Rp {v:Aa} (h:E5 v 1=false\/v.Bytes.length≠1):G0 v=none:=by
 unfold G0
 rw [if_neg]
 rintro⟨h1,h2⟩
 rcases h with h | h
 ·rw [h] at h1; cases h1
 ·rcases h2 with h2 | h2 <;> rw [h2] at h <;> exact h rfl
theorem eW (v:Aa):Dt v=some (L5 false (G0 v)):=by
 unfold Dt
 rw [Tn,Option.bind_some]
 have J:G0 v=none->Dt.j1 v true=some (L5 false (G0 v)):=fun h=>by rw [h]; rfl
 cases hp:E5 v 1 with
 | false=>exact J (Rp (.inl hp))
 | true=>
  rw [Bool.not_true,cond_false]
  by_cases hl:v.Bytes.length=1
  rotate_left
  ·rw [decide_eq_false (by omega)]
   exact J (Rp (.inr hl))
  rw [decide_eq_true (by omega),Bool.not_true,cond_false]
  obtain⟨x,hx,e⟩:=cJ hp hl
  have D:Dd v.Bytes 0=some x:=by rw [N5,hx]; rfl
  unfold Dt.j1
  rw [e,D]
  simp only [Option.bind_some]
  by_cases h0:x.toNat=0
  ·rw [decide_eq_true (show (x.toNat:Int)=0 by omega),if_pos h0,decide_eq_false (show ¬ (x.toNat:Int)=255 by omega)]; rfl
  ·rw [decide_eq_false (show ¬ (x.toNat:Int)=0 by omega),if_neg h0]
   by_cases h1:x.toNat=255
   ·rw [decide_eq_true (show (x.toNat:Int)=255 by omega),if_pos h1]; rfl
   ·rw [decide_eq_false (show ¬ (x.toNat:Int)=255 by omega),if_neg h1]; rfl
theorem Zh (v:Aa):C1 v=some (L5 false (G0 v)):=by
 unfold C1
 have J:G0 v=none->C1.j1 v true=some (L5 false (G0 v)):=fun h=>by rw [h]; rfl
 have N:E5 v 1=false->G0 v=none:=fun hp=>Rp (.inl hp)
 by_cases ht:v.Tag=1
 rotate_left
 ·rw [decide_eq_false ht]
  exact J (N (by unfold E5; rw [decide_eq_false ht]; rfl))
 rw [decide_eq_true ht,Bool.not_true,cond_false]
 cases hn:v.Nested with
 | true=>exact J (N (by unfold E5; rw [hn]; simp))
 | false=>
 rw [cond_false]
 by_cases he:v.Elements.length=0
 rotate_left
 ·rw [decide_eq_true (by omega)]
  exact J (N (by unfold E5; rw [decide_eq_false he]; simp))
 rw [decide_eq_false (by omega),cond_false]
 have hp:E5 v 1=true:=by unfold E5; rw [hn,decide_eq_true ht,decide_eq_true he]; rfl
 by_cases hl:v.Bytes.length=1
 rotate_left
 ·rw [decide_eq_false (by omega)]
  exact J (Rp (.inr hl))
 rw [decide_eq_true (by omega),Bool.not_true,cond_false]
 obtain⟨x,hx,e⟩:=cJ hp hl
 have D:Dd v.Bytes 0=some x:=by rw [N5,hx]; rfl
 unfold C1.j1
 rw [e,D]
 simp only [Option.bind_some]
 by_cases h0:x.toNat=0
 ·rw [decide_eq_true (show (x.toNat:Int)=0 by omega),if_pos h0,decide_eq_false (show ¬ (x.toNat:Int)=255 by omega)]; rfl
 ·rw [decide_eq_false (show ¬ (x.toNat:Int)=0 by omega),if_neg h0]
  by_cases h1:x.toNat=255
  ·rw [decide_eq_true (show (x.toNat:Int)=255 by omega),if_pos h1]; rfl
  ·rw [decide_eq_false (show ¬ (x.toNat:Int)=255 by omega),if_neg h1]; rfl
theorem Q2 (v:Aa) (h:v.sz < 1073741824):Ee v=some (L5 [] (Cd v)):=by
 unfold Ee Cd
 by_cases ht:v.Tag=48
 ·rw [decide_eq_true ht,Bool.not_true,cond_false,Xk v h,Option.bind_some]
  cases hf:v.formed with
  | false=>rw [if_neg (by simp)]; rfl
  | true=>
   have:=Ha v
   rw [if_pos ⟨ht,rfl⟩]
   unfold Ee.j1
   rw [Bool.not_true,cond_false,Qw _ (by omega)]; rfl
 ·rw [decide_eq_false ht,if_neg (fun q=>ht q.1)]; rfl
theorem Z1 (v:Aa) (h:v.sz < 1073741824):D4 v=some (L5 [] (Cd v)):=by
 unfold D4 Cd
 by_cases ht:v.Tag=48
 ·rw [decide_eq_true ht,Bool.not_true,cond_false,Se v h,Option.bind_some]
  cases hf:v.formed with
  | false=>rw [if_neg (by simp)]; rfl
  | true=>
   have:=Ha v
   rw [if_pos ⟨ht,rfl⟩]
   unfold D4.j1
   rw [Bool.not_true,cond_false,Oe _ (by omega)]; rfl
 ·rw [decide_eq_false ht,if_neg (fun q=>ht q.1)]; rfl
end
section
open Go
def one {α:Type} (f:Aa->Option α):List Aa->Option (α×List Aa)
 | []=>none
 | x :: t=>(f x).map fun a=>(a,t)
def Fu {α β:Type} (q:Option (β×List Aa)) (f:Aa->Option α):Option ((β×α)×List Aa):=q.bind fun p=>(one f p.2).map fun r=>((p.1,r.1),r.2)
theorem Ca {α β:Type} {q:Option (β×List Aa)} {f:Aa->Option α} {b:β×α} {t:List Aa} (h:Fu q f=some (b,t)):∃ x,q=some (b.1,x :: t)/\f x=some b.2:=by
 unfold Fu at h
 obtain⟨p,hq,h⟩:=aBp.1 h
 obtain⟨r,h1,h2⟩:=aBi.1 h
 injection h2 with h2 h3
 obtain⟨p1,l⟩:=p
 cases l with
 | nil=>cases h1
 | cons x t'=>
  obtain⟨a,h4,h5⟩:=aBi.1 h1
  subst h5 h2 h3
  exact⟨x,hq,h4⟩
def mC {β:Type} (r:Ai) (q:Option (β×List Aa)) (b:β):Prop:=Fz r.l < 1073741824/\((q=none/\r.Failed=true)\/∃ t,q=some (b,t)/\r=⟨t,false⟩)
theorem qQ:Dv Jy=none:=rfl
theorem oO:C3 Jy=none:=rfl
theorem nA:G0 Jy=none:=rfl
theorem kM:Cd Jy=none:=rfl
theorem Zp (r:Ai) (hs:Fz r.l < 1073741824):Ok (A5 r) (fun y=>Fz y.2.l < 1073741824/\y.1.sz < 1073741824/\((r.Failed=true\/r.l=[])/\y.2.Failed=true/\y.1=Jy\/∃ x t,r.l=x :: t/\r.Failed=false/\y=(x,⟨t,false⟩))):=by
 unfold A5
 have hz:Jy.sz < 1073741824:=by decide
 refine Ok.cond (fun hf=>?_) fun hf=>?_
 ·exact Ok.ret ⟨hs,hz,.inl ⟨.inl hf,rfl,rfl⟩⟩
 ·unfold A5.j1
  refine Ok.cond (fun h0=>?_) fun h0=>?_
  ·have h0:=aBw h0
   exact Ok.ret ⟨hs,hz,.inl ⟨.inr (List.eq_nil_of_length_eq_zero (by omega)),rfl,rfl⟩⟩
  ·have h0:=of_decide_eq_false h0
   obtain⟨l,fl⟩:=r
   dsimp only at hf h0 hs ⊢
   subst hf
   cases l with
   | nil=>simp at h0
   | cons x t=>
    rw [N5]
    refine Ok.bindE (a:=x) rfl (Ok.bindE (eQ (k:=1) (by simp)) (Ok.ret ?_))
    rw [Fz] at hs
    exact⟨by show Fz t < _; omega,by show x.sz < _; omega,.inr ⟨x,t,rfl,rfl,rfl⟩⟩
def Q5 {α:Type} (f:Aa->Option α) (g:Ai->Option (α×Ai)):Prop:=∀ {β:Type} (r:Ai) (q:Option (β×List Aa)) (b:β),mC r q b->Ok (g r) (fun y=>mC y.2 (Fu q f) (b,y.1))
theorem U8 {α:Type} {f:Aa->Option α} {g:Ai->Option (α×Ai)} (d:α) {h:Aa->Option (α×Int)} (hz:f Jy=none) (hh:∀ v:Aa,v.sz < 1073741824->h v=some (L5 d (f v)))
  (D:∀ r,g r=(A5 r).bind fun y=>(h y.1).bind fun y_2=>cond (y.2.Failed) (some (y_2.1,(Ai.mk y.2.l true))) (some (y_2.1,(Ai.mk y.2.l (!decide (y_2.2=0)))))):Q5 f g:=by
 intro β r q b hs
 rw [D]
 refine Ok.bind (Zp r hs.1) fun y hy=>?_
 obtain⟨h1,h2,hy⟩:=hy
 refine Ok.bindE (hh y.1 h2) ?_
 rcases hs.2 with ⟨hq,hf⟩ | ⟨t,hq,hr⟩
 ·have hyf:y.2.Failed=true:=by
   rcases hy with ⟨-,h3,-⟩ | ⟨x,t,-,h4,-⟩
   ·exact h3
   ·rw [hf] at h4; cases h4
  rw [hyf,cond_true,hq]
  exact Ok.ret ⟨h1,.inl ⟨rfl,rfl⟩⟩
 ·subst hr
  rcases hy with ⟨h3,h4,h5⟩ | ⟨x,t',h3,-,h5⟩
  ·rcases h3 with h3 | h3
   ·cases h3
   ·have h3:t=[]:=h3
    subst h3
    rw [h4,cond_true,hq]
    exact Ok.ret ⟨h1,.inl ⟨rfl,rfl⟩⟩
  ·have h3:t=x :: t':=h3
   subst h3 h5
   rw [cond_false,hq]
   refine Ok.ret ⟨h1,?_⟩
   cases hx:f x with
   | none=>exact .inl ⟨by unfold Fu one; simp [hx],rfl⟩
   | some a=>exact .inr ⟨t',by unfold Fu one; simp [hx,L5],rfl⟩
theorem Ro {v:Aa} (h:v.sz < 1073741824):Lo v.Bytes:=by
 have:=Ha v
 unfold Lo; omega
theorem Q8:Q5 Dv Br:=U8 0 (h:=B0) qQ (fun v _=>jV v) (fun _=>rfl)
theorem kZ:Q5 C3 Er:=U8 ⟨#[]⟩ (h:=Eo) oO (fun v hv=>Vv v (Ro hv)) (fun _=>rfl)
theorem vK:Q5 G0 Fh:=U8 false (h:=Dt) nA (fun v _=>eW v) (fun _=>rfl)
theorem vJ:Q5 Cd Dz:=U8 [] (h:=Ee) kM (fun v hv=>Q2 v hv) (fun _=>rfl)
def J5 (n:Nat) (v:Aa):Option (Unit×List Aa):=(Cd v).bind fun l=>if l.length=n then some ((),l) else none
theorem Kj {v:Aa} {l:List Aa} (h:Cd v=some l):Fz l < v.sz:=by
 unfold Cd at h
 split at h
 ·injection h with h
  subst h
  have:=Ha v
  omega
 ·cases h
theorem Ze (v:Aa) (n:Nat) (hv:v.sz < 1073741824):Ok (D1 v (n:Int)) (fun r=>mC r (J5 n v) ()):=by
 unfold D1 J5
 refine Ok.bindE (Q2 v hv) ?_
 cases hl:Cd v with
 | none=>exact Ok.ret ⟨by show Fz [] < 1073741824; decide,.inl ⟨rfl,rfl⟩⟩
 | some l=>
  have:=Kj hl
  refine Ok.ret ⟨by show Fz l < 1073741824; omega,?_⟩
  show _\/∃ t,(if l.length=n then some ((),l) else none)=some ((),t)/\Ai.mk l (!decide ((l.length:Int)=(n:Int)))=⟨t,false⟩
  by_cases h:l.length=n
  ·have hd:(!decide ((l.length:Int)=(n:Int)))=false:=by rw [decide_eq_true (by omega)]; rfl
   exact .inr ⟨l,if_pos h,congrArg (Ai.mk l) hd⟩
  ·have hd:(!decide ((l.length:Int)=(n:Int)))=true:=by rw [decide_eq_false (by omega)]; rfl
   exact .inl ⟨if_neg h,hd⟩
theorem nS {β:Type} (r:Ai) (q:Option (β×List Aa)) (b:β) (hs:mC r q b):Ok (A5 r) (fun y=>mC y.2 (Fu q some) (b,y.1)/\y.1.sz < 1073741824):=by
 refine (Zp r hs.1).mono fun y hy=>⟨⟨hy.1,?_⟩,hy.2.1⟩
 obtain⟨h1,h2,hy⟩:=hy
 rcases hs.2 with ⟨hq,hf⟩ | ⟨t,hq,hr⟩
 ·refine .inl ⟨by rw [hq]; rfl,?_⟩
  rcases hy with ⟨-,h3,-⟩ | ⟨x,t,-,h4,-⟩
  ·exact h3
  ·rw [hf] at h4; cases h4
 ·subst hr
  rcases hy with ⟨h3,h4,h5⟩ | ⟨x,t',h3,-,h5⟩
  ·rcases h3 with h3 | h3
   ·cases h3
   ·have h3:t=[]:=h3
    subst h3
    exact .inl ⟨by rw [hq]; rfl,h4⟩
  ·have h3:t=x :: t':=h3
   subst h3 h5
   exact .inr ⟨t',by rw [hq]; rfl,rfl⟩
def On (l:List Aa):Option (((Unit×Int)×Int)×List Aa):=Fu (Fu (some ((),l)) Dv) Dv
def Im (v:Aa):Option (Int×Int):=match (Cd v).bind On with
 | some (((_,a),b),[])=>some (a,b)
 | _=>none
theorem cR {l:List Aa} {b:(Unit×Int)×Int} {t:List Aa} (h:On l=some (b,t)):l.length=t.length + 2:=by
 obtain⟨x,h1,-⟩:=Ca h
 obtain⟨y,h2,-⟩:=Ca h1
 injection h2 with h2
 injection h2 with _ h2
 rw [h2]; rfl
theorem vM (v:Aa) (hv:v.sz < 1073741824) {T:Type} {k:Int×Ai->Int×Ai->Option T} {Q:T->Prop} (hk:∀ y z:Int×Ai,((z.2.Failed=true/\Im v=none)\/(z.2.Failed=false/\Im v=some (y.1,z.1)))->Ok (k y z) Q) :
  Ok ((D1 v 2).bind fun x=>(Br x).bind fun y=>(Br y.2).bind fun z=>k y z) Q:=by
 refine Ok.bind (Ze v 2 hv) fun x hx=>?_
 refine Ok.bind (Q8 x _ _ hx) fun y hy=>?_
 refine Ok.bind (Q8 y.2 _ _ hy) fun z hz=>?_
 refine hk y z ?_
 rcases hz.2 with ⟨hq,hf⟩ | ⟨t,hq,hr⟩
 ·refine .inl ⟨hf,?_⟩
  unfold Im
  cases hl:Cd v with
  | none=>rfl
  | some l=>
   rw [Option.bind_some]
   cases hp:On l with
   | none=>rfl
   | some p=>
    obtain⟨⟨⟨u,a⟩,b⟩,t⟩:=p
    cases t with
    | cons _ _=>rfl
    | nil=>
     have hlen:=cR hp
     have:J5 2 v=some ((),l):=by unfold J5; rw [hl,Option.bind_some,if_pos (by simpa using hlen)]
     rw [this] at hq
     unfold On at hp
     rw [hq] at hp; cases hp
 ·refine .inr ⟨by rw [hr],?_⟩
  have h0:=hq
  obtain⟨x1,h1,-⟩:=Ca hq
  obtain⟨x2,h2,-⟩:=Ca h1
  unfold J5 at h2
  obtain⟨l,h3,h4⟩:=aBp.1 h2
  split at h4
  ·rename_i hlen
   injection h4 with h4
   injection h4 with _ h4
   have ht:t=[]:=by
    rw [h4] at hlen
    simp at hlen
    exact hlen
   subst ht
   unfold Im
   have:J5 2 v=some ((),l):=by unfold J5; rw [h3,Option.bind_some,if_pos hlen]
   rw [this] at h0
   rw [h3,Option.bind_some]
   unfold On
   rw [h0]
  ·cases h4
def Qr (v:Aa):Option A3:=(Im v).map fun p=>⟨p.1,p.2⟩
theorem sD:Q5 Qr By:=by
 intro β r q b hs
 unfold By
 refine Ok.bind (Zp r hs.1) fun y hy=>?_
 obtain⟨h1,h2,hy⟩:=hy
 refine vM y.1 h2 fun z w hz=>?_
 unfold By.j1
 rcases hs.2 with ⟨hq,hf⟩ | ⟨t,hq,hr⟩
 ·have hyf:y.2.Failed=true:=by
   rcases hy with ⟨-,h3,-⟩ | ⟨x,t,-,h4,-⟩
   ·exact h3
   ·rw [hf] at h4; cases h4
  rw [hyf,cond_true,hq]
  exact Ok.ret ⟨h1,.inl ⟨rfl,rfl⟩⟩
 ·subst hr
  rcases hy with ⟨h3,h4,h5⟩ | ⟨x,t',h3,-,h5⟩
  ·rcases h3 with h3 | h3
   ·cases h3
   ·have h3:t=[]:=h3
    subst h3
    rw [h4,cond_true,hq]
    exact Ok.ret ⟨h1,.inl ⟨rfl,rfl⟩⟩
  ·have h3:t=x :: t':=h3
   subst h3 h5
   rw [cond_false,hq]
   refine Ok.ret ⟨h1,?_⟩
   dsimp only at hz
   rcases hz with ⟨hz,e⟩ | ⟨hz,e⟩
   ·exact .inl ⟨by unfold Fu one Qr; simp [e],hz⟩
   ·refine .inr ⟨t',by unfold Fu one Qr; simp [e],?_⟩
    rw [hz]
def gY (v:Aa):ByteArray:=(C3 v).getD ⟨#[]⟩
def Jz (l:List Aa):Option (List ByteArray):=if l.all (fun v=>(C3 v).isSome) then some (l.map gY) else none
def Lz (v:Aa):Option (List ByteArray):=(Cd v).bind Jz
theorem cX (y:List Aa×Ai) (hs:Fz y.1 < 1073741824):Ok (Dl (fun q'=>A7.l1 y q'.1 q'.2.1 q'.2.2) (0,y.2.Failed,([]:List ByteArray))) (fun z=>z=(y.1.map gY,⟨y.2.l,y.2.Failed || !y.1.all (fun v=>(C3 v).isSome)⟩)):=by
 have hn:=Hc y.1
 refine Ok.loop (fun s=>∃ k:Nat,k<=y.1.length/\s=((k:Int),(y.2.Failed || !(y.1.take k).all (fun v=>(C3 v).isSome)),(y.1.take k).map gY)) (fun s=>y.1.length - s.1.toNat) (fun s hk=>?_) ⟨0,aBt _,by simp⟩
 obtain⟨k,hk,rfl⟩:=hk
 show Ok (A7.l1 y (k:Int) (y.2.Failed || !(y.1.take k).all (fun v=>(C3 v).isSome)) ((y.1.take k).map gY)) _
 unfold A7.l1 A7.j2
 refine Ok.cond (fun hc=>?_) fun hc=>?_
 ·have hc:=aBw hc
  obtain⟨e,he⟩:∃ e,y.1[k]?=some e:=⟨_,List.getElem?_eq_getElem (by omega)⟩
  have hm:=Kn (I3 he)
  rw [Hu]
  refine Ok.bindE he (Ok.bindE (Vv e (Ro (by omega))) ?_)
  have hx:(L5 (⟨#[]⟩:ByteArray) (C3 e)).1=gY e:=by unfold gY; cases C3 e <;> rfl
  have hy:(!decide ((L5 (⟨#[]⟩:ByteArray) (C3 e)).2=0))=!(C3 e).isSome:=by cases C3 e <;> rfl
  have ha:Gn 16 ((y.1.take k).map gY) [(L5 (⟨#[]⟩:ByteArray) (C3 e)).1]=some ((y.1.take (k + 1)).map gY):=by
   rw [D5 (by simp; omega),hx,Fm he,aCh]; rfl
  have ht:(y.1.take (k + 1)).all (fun v=>(C3 v).isSome)=((y.1.take k).all (fun v=>(C3 v).isSome) && (C3 e).isSome):=by rw [Fm he,List.all_append]; simp
  rw [Gp (by omega)]
  refine Ok.cond (fun hb=>?_) fun hb=>?_
  ·refine Ok.bindE ha (Ok.ret ⟨⟨k + 1,by omega,?_⟩,by show y.1.length - ((k + 1:Nat):Int).toNat < y.1.length - (k:Int).toNat; omega⟩)
   rw [ht]
   generalize (y.1.take k).all (fun v=>(C3 v).isSome)=a at *
   generalize (C3 e).isSome=c at *
   cases a <;> cases c <;> simp_all
  ·refine Ok.bindE ha (Ok.ret ⟨⟨k + 1,by omega,?_⟩,by show y.1.length - ((k + 1:Nat):Int).toNat < y.1.length - (k:Int).toNat; omega⟩)
   rw [ht,hy]
   generalize (y.1.take k).all (fun v=>(C3 v).isSome)=a at *
   generalize (C3 e).isSome=c at *
   cases a <;> cases c <;> simp_all
 ·have hc:=of_decide_eq_false hc
  have:k=y.1.length:=by omega
  subst this
  refine Ok.up (Ok.ret ?_)
  rw [aBm]
theorem dI (r:Ai) (hs:Fz r.l < 1073741824):Ok (Dz r) (fun z=>Fz z.1 < 1073741824):=by
 unfold Dz
 refine Ok.bind (Zp r hs) fun y hy=>?_
 refine Ok.bindE (Q2 y.1 hy.2.1) ?_
 have:Fz (L5 ([]:List Aa) (Cd y.1)).1 < 1073741824:=by
  have h2:=hy.2.1
  cases hl:Cd y.1 with
  | none=>show Fz [] < _; decide
  | some l=>
   have:=Kj hl
   show Fz l < _
   omega
 exact Ok.cond (fun _=>Ok.ret this) fun _=>Ok.ret this
theorem qI:Q5 Lz A7:=by
 intro β r q b hs
 unfold A7
 refine Ok.bind ((vJ r q b hs).and (dI r hs.1)) fun y hy=>?_
 refine (cX y hy.2).mono fun z hz=>?_
 subst hz
 rcases hy.1.2 with ⟨hq,hf⟩ | ⟨t,hq,hr⟩
 ·refine⟨hy.1.1,.inl ⟨?_,by show (y.2.Failed || _)=true; rw [hf]; rfl⟩⟩
  cases q with
  | none=>rfl
  | some p=>
   obtain⟨b',l⟩:=p
   cases l with
   | nil=>rfl
   | cons x l=>
    cases hx:Cd x with
    | none=>simp [Fu,one,Lz,hx]
    | some _=>simp [Fu,one,hx] at hq
 ·obtain⟨x,h1,h2⟩:=Ca hq
  have e:Fu q Lz=(Jz y.1).map fun a=>((b,a),t):=by
   rw [h1]
   cases ht:Jz y.1 <;> simp [Fu,one,Lz,h2,ht]
  refine⟨hy.1.1,?_⟩
  rw [e,hr]
  unfold Jz
  cases ha:y.1.all (fun v=>(C3 v).isSome) with
  | true=>exact .inr ⟨t,rfl,rfl⟩
  | false=>exact .inl ⟨rfl,rfl⟩
end
section
open Go
abbrev gX:=(((((((((((Unit×Int)×ByteArray)×ByteArray)×A3)×Int)×A3)×Int)×Int)×Bool)×Int)×List ByteArray)
def V6 {β:Type} (q:Option (β×List Aa)):=Fu (Fu (Fu (Fu (Fu (Fu (Fu (Fu (Fu (Fu q Dv) C3) C3) Qr) Dv) Qr) Dv) Dv) G0) Dv
def K6 (q:Option (Unit×List Aa)):Option (gX×List Aa):=Fu (V6 q) Lz
def zY (b:gX) (s:Int×Int):Ab:=match b with
 | (((((((((((_,a1),a2),a3),a4),a5),a6),a7),a8),a9),a10),a11)=>⟨a1,a2,a3,a4,a5,a6,a7,a8,a9,a10,a11,⟨s.1,s.2⟩⟩
theorem aV {l:List Aa} {b:gX} {t:List Aa} (h:K6 (some ((),l))=some (b,t)):l.length=t.length + 11:=by
 unfold K6 V6 at h
 obtain⟨x1,h1,-⟩:=Ca h
 obtain⟨x2,h2,-⟩:=Ca h1
 obtain⟨x3,h3,-⟩:=Ca h2
 obtain⟨x4,h4,-⟩:=Ca h3
 obtain⟨x5,h5,-⟩:=Ca h4
 obtain⟨x6,h6,-⟩:=Ca h5
 obtain⟨x7,h7,-⟩:=Ca h6
 obtain⟨x8,h8,-⟩:=Ca h7
 obtain⟨x9,h9,-⟩:=Ca h8
 obtain⟨x10,h10,-⟩:=Ca h9
 obtain⟨x11,h11,-⟩:=Ca h10
 injection h11 with h11
 injection h11 with _ h11
 rw [h11]; rfl
def Mh (v:Aa):Option gX:=match (Cd v).bind (fun l=>K6 (some ((),l))) with
 | some (b,[])=>some b
 | _=>none
def Gu (v:Aa):Option Ab:=match Cd v with
 | some [x,y]=>(Mh x).bind fun b=>(Im y).map fun s=>zY b s
 | _=>none
def O4:Ab:=Ab.mk 0 ⟨#[]⟩ ⟨#[]⟩ (A3.mk 0 0) 0 (A3.mk 0 0) 0 0 false 0 [] (Bv.mk 0 0)
theorem rW {v:Aa}:Mh v=(K6 (J5 11 v)).map (·.1):=by
 unfold Mh J5
 cases hl:Cd v with
 | none=>rfl
 | some l=>
  rw [Option.bind_some,Option.bind_some]
  by_cases h:l.length=11
  ·rw [if_pos h]
   cases hb:K6 (some ((),l)) with
   | none=>rfl
   | some p=>
    obtain⟨b,t⟩:=p
    have:=aV hb
    have ht:t=[]:=List.eq_nil_of_length_eq_zero (by omega)
    subst ht
    rfl
  ·rw [if_neg h]
   show _=none
   cases hb:K6 (some ((),l)) with
   | none=>rfl
   | some p=>
    obtain⟨b,t⟩:=p
    have:=aV hb
    cases t with
    | nil=>simp at this; omega
    | cons _ _=>rfl
theorem eG (v:Aa) (hv:v.sz < 1073741824):Cc v=some (match Gu v with | some c=>(c,true) | none=>(O4,false)):=by
 refine (?_:Ok (Cc v) (fun y=>y=(match Gu v with | some c=>(c,true) | none=>(O4,false)))) |> fun ⟨a,h1,h2⟩=>h1.trans (congrArg some h2)
 unfold Cc
 refine Ok.bind (Ze v 2 hv) fun y hy=>?_
 refine Ok.bind (nS y _ _ hy) fun y2 h2=>?_
 refine Ok.bind (Ze y2.1 11 h2.2) fun y3 h3=>?_
 refine Ok.bind (nS y2.2 _ _ h2.1) fun y4 h4=>?_
 unfold Gb F6 F9 Gd Ge Gf Ga F7
 simp only [Option.bind_assoc,Option.bind_some]
 refine Ok.bind (Ze y4.1 2 h4.2) fun y5 h5=>?_
 refine Ok.bind (Q8 y3 _ _ h3) fun z1 k1=>?_
 refine Ok.bind (kZ z1.2 _ _ k1) fun z2 k2=>?_
 refine Ok.bind (kZ z2.2 _ _ k2) fun z3 k3=>?_
 refine Ok.bind (sD z3.2 _ _ k3) fun z4 k4=>?_
 refine Ok.bind (Q8 z4.2 _ _ k4) fun z5 k5=>?_
 refine Ok.bind (sD z5.2 _ _ k5) fun z6 k6=>?_
 refine Ok.bind (Q8 z6.2 _ _ k6) fun z7 k7=>?_
 refine Ok.bind (Q8 z7.2 _ _ k7) fun z8 k8=>?_
 refine Ok.bind (vK z8.2 _ _ k8) fun z9 k9=>?_
 refine Ok.bind (Q8 z9.2 _ _ k9) fun z10 k10=>?_
 refine Ok.bind (qI z10.2 _ _ k10) fun z11 k11=>?_
 refine Ok.bind (Q8 y5 _ _ h5) fun w1 m1=>?_
 refine Ok.bind (Q8 w1.2 _ _ m1) fun w2 m2=>?_
 have J:∀ y,Gu v=none->Ok (Cc.j1 y true) (fun y=>y=(match Gu v with | some c=>(c,true) | none=>(O4,false))):=fun y h=>Ok.ret (by rw [h]; rfl)
 have outer:(y4.2.Failed=true/\Gu v=none)\/(y4.2.Failed=false/\Cd v=some [y2.1,y4.1]):=by
  rcases h4.1.2 with ⟨hq,hf⟩ | ⟨t,hq,hr⟩
  ·refine .inl ⟨hf,?_⟩
   unfold Gu
   cases hl:Cd v with
   | none=>rfl
   | some l=>
    match l with
    | []=>rfl
    | [_]=>rfl
    | [a,b]=>
     have:J5 2 v=some ((),[a,b]):=by unfold J5; rw [hl]; rfl
     rw [this] at hq
     cases hq
    | _ :: _ :: _ :: _=>rfl
  ·refine .inr ⟨by rw [hr],?_⟩
   obtain⟨x,e1,e2⟩:=Ca hq
   obtain⟨x',e3,e4⟩:=Ca e1
   injection e2 with e2
   injection e4 with e4
   unfold J5 at e3
   obtain⟨l,e5,e6⟩:=aBp.1 e3
   split at e6
   ·rename_i hlen
    injection e6 with e6
    injection e6 with _ e6
    subst e6
    have ht:t=[]:=by simpa using hlen
    subst ht
    rw [e5,e2,e4]
   ·cases e6
 rcases outer with ⟨hf,hn⟩ | ⟨hf,hl⟩
 ·rw [hf,cond_true]
  exact J _ hn
 rw [hf,cond_false]
 have hp:Gu v=(Mh y2.1).bind fun b=>(Im y4.1).map fun s=>zY b s:=by unfold Gu; rw [hl]
 rcases k11.2 with ⟨hq,hb⟩ | ⟨t,hq,hr⟩
 ·rw [hb,cond_true]
  refine J _ ?_
  rw [hp,rW]
  have:K6 (J5 11 y2.1)=none:=hq
  rw [this]; rfl
 ·have hb:K6 (J5 11 y2.1)=some (((((((((((((),z1.1),z2.1),z3.1),z4.1),z5.1),z6.1),z7.1),z8.1),z9.1),z10.1),z11.1),t):=hq
  have hbf:z11.2.Failed=false:=by rw [hr]
  rw [hbf,cond_false]
  rw [rW,hb] at hp
  simp only [aBq,Option.bind_some] at hp
  have hpair:(w2.2.Failed=true/\Im y4.1=none)\/(w2.2.Failed=false/\Im y4.1=some (w1.1,w2.1)):=by
   rcases m2.2 with ⟨hq2,hf2⟩ | ⟨t2,hq2,hr2⟩
   ·refine .inl ⟨hf2,?_⟩
    unfold Im
    cases hl2:Cd y4.1 with
    | none=>rfl
    | some l2=>
     rw [Option.bind_some]
     cases hp2:On l2 with
     | none=>rfl
     | some p2=>
      obtain⟨⟨⟨u,a⟩,b⟩,t3⟩:=p2
      cases t3 with
      | cons _ _=>rfl
      | nil=>
       have hlen:=cR hp2
       have:J5 2 y4.1=some ((),l2):=by unfold J5; rw [hl2,Option.bind_some,if_pos (by simpa using hlen)]
       rw [this] at hq2
       unfold On at hp2
       rw [hq2] at hp2; cases hp2
   ·refine .inr ⟨by rw [hr2],?_⟩
    have h0:=hq2
    obtain⟨x1,e1,-⟩:=Ca hq2
    obtain⟨x2,e2,-⟩:=Ca e1
    unfold J5 at e2
    obtain⟨l2,e3,e4⟩:=aBp.1 e2
    split at e4
    ·rename_i hlen
     injection e4 with e4
     injection e4 with _ e4
     have ht:t2=[]:=by
      rw [e4] at hlen
      simp at hlen
      exact hlen
     subst ht
     unfold Im
     have:J5 2 y4.1=some ((),l2):=by unfold J5; rw [e3,Option.bind_some,if_pos hlen]
     rw [this] at h0
     rw [e3,Option.bind_some]
     unfold On
     rw [h0]
    ·cases e4
  rcases hpair with ⟨hf2,hn2⟩ | ⟨hf2,hs2⟩
  ·rw [hf2]
   refine J _ ?_
   rw [hp,hn2]; rfl
  ·rw [hf2]
   unfold Cc.j1
   rw [cond_false]
   refine Ok.ret ?_
   rw [hp,hs2]; rfl
end
section
open Go
structure RB (r:Ae):Prop where
 sz:Fz r.L < 1073741824
 a0:0<=r.At
 a1:r.At<=r.L.length
def aO {β:Type} (r:Ae) (q:Option (β×List Aa)) (b:β):Prop:=RB r/\((q=none/\r.OK=false)\/∃ t,q=some (b,t)/\r.OK=true/\r.L.drop r.At.toNat=t)
theorem nD (r:Ae) (hs:RB r):Ok (Bt r) (fun y=>RB y.2/\y.1.sz < 1073741824/\((r.OK=false\/r.L.drop r.At.toNat=[])/\y.2.OK=false/\y.1=Jy\/∃ x t,r.OK=true/\r.L.drop r.At.toNat=x :: t/\y.1=x/\y.2.OK=true/\y.2.L.drop y.2.At.toNat=t)):=by
 have hz:Jy.sz < 1073741824:=by decide
 have h0:=hs.a0
 have h1:=hs.a1
 have hn:=Hc r.L
 have hsz:=hs.sz
 unfold Bt Bt.j1
 cases hf:r.OK with
 | false=>exact Ok.ret ⟨⟨hs.sz,hs.a0,hs.a1⟩,hz,.inl ⟨.inl rfl,rfl,rfl⟩⟩
 | true=>
  rw [Bool.not_true,cond_false]
  refine Ok.cond (fun hc=>?_) fun hc=>?_
  ·have hc:=aBw hc
   exact Ok.ret ⟨⟨hs.sz,hs.a0,hs.a1⟩,hz,.inl ⟨.inr (List.drop_eq_nil_of_le (by omega)),rfl,rfl⟩⟩
  ·have hc:=of_decide_eq_false hc
   rw [Fv (x:=r.At + 1) (by omega),Fv (by omega),show r.At + 1 - 1=r.At by omega]
   obtain⟨x,hx,hat⟩:=N4 (l:=r.L) h0 (by omega)
   have hd:r.L.drop r.At.toNat=x :: r.L.drop (r.At.toNat + 1):=by
    obtain⟨hk,e⟩:=List.getElem?_eq_some_iff.1 hat
    rw [List.drop_eq_getElem_cons hk,e]
   have hm:=Kn (List.mem_of_getElem? hat)
   refine Ok.bindE hx (Ok.ret ⟨⟨hs.sz,by show 0<=r.At + 1; omega,by show r.At + 1<=(r.L.length:Int); omega⟩,by show x.sz < _; omega,.inr ⟨x,_,rfl,hd,rfl,rfl,?_⟩⟩)
   show r.L.drop (r.At + 1).toNat=_
   rw [show (r.At + 1).toNat=r.At.toNat + 1 by omega]
def V9 {α:Type} (f:Aa->Option α) (g:Ae->Option (α×Ae)):Prop:=∀ {β:Type} (r:Ae) (q:Option (β×List Aa)) (b:β),aO r q b->Ok (g r) (fun y=>aO y.2 (Fu q f) (b,y.1))
theorem aO.step {β:Type} {r:Ae} {q:Option (β×List Aa)} {b:β} (hs:aO r q b) {y:Aa×Ae} (hy:(r.OK=false\/r.L.drop r.At.toNat=[])/\y.2.OK=false/\y.1=Jy\/∃ x t,r.OK=true/\r.L.drop r.At.toNat=x :: t/\y.1=x/\y.2.OK=true/\y.2.L.drop y.2.At.toNat=t) :
  (y.2.OK=false/\y.1=Jy/\∀ {α:Type} (f:Aa->Option α),Fu q f=none)\/(y.2.OK=true/\∃ t,q=some (b,y.1 :: t)/\y.2.L.drop y.2.At.toNat=t):=by
 rcases hs.2 with ⟨hq,hf⟩ | ⟨t,hq,hr,hd⟩
 ·rcases hy with ⟨-,h3,h4⟩ | ⟨x,t,h4,-⟩
  ·exact .inl ⟨h3,h4,fun f=>by rw [hq]; rfl⟩
  ·rw [hf] at h4; cases h4
 ·rcases hy with ⟨h3,h4,h5⟩ | ⟨x,t',h3,h4,h5,h6,h7⟩
  ·refine .inl ⟨h4,h5,fun f=>?_⟩
   rcases h3 with h3 | h3
   ·rw [hr] at h3; cases h3
   ·rw [hd] at h3; subst h3; rw [hq]; rfl
  ·rw [hd] at h4
   subst h4 h5
   exact .inr ⟨h6,t',hq,h7⟩
theorem D0 {α β:Type} {b:β} {x:Aa} {t:List Aa} {f:Aa->Option α}:Fu (some (b,x :: t)) f=(f x).map fun a=>((b,a),t):=by
 cases h:f x <;> simp [Fu,one,h]
theorem aL {α:Type} {f:Aa->Option α} {g:Ae->Option (α×Ae)} (d:α) {h:Aa->Option (α×Int)} (hh:∀ v:Aa,v.sz < 1073741824->h v=some (L5 d (f v)))
  (D:∀ r,g r=(Bt r).bind fun y=>(h y.1).bind fun y_2=>cond (y.2.OK) (some (y_2.1,(Ae.mk y.2.L y.2.At (decide (y_2.2=0))))) (some (y_2.1,(Ae.mk y.2.L y.2.At false)))):V9 f g:=by
 intro β r q b hs
 rw [D]
 refine Ok.bind (nD r hs.1) fun y hy=>?_
 obtain⟨h1,h2,hy⟩:=hy
 refine Ok.bindE (hh y.1 h2) ?_
 rcases hs.step hy with ⟨hf,-,hn⟩ | ⟨hf,t,hq,hd⟩
 ·rw [hf,cond_false,hn]
  exact Ok.ret ⟨⟨h1.sz,h1.a0,h1.a1⟩,.inl ⟨rfl,rfl⟩⟩
 ·rw [hf,cond_true,hq,D0]
  refine Ok.ret ⟨⟨h1.sz,h1.a0,h1.a1⟩,?_⟩
  cases hx:f y.1 with
  | none=>exact .inl ⟨rfl,rfl⟩
  | some a=>exact .inr ⟨t,rfl,rfl,hd⟩
theorem Rl:V9 Dv Db:=aL 0 (h:=Bc) (fun v _=>cT v) (fun _=>rfl)
theorem fI:V9 C3 D8:=aL ⟨#[]⟩ (h:=Bk) (fun v hv=>Rn v (Ro hv)) (fun _=>rfl)
theorem wP:V9 G0 He:=aL false (h:=C1) (fun v _=>Zh v) (fun _=>rfl)
theorem iO (r:Ae) (hs:RB r) (ho:r.OK=true) (ha:r.At < (r.L.length:Int)):Ok (D8 r) (fun y=>y.2.L=r.L/\y.2.At=r.At + 1):=by
 have h0:=hs.a0
 have hn:=Hc r.L
 have hsz:=hs.sz
 unfold D8 Bt Bt.j1
 rw [ho,Bool.not_true,cond_false,decide_eq_false (by omega),cond_false]
 rw [Fv (x:=r.At + 1) (by omega),Fv (by omega),show r.At + 1 - 1=r.At by omega]
 obtain⟨x,hx,hat⟩:=N4 (l:=r.L) h0 (by omega)
 have hm:=Kn (List.mem_of_getElem? hat)
 rw [hx,Option.bind_some,Option.bind_some,Rn x (Ro (by omega)),Option.bind_some]
 exact Ok.ret ⟨rfl,rfl⟩
def Vj (v:Aa):Option (Unit×List Aa):=(Cd v).map fun l=>((),l)
theorem kE (v:Aa) (hv:v.sz < 1073741824):Ok (It v) (fun r=>aO r (Vj v) ()/\r.L=(Cd v).getD []):=by
 unfold It Vj
 refine Ok.bindE (Z1 v hv) ?_
 cases hl:Cd v with
 | none=>exact Ok.ret ⟨⟨⟨by show Fz [] < 1073741824; decide,Int.le_refl _,Int.le_refl _⟩,.inl ⟨rfl,rfl⟩⟩,rfl⟩
 | some l=>
  have:=Kj hl
  exact Ok.ret ⟨⟨⟨by show Fz l < 1073741824; omega,Int.le_refl _,by show (0:Int)<=(l.length:Int); omega⟩,.inr ⟨l,rfl,rfl,rfl⟩⟩,rfl⟩
theorem Y9 {β:Type} (r:Ae) (q:Option (β×List Aa)) (b:β) (hs:aO r q b):Ok (D9 r) (fun z=>aO z.2 (Fu q Cd) (b,z.1.L)/\aO z.1 ((Fu q Cd).map fun p=>((),p.1.2)) ()):=by
 unfold D9
 refine Ok.bind (nD r hs.1) fun y hy=>?_
 obtain⟨h1,h2,hy⟩:=hy
 refine Ok.bind (kE y.1 h2) fun z hz'=>?_
 obtain⟨hz,hzL⟩:=hz'
 rcases hs.step hy with ⟨hf,he,hn⟩ | ⟨hf,t,hq,hd⟩
 ·rw [hf,cond_false,hn]
  refine Ok.ret ⟨⟨⟨h1.sz,h1.a0,h1.a1⟩,.inl ⟨rfl,rfl⟩⟩,hz.1,.inl ⟨rfl,?_⟩⟩
  rw [he] at hz
  rcases hz.2 with ⟨-,h⟩ | ⟨t,h,-⟩
  ·exact h
  ·cases h
 ·rw [hf,cond_true,hq,D0]
  unfold Vj at hz
  cases hx:Cd y.1 with
  | none=>
   rw [hx] at hz
   rcases hz.2 with ⟨-,h⟩ | ⟨t,h,-⟩
   ·exact Ok.ret ⟨⟨⟨h1.sz,h1.a0,h1.a1⟩,.inl ⟨rfl,h⟩⟩,hz.1,.inl ⟨rfl,h⟩⟩
   ·cases h
  | some l=>
   rw [hx] at hz hzL
   have hzL:z.L=l:=hzL
   rcases hz.2 with ⟨h,-⟩ | ⟨t2,h,h3,h4⟩
   ·cases h
   ·have e:l=t2:=by
     injection h with h
     injection h with _ h
    subst e
    refine Ok.ret ⟨⟨⟨h1.sz,h1.a0,h1.a1⟩,.inr ⟨t,?_,h3,hd⟩⟩,hz.1,.inr ⟨l,rfl,h3,h4⟩⟩
    show some ((b,l),t)=some ((b,z.L),t)
    rw [hzL]
theorem gJ {β:Type} (r:Ae) (q:Option (β×List Aa)) (b:β) (hs:aO r q b):∃ e,Dh r=some (e,r)/\((e=true/\q=some (b,[]))\/(e=false/\∀ b',q≠some (b',[]))):=by
 unfold Dh
 have h0:=hs.1.a0
 have h1:=hs.1.a1
 rcases hs.2 with ⟨hq,hf⟩ | ⟨t,hq,hf,hd⟩
 ·rw [hf,cond_false]
  exact⟨false,rfl,.inr ⟨rfl,fun b' h=>by rw [hq] at h; cases h⟩⟩
 ·rw [hf,cond_true]
  by_cases h:r.At=(r.L.length:Int)
  ·refine⟨_,rfl,.inl ⟨decide_eq_true h,?_⟩⟩
   rw [hq,<- hd,List.drop_eq_nil_of_le (by omega)]
  ·refine⟨_,rfl,.inr ⟨decide_eq_false h,fun b' h'=>?_⟩⟩
   rw [hq] at h'
   injection h' with h'
   injection h' with _ h'
   rw [h'] at hd
   have:=List.drop_eq_nil_iff.1 hd
   omega
theorem W9 {v:Aa} {l:List Aa} (h:Cd v=some l):Im v=match On l with
 | some (((_,a),b),[])=>some (a,b)
 | _=>none:=by unfold Im; rw [h]; rfl
theorem rU:V9 Qr C4:=by
 intro β r q b hs
 unfold C4 C4.j1
 refine Ok.bind (Y9 r q b hs) fun z hz=>?_
 obtain⟨hz1,hz2⟩:=hz
 refine Ok.bind (Rl z.1 _ _ hz2) fun y1 h1=>?_
 refine Ok.bind (Rl y1.2 _ _ h1) fun y2 h2=>?_
 have hB:=hz1.1
 rcases hz1.2 with ⟨hq,hf⟩ | ⟨t,hq,hf,hd⟩
 ·rw [hf,cond_false]
  refine Ok.ret ⟨⟨hB.sz,hB.a0,hB.a1⟩,.inl ⟨?_,rfl⟩⟩
  cases q with
  | none=>rfl
  | some p=>
   obtain⟨b',l⟩:=p
   cases l with
   | nil=>rfl
   | cons x l=>
    rw [D0] at hq ⊢
    cases hx:Cd x with
    | none=>unfold Qr Im; rw [hx]; rfl
    | some _=>rw [hx] at hq; cases hq
 ·obtain⟨x,e1,e2⟩:=Ca hq
  have e1:q=some (b,x :: t):=e1
  have e2:Cd x=some z.1.L:=e2
  rw [hq] at h2
  obtain⟨e,he,hend⟩:=gJ y2.2 _ _ h2
  rw [hf,cond_true]
  refine Ok.bindE he (Ok.ret ⟨⟨hB.sz,hB.a0,hB.a1⟩,?_⟩)
  rw [e1,D0]
  have hp:=W9 e2
  have hpq:On z.1.L=Fu (Fu ((some ((b,z.1.L),t)).map fun p:(β×List Aa)×List Aa=>((),p.1.2)) Dv) Dv:=rfl
  rw [hpq] at hp
  rcases hend with ⟨he1,hq2⟩ | ⟨he1,hq2⟩
  ·rw [hq2] at hp
   refine .inr ⟨t,?_,he1,hd⟩
   unfold Qr
   rw [hp]; rfl
  ·refine .inl ⟨?_,he1⟩
   have:Im x=none:=by
    rw [hp]
    split
    ·rename_i u a b' hm
     exact absurd hm (hq2 _)
    ·rfl
   unfold Qr
   rw [this]; rfl
theorem nB (v:Aa) (hv:v.sz < 1073741824):Ok (Da v) (fun z=>match Gu v with | some c=>z=(c,true) | none=>z.2=false):=by
 unfold Da
 refine Ok.bind (kE v hv) fun y hy=>?_
 refine Ok.bind (Y9 y _ _ hy.1) fun y2 h2=>?_
 refine Ok.bind (Rl y2.1 _ _ h2.2) fun z1 k1=>?_
 refine Ok.bind (fI z1.2 _ _ k1) fun z2 k2=>?_
 refine Ok.bind (fI z2.2 _ _ k2) fun z3 k3=>?_
 refine Ok.bind (rU z3.2 _ _ k3) fun z4 k4=>?_
 refine Ok.bind (Rl z4.2 _ _ k4) fun z5 k5=>?_
 refine Ok.bind (rU z5.2 _ _ k5) fun z6 k6=>?_
 refine Ok.bind (Rl z6.2 _ _ k6) fun z7 k7=>?_
 refine Ok.bind (Rl z7.2 _ _ k7) fun z8 k8=>?_
 refine Ok.bind (wP z8.2 _ _ k8) fun z9 k9=>?_
 refine Ok.bind (Rl z9.2 _ _ k9) fun z10 k10=>?_
 refine Ok.bind (Y9 z10.2 _ _ k10) fun y13 h13=>?_
 obtain⟨kb,kn⟩:=h13
 have hB:=kn.1
 refine Ok.loop (fun s=>s.1.L=y13.1.L/\RB s.1/\(s.2.length:Int)=s.1.At - y13.1.At/\y13.1.At<=s.1.At/\
   ((s.1.OK=true/\y13.1.OK=true/\((y13.1.L.drop y13.1.At.toNat).take s.2.length).all (fun v=>(C3 v).isSome)=true/\s.2=((y13.1.L.drop y13.1.At.toNat).take s.2.length).map gY)\/(s.1.OK=false/\(y13.1.OK=false\/Jz (y13.1.L.drop y13.1.At.toNat)=none)))) (fun s=>(y13.1.L.length:Int).toNat + 1 - s.1.At.toNat) (fun s hs=>?_) ?_
 ·obtain⟨n,l⟩:=s
  obtain⟨a1,a2,a3,a4,a5⟩:=hs
  dsimp only at a1 a2 a3 a4 a5
  have hn:=Hc n.L
  have hsz:=a2.sz
  have b0:=a2.a0
  have b1:=a2.a1
  have c0:=hB.a0
  have c1:=hB.a1
  show Ok (Da.l1 y2 z1 z2 z3 z4 z5 z6 z7 z8 z9 z10 y13 n l) _
  have fin:(n.OK=false\/(n.L.length:Int)<=n.At)->Ok (Da.j2 y2 z1 z2 z3 z4 z5 z6 z7 z8 z9 z10 y13 n l false) (xO (fun s'=>(s'.1.L=y13.1.L/\RB s'.1/\(s'.2.length:Int)=s'.1.At - y13.1.At/\y13.1.At<=s'.1.At/\
    ((s'.1.OK=true/\y13.1.OK=true/\((y13.1.L.drop y13.1.At.toNat).take s'.2.length).all (fun v=>(C3 v).isSome)=true/\s'.2=((y13.1.L.drop y13.1.At.toNat).take s'.2.length).map gY)\/(s'.1.OK=false/\(y13.1.OK=false\/Jz (y13.1.L.drop y13.1.At.toNat)=none))))/\(y13.1.L.length:Int).toNat + 1 - s'.1.At.toNat < (y13.1.L.length:Int).toNat + 1 - ((n,l):Ae×List ByteArray).1.At.toNat) (fun z=>match Gu v with | some c=>z=(c,true) | none=>z.2=false)):=by
   intro hend
   unfold Da.j2
   rw [cond_false]
   refine Ok.up ?_
   refine Ok.bind (Y9 y2.2 _ _ h2.1) fun y15 h15=>?_
   refine Ok.bind (Rl y15.1 _ _ h15.2) fun w1 m1=>?_
   refine Ok.bind (Rl w1.2 _ _ m1) fun w2 m2=>?_
   obtain⟨e18,he18,f18⟩:=gJ y15.2 _ _ h15.1
   obtain⟨e19,he19,f19⟩:=gJ y13.2 _ _ kb
   obtain⟨e21,he21,f21⟩:=gJ w2.2 _ _ m2
   have f20:∃ e,Dh n=some (e,n)/\((e=true/\y13.1.OK=true/\Jz (y13.1.L.drop y13.1.At.toNat)=some l)\/(e=false/\(y13.1.OK=false\/Jz (y13.1.L.drop y13.1.At.toNat)=none))):=by
    unfold Dh
    rcases a5 with ⟨o1,o2,o3,o4⟩ | ⟨o1,o2⟩
    ·rw [o1,cond_true]
     rcases hend with h | h
     ·rw [o1] at h; cases h
     have hall:n.At=(n.L.length:Int):=by omega
     refine⟨_,rfl,.inl ⟨decide_eq_true hall,o2,?_⟩⟩
     have hlen:l.length=(y13.1.L.drop y13.1.At.toNat).length:=by
      rw [List.length_drop]
      have:=congrArg List.length a1
      omega
     rw [hlen,aBm] at o3 o4
     unfold Jz
     rw [if_pos o3,o4]
    ·rw [o1,cond_false]
     exact⟨_,rfl,.inr ⟨rfl,o2⟩⟩
   obtain⟨e20,he20,f20⟩:=f20
   refine Ok.bindE he18 ?_
   have houter:∀ x y,Cd v=some [x,y]->Fu (Fu (Vj v) Cd) Cd=((Cd x).bind fun l=>(Cd y).map fun m=>((((),l),m),[])):=by
    intro x y h
    unfold Vj
    rw [h]
    show Fu (Fu (some ((),[x,y])) Cd) Cd=_
    rw [D0]
    cases hx:Cd x with
    | none=>rfl
    | some lx=>
     show Fu (some (((),lx),[y])) Cd=_
     rw [D0]
     cases Cd y <;> rfl
   have hno:Gu v=none->Ok (some ((Ab.mk z1.1 z2.1 z3.1 z4.1 z5.1 z6.1 z7.1 z8.1 z9.1 z10.1 l (Bv.mk w1.1 w2.1)),false)) (fun z:Ab×Bool=>match Gu v with | some c=>z=(c,true) | none=>z.2=false):=fun h=>Ok.ret (by rw [h])
   rcases f18 with ⟨g18,q18⟩ | ⟨g18,q18⟩
   rotate_left
   ·-- not two lists
    subst g18
    refine hno ?_
    unfold Gu
    cases hl:Cd v with
    | none=>rfl
    | some l2=>
     match l2,hl with
     | [],_=>rfl
     | [_],_=>rfl
     | [x,y],hl=>
      have:=houter x y hl
      dsimp only
      cases hx:Cd x with
      | none=>unfold Mh; rw [hx]; rfl
      | some lx=>
       cases hy':Cd y with
       | none=>
        have:Im y=none:=by unfold Im; rw [hy']; rfl
        rw [this]
        cases Mh x <;> rfl
       | some ly=>
        rw [hx,hy'] at this
        exact absurd this (q18 _)
     | _ :: _ :: _ :: _,_=>rfl
   subst g18
   rw [show ((true,y15.2):Bool×Ae).1=true from rfl,cond_true]
   obtain⟨y',p1,p2⟩:=Ca q18
   obtain⟨x',p3,p4⟩:=Ca p1
   have hl:Cd v=some [x',y']:=by
    unfold Vj at p3
    obtain⟨l3,q1,q2⟩:=aBi.1 p3
    injection q2 with _ q2
    rw [q1,q2]
   have p4:Cd x'=some y2.1.L:=p4
   have p2:Cd y'=some y15.1.L:=p2
   have hp:Gu v=(Mh x').bind fun b=>(Im y').map fun s=>zY b s:=by unfold Gu; rw [hl]
   have hq0:Fu (Vj v) Cd=some (((),y2.1.L),[y']):=p1
   rw [hq0] at k1 k2 k3 k4 k5 k6 k7 k8 k9 k10 kb kn f19
   rw [q18] at m2 f21
   have hbody:Mh x'=match K6 (some ((),y2.1.L)) with
    | some (b,[])=>some b
    | _=>none:=by unfold Mh; rw [p4]; rfl
   have hpair:=W9 p2
   have hb10:V6 (some ((),y2.1.L))=Fu (Fu (Fu (Fu (Fu (Fu (Fu (Fu (Fu (Fu (Option.map (fun p:(Unit×List Aa)×List Aa=>((),p.1.2)) (some (((),y2.1.L),[y']))) Dv) C3) C3) Qr) Dv) Qr) Dv) Dv) G0) Dv:=rfl
   rw [<- hb10] at kb kn f19
   refine Ok.bindE he19 ?_
   rcases f19 with ⟨g19,q19⟩ | ⟨g19,q19⟩
   rotate_left
   ·subst g19
    refine hno ?_
    have:Mh x'=none:=by
     rw [hbody]
     cases hQ:K6 (some ((),y2.1.L)) with
     | none=>rfl
     | some p=>
      obtain⟨b,t⟩:=p
      cases t with
      | cons _ _=>rfl
      | nil=>
       exfalso
       unfold K6 at hQ
       obtain⟨xn,r1,r2⟩:=Ca hQ
       unfold Lz at r2
       obtain⟨ln,r3,-⟩:=aBp.1 r2
       refine q19 (b.1,ln) ?_
       rw [r1,D0,r3]; rfl
    rw [hp,this]; rfl
   subst g19
   rw [show ((true,y13.2):Bool×Ae).1=true from rfl,cond_true]
   obtain⟨xn,r1,r2⟩:=Ca q19
   have r2:Cd xn=some y13.1.L:=r2
   have hdrop:y13.1.L.drop y13.1.At.toNat=y13.1.L/\y13.1.OK=true:=by
    rcases kn.2 with ⟨h,-⟩ | ⟨t,h,h3,h4⟩
    ·rw [q19] at h; cases h
    ·rw [q19] at h
     injection h with h
     injection h with _ h
     rw [h4,<- h]; exact⟨rfl,h3⟩
   rw [hdrop.1,hdrop.2] at f20
   refine Ok.bindE he20 ?_
   have hQ:K6 (some ((),y2.1.L))=(Jz y13.1.L).map fun a=>(((((((((((((),z1.1),z2.1),z3.1),z4.1),z5.1),z6.1),z7.1),z8.1),z9.1),z10.1),a),[]):=by
    unfold K6
    rw [r1,D0]
    unfold Lz
    rw [r2]; rfl
   rcases f20 with ⟨g20,-,q20⟩ | ⟨g20,q20⟩
   rotate_left
   ·subst g20
    refine hno ?_
    have q20:Jz y13.1.L=none:=by
     rcases q20 with h | h
     ·cases h
     ·exact h
    have:Mh x'=none:=by rw [hbody,hQ,q20]; rfl
    rw [hp,this]; rfl
   subst g20
   rw [show ((true,n):Bool×Ae).1=true from rfl,cond_true]
   rw [q20] at hQ
   have hb:Mh x'=some ((((((((((((),z1.1),z2.1),z3.1),z4.1),z5.1),z6.1),z7.1),z8.1),z9.1),z10.1),l):=by rw [hbody,hQ]; rfl
   refine Ok.bindE he21 (Ok.ret ?_)
   have hpq:On y15.1.L=Fu (Fu ((some ((((),y2.1.L),y15.1.L),[])).map fun p:((Unit×List Aa)×List Aa)×List Aa=>((),p.1.2)) Dv) Dv:=rfl
   rw [hpq] at hpair
   rcases f21 with ⟨g21,q21⟩ | ⟨g21,q21⟩
   ·rw [q21] at hpair
    rw [hp,hb,hpair,g21]; rfl
   ·have:Im y'=none:=by
     rw [hpair]
     split
     ·rename_i u a b' hm
      exact absurd hm (q21 _)
     ·rfl
    rw [hp,hb,this,g21]; rfl
  unfold Da.l1
  refine Ok.cond (fun hok=>?_) fun hok=>fin (.inl hok)
  by_cases hat:n.At < (n.L.length:Int)
  rotate_left
  ·rw [decide_eq_false hat]
   exact fin (.inr (by omega))
  rw [decide_eq_true hat]
  unfold Da.j2
  rw [cond_true]
  rcases a5 with ⟨o1,o2,o3,o4⟩ | ⟨o1,o2⟩
  rotate_left
  ·rw [o1] at hok; cases hok
  obtain⟨e,he⟩:∃ e,n.L[n.At.toNat]?=some e:=⟨_,List.getElem?_eq_getElem (by omega)⟩
  have X1:n.L.drop n.At.toNat=e :: n.L.drop (n.At.toNat + 1):=by
   obtain⟨hk,e'⟩:=List.getElem?_eq_some_iff.1 he
   rw [List.drop_eq_getElem_cons hk,e']
  refine Ok.bind ((fI n (some ((),n.L.drop n.At.toNat)) () ⟨a2,.inr ⟨_,rfl,o1,rfl⟩⟩).and (iO n a2 o1 hat)) fun y14 h14=>?_
  obtain⟨⟨h14,h14s⟩,h14L,h14A⟩:=h14
  rw [X1,D0] at h14s
  refine Ok.bindE (D5 (by rw [aBg]; omega)) ?_
  have hel:(y13.1.L.drop y13.1.At.toNat)[l.length]?=some e:=by
   rw [List.getElem?_drop,<- a1,show y13.1.At.toNat + l.length=n.At.toNat by omega]; exact he
  refine Ok.ret ⟨⟨h14L.trans a1,h14,?_,by show y13.1.At<=y14.2.At; omega,?_⟩,?_⟩
  ·show ((l ++ [y14.1]).length:Int)=y14.2.At - y13.1.At
   rw [List.length_append,aBg]; omega
  ·show _\/_
   dsimp only
   rcases h14s with ⟨g1,g2⟩ | ⟨t,g1,g2,g3⟩
   ·refine .inr ⟨g2,.inr ?_⟩
    have:C3 e=none:=by cases hx:C3 e with
     | none=>rfl
     | some _=>rw [hx] at g1; cases g1
    unfold Jz
    rw [if_neg]
    intro hall
    have:=List.all_eq_true.1 hall e (I3 hel)
    rw [‹C3 e=none›] at this
    cases this
   ·have ht:C3 e=some y14.1:=by
     cases hx:C3 e with
     | none=>rw [hx] at g1; cases g1
     | some s=>
      rw [hx] at g1
      injection g1 with g1
      injection g1 with g1 _
      injection g1 with _ g1
      rw [g1]
    refine .inl ⟨g2,o2,?_,?_⟩
    ·rw [List.length_append,aBg,Fm hel,List.all_append,o3]
     simp [ht]
    ·rw [List.length_append,aBg,Fm hel,aCh,<- o4]
     simp [gY,ht]
  ·dsimp only
   have:=congrArg List.length a1
   omega
 ·refine⟨rfl,hB,by dsimp only; simp,Int.le_refl _,?_⟩
  cases ho:y13.1.OK with
  | true=>exact .inl ⟨rfl,rfl,by simp,by simp⟩
  | false=>exact .inr ⟨rfl,.inl rfl⟩
end
end Go.Proofs.YtlfeokjhphpjeaaGreat
