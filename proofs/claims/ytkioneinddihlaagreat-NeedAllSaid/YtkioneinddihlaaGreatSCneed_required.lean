import Derived.Test.YtkioneinddihlaaGreatL3
import Derived.Test.YtkioneinddihlaaGreatC1
import Derived.Test.YtkioneinddihlaaGreatCO
set_option linter.unusedVariables false
set_option linter.unusedSimpArgs false
namespace Go.Proofs.YtkioneinddihlaaGreat
open Go
theorem K9 (x:Aa):∀ l:List Aa,Ly (l ++ [x])=if l.getLast?=some x then Ly l else Ly l ++ [x]
 | []=>by simp [Ly]
 | [y]=>by
  show (if y=x then Ly [x] else y :: Ly [x])=_
  by_cases h:y=x
  ·rw [if_pos h,if_pos (by simp [h]),h]
  ·rw [if_neg h,if_neg (by simpa using h)]
   rfl
 | y :: z :: l=>by
  have ih:=K9 x (z :: l)
  show (if y=z then Ly (z :: (l ++ [x])) else y :: Ly (z :: (l ++ [x])))=_
  rw [List.getLast?_cons_cons]
  have e:Ly (y :: z :: l)=if y=z then Ly (z :: l) else y :: Ly (z :: l):=rfl
  rw [e,show z :: (l ++ [x])=z :: l ++ [x] from rfl,ih]
  by_cases h:y=z
  ·rw [if_pos h,if_pos h]
  ·rw [if_neg h,if_neg h]
   split <;> rfl
theorem Lx {s:List Aa} {i:Nat} {x y:Aa} (hx:s[i + 1]?=some x) (hy:s[i]?=some y):Ly (s.take (i + 2))=if y=x then Ly (s.take (i + 1)) else Ly (s.take (i + 1)) ++ [x]:=by
 rw [Hf hx,K9]
 rw [show (s.take (i + 1)).getLast?=some y by rw [Hf hy]; simp]
 by_cases h:y=x
 ·rw [if_pos (by rw [h]),if_pos h]
 ·rw [if_neg (fun e=>h (by injection e)),if_neg h]
theorem Q3 (s:List Aa) (hs:s.length < 4611686018427387904):Ok (Bf s) (fun r=>r=Ly s):=by
 unfold Bf
 refine Ok.cond (fun h=>Ok.ret ?_) (fun h=>?_)
 ·have h:=aCe h
  match s,h with
  | [],_=>rfl
  | [x],_=>rfl
  | _ :: _ :: _,h=>simp only [aIx] at h; omega
 ·have h:=aDs h
  refine Ok.loop (fun k:Int=>∃ i:Nat,k=((i + 1:Nat):Int)/\i + 1<=s.length/\Ly (s.take (i + 1))=s.take (i + 1)) (fun k=>s.length - k.toNat) ?_ ⟨0,rfl,by omega,?_⟩
  ·rintro k ⟨i,rfl,hi,hc⟩
   show Ok (Bf.l1 s ((i + 1:Nat):Int)) _
   unfold Bf.l1
   refine Ok.cond (fun h1=>?_) (fun h1=>?_)
   ·have h1:=aCe h1
    obtain⟨x,hx⟩:∃ x,s[i + 1]?=some x:=⟨_,aAy (by omega)⟩
    obtain⟨y,hy⟩:∃ y,s[i]?=some y:=⟨_,aAy (by omega)⟩
    refine Ok.bindE (Cr.trans hx) ?_
    rw [Db (show -9223372036854775808<=((i + 1:Nat):Int) - 1/\((i + 1:Nat):Int) - 1<=9223372036854775807 by omega),show ((i + 1:Nat):Int) - 1=(i:Int) by omega]
    refine Ok.bindE (Cr.trans hy) ?_
    have hst:=Lx hx hy
    refine Ok.cond (fun h2=>?_) (fun h2=>Ok.ret ⟨⟨i + 1,?_,by omega,?_⟩,?_⟩)
    ·have h2:=aCe h2
     rw [if_pos h2.symm,hc] at hst
     refine Ok.bind (Ro (a:=((i + 1:Nat):Int)) (b:=(s.length:Int)) (by omega)) fun l _=>?_
     refine Ok.loop (fun q:Int×Int×List Aa=>∃ a b:Nat,q.1=(a:Int)/\q.2.1=((b + 1:Nat):Int)/\a<=i + 1 + b/\i + 1 + b + 1<=s.length/\q.2.2.length=s.length/\q.2.2.take a=Ly (s.take (i + 1 + b + 1))/\∀ m,i + 1 + b<=m->q.2.2[m]?=s[m]?) (fun q=>s.length - q.2.1.toNat) ?_ ⟨i + 1,0,rfl,rfl,by omega,by omega,rfl,hst.symm,fun _ _=>rfl⟩
     rintro⟨k',k2,s'⟩ ⟨a,b,e1,e2,h3,h4,h5,h6,h7⟩
     simp only at e1 e2 h5 h6 h7
     subst e1 e2
     show Ok (Bf.l2 s ((i + 1:Nat):Int) (a:Int) ((b + 1:Nat):Int) s') _
     unfold Bf.l2
     have ed:(((i + 1:Nat):Int)).toNat=i + 1:=by omega
     have en:(((s.length:Int):Int)).toNat=s.length:=by omega
     have hget:∀ m:Nat,m < s.length - (i + 1)->Bo ((s'.drop (((i + 1:Nat):Int)).toNat).take ((((s.length:Int):Int)).toNat - (((i + 1:Nat):Int)).toNat)) (m:Int)=s'[i + 1 + m]?:=fun m hm=>by
      rw [Cr,ed,en,aH3,if_pos hm,aH7]
     refine Ok.cond (fun g1=>?_) (fun g1=>?_)
     ·have g1:=aCe g1
      rw [ed,en] at g1
      obtain⟨x2,hx2⟩:∃ x2,s[i + 1 + b + 1]?=some x2:=⟨_,aAy (by omega)⟩
      obtain⟨y2,hy2⟩:∃ y2,s[i + 1 + b]?=some y2:=⟨_,aAy (by omega)⟩
      refine Ok.bindE ((hget (b + 1) (by omega)).trans ((h7 _ (by omega)).trans hx2)) ?_
      rw [Db (show -9223372036854775808<=((b + 1:Nat):Int) - 1/\((b + 1:Nat):Int) - 1<=9223372036854775807 by omega),show ((b + 1:Nat):Int) - 1=(b:Int) by omega]
      refine Ok.bindE ((hget b (by omega)).trans ((h7 _ (by omega)).trans hy2)) ?_
      have hs2:=Lx hx2 hy2
      have eb:W (((b + 1:Nat):Int) + 1)=((b + 1 + 1:Nat):Int):=by rw [Db (by omega)]; omega
      refine Ok.cond (fun g2=>?_) (fun g2=>?_)
      ·have g2:¬ x2=y2:=by simpa using g2
       rw [if_neg (fun e=>g2 e.symm)] at hs2
       obtain⟨z,hz⟩:∃ z,s'[a]?=some z:=⟨_,aAy (by omega)⟩
       refine Ok.bindE (Cr.trans hz) ?_
       unfold Bf.j3
       rw [eb,Db (show -9223372036854775808<=(a:Int) + 1/\(a:Int) + 1<=9223372036854775807 by omega)]
       have ea:((a:Int)).toNat=a:=by omega
       refine Ok.ret ⟨⟨a + 1,b + 1,by omega,rfl,by omega,by omega,?_,?_,fun m hm=>?_⟩,?_⟩
       ·show (Dj s' (a:Int).toNat x2).length=_
        unfold Dj
        rw [aOc]; exact h5
       ·show (Dj s' (a:Int).toNat x2).take (a + 1)=_
        unfold Dj
        have:(s'.set (a:Int).toNat x2)[a]?=some x2:=by rw [ea,aMb (by omega)]
        rw [Hf this,ea,List.take_set_of_le (aHy a),h6]
        exact hs2.symm
       ·show (Dj s' (a:Int).toNat x2)[m]?=_
        unfold Dj
        rw [aL1 (by omega)]
        exact h7 m (by omega)
       ·show s.length - (((b + 1 + 1:Nat):Int)).toNat < s.length - (((b + 1:Nat):Int)).toNat
        omega
      ·have g2:x2=y2:=by simpa using g2
       rw [if_pos g2.symm] at hs2
       unfold Bf.j3
       rw [eb]
       refine Ok.ret ⟨⟨a,b + 1,rfl,rfl,by omega,by omega,h5,h6.trans hs2.symm,fun m hm=>h7 m (by omega)⟩,?_⟩
       show s.length - (((b + 1 + 1:Nat):Int)).toNat < s.length - (((b + 1:Nat):Int)).toNat
       omega
     ·have g1:=aDs g1
      rw [ed,en] at g1
      have hb:i + 1 + b + 1=s.length:=by omega
      rw [hb,aKf] at h6
      have ea:((a:Int)).toNat=a:=by omega
      refine Ok.up (Ok.bind (Ro (a:=(a:Int)) (b:=(s'.length:Int)) (by omega)) fun l2 _=>?_)
      refine Ok.bind (Q:=fun r=>r.length=s'.length/\r.take a=s'.take a) ?_ fun l3 h3'=>?_
      ·unfold tK
       rw [ea,show (((s'.length:Int):Int)).toNat=s'.length by omega,if_pos (by omega)]
       refine⟨_,rfl,by simp; omega,?_⟩
       rw [aJb,aPa,aHx (by simp; omega)]
       have:a - (s'.take a).length=0:=by rw [aGn]; omega
       rw [this]
       simp
      ·refine Ok.bind (Ro (a:=0) (b:=(a:Int)) (by omega)) fun l4 _=>Ok.up (Ok.ret ?_)
       show l3.take ((a:Int).toNat - (0:Int).toNat)=_
       rw [ea,show a - (0:Int).toNat=a from rfl,h3'.2,h6]
    ·rw [Db (by omega)]
     omega
    ·have h2:¬ x=y:=aDs h2
     rw [if_neg (fun e=>h2 e.symm),hc,<- Hf hx] at hst
     exact hst
    ·rw [Db (by omega)]
     omega
   ·have h1:=aDs h1
    refine Ok.up (Ok.ret ?_)
    have hl:i + 1=s.length:=by omega
    rw [hl,aKf] at hc
    exact hc.symm
  ·match s,h with
   | [],_=>rfl
   | x :: _,_=>rfl
end Go.Proofs.YtkioneinddihlaaGreat
