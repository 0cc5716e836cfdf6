import Derived.Test.YtchpcpaacenodaaGreatL3
import Derived.Test.YtchpcpaacenodaaGreatC1
import Derived.Test.YtchpcpaacenodaaGreatCO
set_option linter.unusedVariables false
set_option linter.unusedSimpArgs false
namespace Go.Proofs.YtchpcpaacenodaaGreat
open Go
theorem Me (x:Aa):∀ l:List Aa,Mk (l ++ [x])=if l.getLast?=some x then Mk l else Mk l ++ [x]
 | []=>by simp [Mk]
 | [y]=>by
  show (if y=x then Mk [x] else y :: Mk [x])=_
  by_cases h:y=x
  ·rw [if_pos h,if_pos (by simp [h]),h]
  ·rw [if_neg h,if_neg (by simpa using h)]
   rfl
 | y :: z :: l=>by
  have ih:=Me x (z :: l)
  show (if y=z then Mk (z :: (l ++ [x])) else y :: Mk (z :: (l ++ [x])))=_
  rw [List.getLast?_cons_cons]
  have e:Mk (y :: z :: l)=if y=z then Mk (z :: l) else y :: Mk (z :: l):=rfl
  rw [e,show z :: (l ++ [x])=z :: l ++ [x] from rfl,ih]
  by_cases h:y=z
  ·rw [if_pos h,if_pos h]
  ·rw [if_neg h,if_neg h]
   split <;> rfl
theorem Na {s:List Aa} {i:Nat} {x y:Aa} (hx:s[i + 1]?=some x) (hy:s[i]?=some y):Mk (s.take (i + 2))=if y=x then Mk (s.take (i + 1)) else Mk (s.take (i + 1)) ++ [x]:=by
 rw [I9 hx,Me]
 rw [show (s.take (i + 1)).getLast?=some y by rw [I9 hy]; simp]
 by_cases h:y=x
 ·rw [if_pos (by rw [h]),if_pos h]
 ·rw [if_neg (fun e=>h (by injection e)),if_neg h]
theorem Nq (s:List Aa) (hs:s.length < 4611686018427387904):Ok (Bc s) (fun r=>r=Mk s):=by
 unfold Bc
 refine Ok.cond (fun h=>Ok.ret ?_) (fun h=>?_)
 ·have h:=aCl h
  match s,h with
  | [],_=>rfl
  | [x],_=>rfl
  | _ :: _ :: _,h=>simp only [aH2] at h; omega
 ·have h:=aD7 h
  refine Ok.loop (fun k:Int=>∃ i:Nat,k=((i + 1:Nat):Int)/\i + 1<=s.length/\Mk (s.take (i + 1))=s.take (i + 1)) (fun k=>s.length - k.toNat) ?_ ⟨0,rfl,by omega,?_⟩
  ·rintro k ⟨i,rfl,hi,hc⟩
   show Ok (Bc.l1 s ((i + 1:Nat):Int)) _
   unfold Bc.l1
   refine Ok.cond (fun h1=>?_) (fun h1=>?_)
   ·have h1:=aCl h1
    obtain⟨x,hx⟩:∃ x,s[i + 1]?=some x:=⟨_,aBo (by omega)⟩
    obtain⟨y,hy⟩:∃ y,s[i]?=some y:=⟨_,aBo (by omega)⟩
    refine Ok.bindE (D6.trans hx) ?_
    rw [Es (show -9223372036854775808<=((i + 1:Nat):Int) - 1/\((i + 1:Nat):Int) - 1<=9223372036854775807 by omega),show ((i + 1:Nat):Int) - 1=(i:Int) by omega]
    refine Ok.bindE (D6.trans hy) ?_
    have hst:=Na hx hy
    refine Ok.cond (fun h2=>?_) (fun h2=>Ok.ret ⟨⟨i + 1,?_,by omega,?_⟩,?_⟩)
    ·have h2:=aCl h2
     rw [if_pos h2.symm,hc] at hst
     refine Ok.bind (aD (a:=((i + 1:Nat):Int)) (b:=(s.length:Int)) (by omega)) fun l _=>?_
     refine Ok.loop (fun q:Int×Int×List Aa=>∃ a b:Nat,q.1=(a:Int)/\q.2.1=((b + 1:Nat):Int)/\a<=i + 1 + b/\i + 1 + b + 1<=s.length/\q.2.2.length=s.length/\q.2.2.take a=Mk (s.take (i + 1 + b + 1))/\∀ m,i + 1 + b<=m->q.2.2[m]?=s[m]?) (fun q=>s.length - q.2.1.toNat) ?_ ⟨i + 1,0,rfl,rfl,by omega,by omega,rfl,hst.symm,fun _ _=>rfl⟩
     rintro⟨k',k2,s'⟩ ⟨a,b,e1,e2,h3,h4,h5,h6,h7⟩
     simp only at e1 e2 h5 h6 h7
     subst e1 e2
     show Ok (Bc.l2 s ((i + 1:Nat):Int) (a:Int) ((b + 1:Nat):Int) s') _
     unfold Bc.l2
     have ed:(((i + 1:Nat):Int)).toNat=i + 1:=by omega
     have en:(((s.length:Int):Int)).toNat=s.length:=by omega
     have hget:∀ m:Nat,m < s.length - (i + 1)->B8 ((s'.drop (((i + 1:Nat):Int)).toNat).take ((((s.length:Int):Int)).toNat - (((i + 1:Nat):Int)).toNat)) (m:Int)=s'[i + 1 + m]?:=fun m hm=>by
      rw [D6,ed,en,aHt,if_pos hm,aHu]
     refine Ok.cond (fun g1=>?_) (fun g1=>?_)
     ·have g1:=aCl g1
      rw [ed,en] at g1
      obtain⟨x2,hx2⟩:∃ x2,s[i + 1 + b + 1]?=some x2:=⟨_,aBo (by omega)⟩
      obtain⟨y2,hy2⟩:∃ y2,s[i + 1 + b]?=some y2:=⟨_,aBo (by omega)⟩
      refine Ok.bindE ((hget (b + 1) (by omega)).trans ((h7 _ (by omega)).trans hx2)) ?_
      rw [Es (show -9223372036854775808<=((b + 1:Nat):Int) - 1/\((b + 1:Nat):Int) - 1<=9223372036854775807 by omega),show ((b + 1:Nat):Int) - 1=(b:Int) by omega]
      refine Ok.bindE ((hget b (by omega)).trans ((h7 _ (by omega)).trans hy2)) ?_
      have hs2:=Na hx2 hy2
      have eb:W (((b + 1:Nat):Int) + 1)=((b + 1 + 1:Nat):Int):=by rw [Es (by omega)]; omega
      refine Ok.cond (fun g2=>?_) (fun g2=>?_)
      ·have g2:¬ x2=y2:=by simpa using g2
       rw [if_neg (fun e=>g2 e.symm)] at hs2
       obtain⟨z,hz⟩:∃ z,s'[a]?=some z:=⟨_,aBo (by omega)⟩
       refine Ok.bindE (D6.trans hz) ?_
       unfold Bc.j3
       rw [eb,Es (show -9223372036854775808<=(a:Int) + 1/\(a:Int) + 1<=9223372036854775807 by omega)]
       have ea:((a:Int)).toNat=a:=by omega
       refine Ok.ret ⟨⟨a + 1,b + 1,by omega,rfl,by omega,by omega,?_,?_,fun m hm=>?_⟩,?_⟩
       ·show (Db s' (a:Int).toNat x2).length=_
        unfold Db
        rw [aKc]; exact h5
       ·show (Db s' (a:Int).toNat x2).take (a + 1)=_
        unfold Db
        have:(s'.set (a:Int).toNat x2)[a]?=some x2:=by rw [ea,List.getElem?_set_self (by omega)]
        rw [I9 this,ea,List.take_set_of_le (aGz a),h6]
        exact hs2.symm
       ·show (Db s' (a:Int).toNat x2)[m]?=_
        unfold Db
        rw [List.getElem?_set_ne (by omega)]
        exact h7 m (by omega)
       ·show s.length - (((b + 1 + 1:Nat):Int)).toNat < s.length - (((b + 1:Nat):Int)).toNat
        omega
      ·have g2:x2=y2:=by simpa using g2
       rw [if_pos g2.symm] at hs2
       unfold Bc.j3
       rw [eb]
       refine Ok.ret ⟨⟨a,b + 1,rfl,rfl,by omega,by omega,h5,h6.trans hs2.symm,fun m hm=>h7 m (by omega)⟩,?_⟩
       show s.length - (((b + 1 + 1:Nat):Int)).toNat < s.length - (((b + 1:Nat):Int)).toNat
       omega
     ·have g1:=aD7 g1
      rw [ed,en] at g1
      have hb:i + 1 + b + 1=s.length:=by omega
      rw [hb,aIc] at h6
      have ea:((a:Int)).toNat=a:=by omega
      refine Ok.up (Ok.bind (aD (a:=(a:Int)) (b:=(s'.length:Int)) (by omega)) fun l2 _=>?_)
      refine Ok.bind (Q:=fun r=>r.length=s'.length/\r.take a=s'.take a) ?_ fun l3 h3'=>?_
      ·unfold sC
       rw [ea,show (((s'.length:Int):Int)).toNat=s'.length by omega,if_pos (by omega)]
       refine⟨_,rfl,by simp; omega,?_⟩
       rw [aH4,aJw,aHa (by simp; omega)]
       have:a - (s'.take a).length=0:=by rw [aGe]; omega
       rw [this]
       simp
      ·refine Ok.bind (aD (a:=0) (b:=(a:Int)) (by omega)) fun l4 _=>Ok.up (Ok.ret ?_)
       show l3.take ((a:Int).toNat - (0:Int).toNat)=_
       rw [ea,show a - (0:Int).toNat=a from rfl,h3'.2,h6]
    ·rw [Es (by omega)]
     omega
    ·have h2:¬ x=y:=aD7 h2
     rw [if_neg (fun e=>h2 e.symm),hc,<- I9 hx] at hst
     exact hst
    ·rw [Es (by omega)]
     omega
   ·have h1:=aD7 h1
    refine Ok.up (Ok.ret ?_)
    have hl:i + 1=s.length:=by omega
    rw [hl,aIc] at hc
    exact hc.symm
  ·match s,h with
   | [],_=>rfl
   | x :: _,_=>rfl
end Go.Proofs.YtchpcpaacenodaaGreat
