/- Plain texts, joined. No program is in sight here. -/
import Derived.Test.YtfanepojdefdpaaGreatD8
import Derived.Test.YtfanepojdefdpaaGreatK6
import Derived.Test.YtfanepojdefdpaaGreatM2
set_option linter.unusedVariables false
set_option linter.unusedSimpArgs false
set_option maxRecDepth 100000
namespace Go.Proofs.YtfanepojdefdpaaGreat
section
open Go
end
section
open Go
end
section
open Go
theorem V3 {α:Type} [DecidableEq α] {body:Int->Option (Lp Int Bool)} (a b:List α) (hl:a.length=b.length) (h:Lo a) (h1:∀ (i:Nat) x y,a[i]?=some x->b[i]?=some y->body (i:Int)=some (bif decide (x=y) then .next (W ((i:Int) + 1)) else .done false)) (h2:body (a.length:Int)=some (.done true)):C5 body 0=some (decide (a=b)):=by
 unfold Lo at h
 have key:∀ k i,i + k=a.length->C5 body (i:Int)=some (decide (a.drop i=b.drop i)):=by
  intro k
  induction k with
  | zero=>
   intro i hi
   have:i=a.length:=by omega
   subst this
   rw [Q7 h2,yM,hl,yM,vL rfl]
  | succ k ih=>
   intro i hi
   have hia:i < a.length:=by omega
   have hib:i < b.length:=by omega
   have e:=h1 i _ _ (vJ hia) (vJ hib)
   rw [zQ hia,zQ hib]
   by_cases hx:a[i]=b[i]
   ·rw [vL hx,wD,Du (by omega)] at e
    rw [Gk e,ih (i + 1) (by omega),hx]
    simp only [List.cons.injEq,true_and]
   ·rw [vK hx,vQ] at e
    rw [Q7 e,vK]
    intro h
    injection h with h _
    exact hx h
 exact key a.length 0 (by omega)
theorem Sn (a b:List ByteArray) (h:Lo a):Cr a b=some (decide (a=b)):=by
 unfold Cr
 by_cases hl:a.length=b.length
 ·rw [vL (by omega),wM,vQ]
  refine V3 a b hl h (fun i x y hx hy=>?_) ?_
  ·unfold Cr.l1
   rw [Dw hx,Ec,hy,vI]
   cases decide (x=y) <;> rfl
  ·unfold Cr.l1
   rw [Db]; rfl
 ·rw [vK (by omega),vK (fun e=>hl (by rw [e]))]; rfl
theorem U9 (a b:List ByteArray) (h:Lo a):Dl a b=some (decide (a=b)):=by
 unfold Dl
 by_cases hl:a.length=b.length
 ·rw [vL (by omega),wM,vQ]
  refine V3 a b hl h (fun i x y hx hy=>?_) ?_
  ·unfold Dl.l1
   rw [Dw hx,Ec,hy,vI]
   cases decide (x=y) <;> rfl
  ·unfold Dl.l1
   rw [Db]; rfl
 ·rw [vK (by omega),vK (fun e=>hl (by rw [e]))]; rfl
theorem R8 (a b:Ab):decide (a=b)=(decide (a.Serial=b.Serial) && (decide (a.Issuer=b.Issuer) && (decide (a.Subject=b.Subject) && (decide (a.Key=b.Key) && (decide (a.KeyId=b.KeyId) && (decide (a.Hash=b.Hash) && (decide (a.From=b.From) && (decide (a.To=b.To) && (decide (a.Authority=b.Authority) && (decide (a.Path=b.Path) && (decide (a.Names=b.Names) && decide (a.Seal=b.Seal)))))))))))):=by
 cases a; cases b
 simp
theorem gU (a b:Ab) (h:Lo a.Names):Im a b=some (decide (a=b)):=by
 unfold Im
 rw [U9 _ _ h,R8]
 simp only [vI]
 cases decide (a.Serial=b.Serial) <;> cases decide (a.Issuer=b.Issuer) <;> try rfl
 cases decide (a.Subject=b.Subject) <;> cases decide (a.Key=b.Key) <;> try rfl
 cases decide (a.KeyId=b.KeyId) <;> cases decide (a.Hash=b.Hash) <;> try rfl
 cases decide (a.From=b.From) <;> cases decide (a.To=b.To) <;> try rfl
 cases decide (a.Authority=b.Authority) <;> cases decide (a.Path=b.Path) <;> try rfl
 cases decide (a.Names=b.Names) <;> rfl
theorem jO (a b:Ab) (h:Lo a.Names):Be a b=some (decide (a=b)):=by
 unfold Be Be.j1 Be.j2
 rw [Sn _ _ h,R8]
 simp only [vI]
 generalize decide (a.Serial=b.Serial)=b1
 generalize decide (a.Issuer=b.Issuer)=b2
 generalize decide (a.Subject=b.Subject)=b3
 generalize decide (a.Key=b.Key)=b4
 generalize decide (a.KeyId=b.KeyId)=b5
 generalize decide (a.Hash=b.Hash)=b6
 generalize decide (a.From=b.From)=b7
 generalize decide (a.To=b.To)=b8
 generalize decide (a.Authority=b.Authority)=b9
 generalize decide (a.Path=b.Path)=b10
 generalize decide (a.Names=b.Names)=b11
 generalize decide (a.Seal=b.Seal)=b12
 cases b1 <;> cases b2 <;> cases b3 <;> cases b4 <;> cases b5 <;> cases b6 <;> (try simp) <;> cases b11 <;> (try simp) <;> cases b12 <;> (try simp) <;> cases b7 <;> (try simp) <;> cases b8 <;> (try simp) <;> cases b9 <;> simp
def R1 (s:C7):Aa:=Li [H3 s.Key,H3 s.Sum]
def I1 (c:Ab):Aa:=Li [Jf c,R1 c.Seal]
theorem S5 (s:C7):(R1 s).sz<=19:=by
 unfold R1
 have h1:=J0 s.Key
 have h2:=J0 s.Sum
 rw [Ge]
 simp only [Ij]; omega
theorem Yd {c:Ab} (h:Ij (Kk c)<=1000000):Ij [Jf c,R1 c.Seal]<=1000100:=by
 have:=S5 c.Seal
 have:(Jf c).sz=Ij (Kk c) + 1:=Ge _
 simp only [Ij]; omega
theorem eD (l:List ByteArray):l.length<=Ij (l.map F8):=by
 have:=I9 (l.map F8)
 rwa [yH] at this
theorem cM (c:Ab) (hf:Kz c) (hb:Ij (Kk c)<=1000000):Co c=some (Jf c):=by
 have ht:Ij (c.Names.map F8)<=1000000:=by
  unfold Kk at hb
  simp only [Ij,Ge] at hb
  omega
 have hn:=eD c.Names
 have hi:=hf.ints
 simp only [wA,xE,zZ,forall_eq_or_imp,forall_eq] at hi
 obtain⟨i1,i2,i3,i4,i5,i6,i7,i8,i9,-⟩:=hi
 unfold Co
 refine D8 (body:=fun q'=>Co.l1 c q'.1 q'.2) c.Names.length (fun i=>((i:Int),(c.Names.take i).map F8)) (Jf c) ?_ ?_
 ·intro i hi
  obtain⟨s,hx⟩:∃ s,c.Names[i]?=some s:=⟨_,vJ hi⟩
  show Co.l1 c (i:Int) ((c.Names.take i).map F8)=_
  unfold Co.l1
  rw [Dw hx,show E1 s=some (F8 s) from rfl,vI,Dj (by simp; omega),vI,Du (by omega),En hx,xK]
  rfl
 ·show Co.l1 c (c.Names.length:Int) ((c.Names.take c.Names.length).map F8)=_
  unfold Co.l1
  have hT:∀ s,E1 s=some (F8 s):=fun _=>rfl
  rw [Db,wP,Et _ i1.1 i1.2,Et _ i4.1 i4.2,Et _ i7.1 i7.2,Et _ i8.1 i8.2,Et _ i9.1 i9.2,Sz _ i2 i3,Sz _ i5 i6]
  simp only [hT,Oz,vI]
  rw [Ft _ (by omega)]
  simp only [vI]
  show up ((De (Kk c)).bind fun y=>some y)=_
  rw [Ft _ (show Ij (Kk c) < 1073741824 by omega)]
  rfl
theorem jE (c:Ab) (hf:Kz c) (hb:Ij (Kk c)<=1000000):G9 c=some (I1 c):=by
 have i:=hf.is
 have he:=Yd hb
 have hs:=S5 c.Seal
 unfold R1 at hs
 rw [Ge] at hs
 unfold G9
 rw [Et _ i.b1.1 i.b1.2,vI,Et _ i.b2.1 i.b2.2,vI,Ft _ (by omega),vI,cM c hf hb,vI]
 have e:De [Jf c,Aa.mk 48 [] true [H3 c.Seal.Key,H3 c.Seal.Sum]]=some (I1 c):=Ft [Jf c,R1 c.Seal] (by omega)
 rw [e]; rfl
theorem Sk (s:List ByteArray) (h:s.length < 1000000000):Cj s=some s:=by
 unfold Cj Cj.j1
 have e:Fk 16 ([]:List ByteArray) s=some s:=by rw [Dj (by simp; omega)]; rfl
 rw [e]
 unfold U8
 split
 ·rename_i h0; subst h0; simp
 ·rfl
end
end Go.Proofs.YtfanepojdefdpaaGreat
