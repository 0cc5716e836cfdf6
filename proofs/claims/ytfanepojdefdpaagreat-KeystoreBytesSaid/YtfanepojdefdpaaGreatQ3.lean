/- Plain texts, joined. No program is in sight here. -/
import Derived.Test.YtfanepojdefdpaaGreatR3
import Derived.Test.YtfanepojdefdpaaGreatK8
import Derived.Test.YtfanepojdefdpaaGreatM2
set_option linter.unusedVariables false
set_option linter.unusedSimpArgs false
set_option maxRecDepth 100000
namespace Go.Proofs.YtfanepojdefdpaaGreat
section
open Go
end
section
open Go
theorem mS {α:Type} [DecidableEq α] {body:Int->Option (Lp Int Bool)} (a b:List α) (hl:a.length=b.length) (h:Lo a) (h1:∀ (i:Nat) x y,a[i]?=some x->b[i]?=some y->body (i:Int)=some (bif decide (x=y) then .next (W ((i:Int) + 1)) else .done false)) (h2:body (a.length:Int)=some (.done true)):Dp body 0=some (decide (a=b)):=by
 unfold Lo at h
 have key:∀ k i,i + k=a.length->Dp body (i:Int)=some (decide (a.drop i=b.drop i)):=by
  intro k
  induction k with
  | zero=>
   intro i hi
   have:i=a.length:=by omega
   subst this
   rw [U4 h2,aHc,hl,aHc,aBu rfl]
  | succ k ih=>
   intro i hi
   have hia:i < a.length:=by omega
   have hib:i < b.length:=by omega
   have e:=h1 i _ _ (aA1 hia) (aA1 hib)
   rw [aG3 hia,aG3 hib]
   by_cases hx:a[i]=b[i]
   ·rw [aBu hx,aEu,F3 (by omega)] at e
    rw [Hy e,ih (i + 1) (by omega),hx]
    simp only [List.cons.injEq,true_and]
   ·rw [aBo hx,aCc] at e
    rw [U4 e,aBo]
    intro h
    injection h with h _
    exact hx h
 exact key a.length 0 (by omega)
theorem Zi (a b:List ByteArray) (h:Lo a):D8 a b=some (decide (a=b)):=by
 unfold D8
 by_cases hl:a.length=b.length
 ·rw [aBu (by omega),aEv,aCc]
  refine mS a b hl h (fun i x y hx hy=>?_) ?_
  ·unfold D8.l1
   rw [Fm hx,Fs,hy,aAo]
   cases decide (x=y) <;> rfl
  ·unfold D8.l1
   rw [D7]; rfl
 ·rw [aBo (by omega),aBo (fun e=>hl (by rw [e]))]; rfl
theorem fV (a b:Ab):decide (a=b)=(decide (a.Serial=b.Serial) && (decide (a.Issuer=b.Issuer) && (decide (a.Subject=b.Subject) && (decide (a.Key=b.Key) && (decide (a.KeyId=b.KeyId) && (decide (a.Hash=b.Hash) && (decide (a.From=b.From) && (decide (a.To=b.To) && (decide (a.Authority=b.Authority) && (decide (a.Path=b.Path) && (decide (a.Names=b.Names) && decide (a.Seal=b.Seal)))))))))))):=by
 cases a; cases b
 simp
theorem sT (a b:Ab) (h:Lo a.Names):K3 a b=some (decide (a=b)):=by
 unfold K3
 rw [Zi _ _ h,fV]
 simp only [aAo]
 cases decide (a.Serial=b.Serial) <;> cases decide (a.Issuer=b.Issuer) <;> try rfl
 cases decide (a.Subject=b.Subject) <;> cases decide (a.Key=b.Key) <;> try rfl
 cases decide (a.KeyId=b.KeyId) <;> cases decide (a.Hash=b.Hash) <;> try rfl
 cases decide (a.From=b.From) <;> cases decide (a.To=b.To) <;> try rfl
 cases decide (a.Authority=b.Authority) <;> cases decide (a.Path=b.Path) <;> try rfl
 cases decide (a.Names=b.Names) <;> rfl
def aO (s:Ct):Aa:=Pp [J6 s.Key,J6 s.Sum]
def P2 (c:Ab):Aa:=Pp [Of c,aO c.Seal]
theorem cN (s:Ct):(aO s).sz<=19:=by
 unfold aO
 have h1:=Iq s.Key
 have h2:=Iq s.Sum
 rw [Je]
 simp only [G4]; omega
theorem qW {c:Ab} (h:G4 (Mx c)<=1000000):G4 [Of c,aO c.Seal]<=1000100:=by
 have:=cN c.Seal
 have:(Of c).sz=G4 (Mx c) + 1:=Je _
 simp only [G4]; omega
theorem mD (l:List ByteArray):l.length<=G4 (l.map Jm):=by
 have:=Gj (l.map Jm)
 rwa [aGf] at this
theorem nO (c:Ab) (hf:Lr c) (hb:G4 (Mx c)<=1000000):Db c=some (Of c):=by
 have ht:G4 (c.Names.map Jm)<=1000000:=by
  unfold Mx at hb
  simp only [G4,Je] at hb
  omega
 have hn:=mD c.Names
 have hi:=hf.ints
 simp only [aE1,aF7,aH8,forall_eq_or_imp,forall_eq] at hi
 obtain⟨i1,i2,i3,i4,i5,i6,i7,i8,i9,-⟩:=hi
 unfold Db
 refine Hi (body:=fun q'=>Db.l1 c q'.1 q'.2) c.Names.length (fun i=>((i:Int),(c.Names.take i).map Jm)) (Of c) ?_ ?_
 ·intro i hi
  obtain⟨s,hx⟩:∃ s,c.Names[i]?=some s:=⟨_,aA1 hi⟩
  show Db.l1 c (i:Int) ((c.Names.take i).map Jm)=_
  unfold Db.l1
  rw [Fm hx,show Ga s=some (Jm s) from rfl,aAo,E2 (by simp; omega),aAo,F3 (by omega),Dw hx,aFw]
  rfl
 ·show Db.l1 c (c.Names.length:Int) ((c.Names.take c.Names.length).map Jm)=_
  unfold Db.l1
  have hT:∀ s,Ga s=some (Jm s):=fun _=>rfl
  rw [D7,aFg,Fh _ i1.1 i1.2,Fh _ i4.1 i4.2,Fh _ i7.1 i7.2,Fh _ i8.1 i8.2,Fh _ i9.1 i9.2,Wh _ i2 i3,Wh _ i5 i6]
  simp only [hT,R8,aAo]
  rw [Hq _ (by omega)]
  simp only [aAo]
  show up ((Dy (Mx c)).bind fun y=>some y)=_
  rw [Hq _ (show G4 (Mx c) < 1073741824 by omega)]
  rfl
theorem oM (c:Ab) (hf:Lr c) (hb:G4 (Mx c)<=1000000):I2 c=some (P2 c):=by
 have i:=hf.is
 have he:=qW hb
 have hs:=cN c.Seal
 unfold aO at hs
 rw [Je] at hs
 unfold I2
 rw [Fh _ i.b1.1 i.b1.2,aAo,Fh _ i.b2.1 i.b2.2,aAo,Hq _ (by omega),aAo,nO c hf hb,aAo]
 have e:Dy [Of c,Aa.mk 48 [] true [J6 c.Seal.Key,J6 c.Seal.Sum]]=some (P2 c):=Hq [Of c,aO c.Seal] (by omega)
 rw [e]; rfl
theorem Vy (s:List ByteArray) (h:s.length < 1000000000):C1 s=some s:=by
 unfold C1 C1.j1
 have e:Gl 16 ([]:List ByteArray) s=some s:=by rw [E2 (by simp; omega)]; rfl
 rw [e]
 unfold Ze
 split
 ·rename_i h0; subst h0; simp
 ·rfl
theorem Lb {v:Aa} {n:Int} (h:Eo v=some n):Mo n:=by
 unfold Eo at h
 split at h
 ·injection h with h
  subst h
  exact Vb _
 ·cases h
theorem Nf {v:Aa} {s:ByteArray} (h:Do v=some s):s.size<=v.sz:=by
 unfold Do at h
 split at h
 ·injection h with h
  subst h
  have:=In v
  show (v.Bytes.toArray).size<=_
  rw [aHk]; omega
 ·cases h
theorem eU {v:Aa} {a b:Int} (h:Kb v=some (a,b)):Mo a/\Mo b:=by
 unfold Kb at h
 split at h
 ·rename_i u x y hm
  injection h with h
  injection h with h1 h2
  subst h1 h2
  obtain⟨l,-,h2⟩:=aFp.1 hm
  obtain⟨x2,h3,h4⟩:=B1 h2
  obtain⟨x1,-,h6⟩:=B1 h3
  exact⟨Lb h6,Lb h4⟩
 ·cases h
theorem Wn {v:Aa} {u:Aw} (h:S4 v=some u):Mo u.Alg/\Mo u.Bits:=by
 unfold S4 at h
 obtain⟨p,h1,h2⟩:=aFi.1 h
 subst h2
 exact eU h1
theorem mY {v:Aa} {l:List ByteArray} (h:O1 v=some l):l.length<=v.sz/\∀ s∈l,s.size<=v.sz:=by
 unfold O1 at h
 obtain⟨es,h1,h2⟩:=aFp.1 h
 have hs:=H8 h1
 have hn:=Gj es
 unfold Lh at h2
 split at h2
 ·rename_i hall
  injection h2 with h2
  subst h2
  refine⟨by rw [aGf]; omega,fun s hm=>?_⟩
  obtain⟨e,he,rfl⟩:=aFr.1 hm
  have h3:=aEb.1 hall e he
  have h4:=Iw he
  cases hx:Do e with
  | none=>rw [hx] at h3; cases h3
  | some s=>
   have:=Nf hx
   unfold nZ
   rw [hx]
   show s.size<=_
   omega
 ·cases h2
theorem lW {v:Aa} {c:Ab} (hv:v.sz < 1000000) (h:F6 v=some c):Lr c:=by
 unfold F6 at h
 split at h
 ·rename_i x y hl
  have hs:=H8 hl
  simp only [G4] at hs
  obtain⟨b,hb,h2⟩:=aFp.1 h
  obtain⟨s,hp,h3⟩:=aFi.1 h2
  subst h3
  obtain⟨s1,s2⟩:=s
  have ⟨p1,p2⟩:=eU hp
  unfold Ob at hb
  split at hb
  ·rename_i b' hm
   injection hb with hb
   subst hb
   obtain⟨l,hlx,hq⟩:=aFp.1 hm
   have hs2:=H8 hlx
   unfold Ni cT at hq
   obtain⟨x11,h11,f11⟩:=B1 hq
   obtain⟨x10,h10,f10⟩:=B1 h11
   obtain⟨x9,h9,f9⟩:=B1 h10
   obtain⟨x8,h8,f8⟩:=B1 h9
   obtain⟨x7,h7,f7⟩:=B1 h8
   obtain⟨x6,h6,f6⟩:=B1 h7
   obtain⟨x5,h5,f5⟩:=B1 h6
   obtain⟨x4,h4,f4⟩:=B1 h5
   obtain⟨x3,h3,f3⟩:=B1 h4
   obtain⟨x2,h2,f2⟩:=B1 h3
   obtain⟨x1,h1,f1⟩:=B1 h2
   injection h1 with h1
   injection h1 with _ h1
   subst h1
   simp only [G4] at hs2
   have n11:=mY f11
   have t2:=Nf f2
   have t3:=Nf f3
   refine iH (show b'.2.length < _ by omega) (fun s hs'=>?_) (show b'.1.1.1.1.1.1.1.1.1.2.size<=_ by omega) (show b'.1.1.1.1.1.1.1.1.2.size<=_ by omega) (Lb f1) (Wn f4).1 (Wn f4).2 (Lb f5) (Wn f6).1 (Wn f6).2 (Lb f7) (Lb f8) (Lb f10) p1 p2
   have:=n11.2 s hs'
   omega
  ·cases hb
 ·cases h
end
section
open Go
structure SmC (c:Ab):Prop where
 i:c.Issuer.size<=2000
 s:c.Subject.size<=2000
 n:c.Names.length<=10
 ns:∀ s∈c.Names,s.size<=2000
theorem nY (l:List ByteArray) (h:∀ s∈l,s.size<=2000):G4 (l.map Jm)<=2001 * l.length:=by
 induction l with
 | nil=>exact aFb _
 | cons s l ih=>
  have h1:=ih fun x hx=>h x (aEz _ hx)
  have h2:=h s (aE5 ..)
  rw [aFl,G4,Tv,aEw]; omega
theorem SmC.sz {c:Ab} (h:SmC c):G4 (Mx c)<=1000000:=by
 have t:=nY c.Names h.ns
 have a1:=Iq c.Serial
 have a2:=R6 c.Key
 have a3:=Iq c.KeyId
 have a4:=R6 c.Hash
 have a5:=Iq c.From
 have a6:=Iq c.To
 have a7:=Iq c.Path
 have a8:(S1 c.Authority).sz=2:=by unfold S1; rw [In]; simp [G4]
 have:=h.i
 have:=h.s
 have:=h.n
 unfold Mx
 simp only [G4,Tv,Je,a8]
 omega
theorem Lr.lo {c:Ab} (h:Lr c):Lo c.Names:=by
 have:=h.names
 unfold Lo; omega
end
section
open Go
end
end Go.Proofs.YtfanepojdefdpaaGreat
