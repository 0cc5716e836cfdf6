/- Plain texts, joined. No program is in sight here. -/
import Derived.Test.YtlfeokjhphpjeaaGreatR3
import Derived.Test.YtlfeokjhphpjeaaGreatK8
import Derived.Test.YtlfeokjhphpjeaaGreatM2
import Derived.Test.YtlfeokjhphpjeaaGreatOP
import Derived.KernelRfl
set_option linter.unusedVariables false
set_option linter.unusedSimpArgs false
set_option maxRecDepth 100000
namespace Go.Proofs.YtlfeokjhphpjeaaGreat
section
open Go
theorem aX {n:Nat} (h:n < 65536):(Kx n).length<=3:=by
 by_cases h1:n < 128
 ·rw [fH h1]; simp
 ·by_cases h2:n < 256
  ·rw [fM (by omega) h2]; simp
  ·rw [dE (by omega) h]; simp
mutual
theorem aJ:∀ v:Aa,v.sz < 16000->v.put.length<=4 * v.sz
 | .mk t b n es,h=>by
  rw [Aa.sz] at h ⊢
  have h1:=Xf es (by omega)
  rw [Aa.put]
  cases n
  ·have h2:=aX (n:=b.length) (by omega)
   simp; omega
  ·have h2:=aX (n:=(C8 es).length) (by omega)
   simp; omega
theorem Xf:∀ es:List Aa,Fz es < 16000->(C8 es).length<=4 * Fz es
 | [],_=>by simp [C8]
 | v :: vs,h=>by
  rw [Fz] at h ⊢
  have h1:=aJ v (by omega)
  have h2:=Xf vs (by omega)
  rw [C8,List.length_append]; omega
end
theorem Kf (n:Int):(I0 n).formed=true:=by rw [Iu]; rfl
theorem T4 (s:ByteArray):(Fx s).formed=true:=by rw [Iu]; rfl
theorem bV (b:Bool):(Qm b).formed=true:=by rw [Iu]; rfl
theorem Hn (l:List Aa):(Ml l).formed=Cr l:=by rw [Iu]; rfl
theorem fC (u:A3):(Rw u).formed=true:=by
 unfold Rw
 rw [Hn,Cr,Kf,Cr,Kf,Cr]; rfl
theorem R6 (l:List ByteArray):Cr (l.map Fx)=true:=by
 induction l with
 | nil=>rw [List.map_nil,Cr]
 | cons s l ih=>rw [aB2,Cr,T4,ih]; rfl
theorem Mr (c:Ab):(G6 c).formed=true:=by
 unfold G6 Hj
 rw [Hn]
 simp only [Cr,Kf,T4,fC,bV,Hn,R6,aDc]
theorem Tk (n:Int):(I0 n).depth=1:=by rw [Nh]; rfl
theorem Xl (s:ByteArray):(Fx s).depth=1:=by rw [Nh]; rfl
theorem eR (b:Bool):(Qm b).depth=1:=by rw [Nh]; rfl
theorem Mm (l:List Aa):(Ml l).depth=Dp l + 1:=by rw [Nh]; rfl
theorem iV (u:A3):(Rw u).depth=2:=by
 unfold Rw
 rw [Mm]
 simp only [Dp,Tk]; rfl
theorem cV (l:List ByteArray):Dp (l.map Fx)<=1:=by
 induction l with
 | nil=>rw [List.map_nil,Dp]; omega
 | cons s l ih=>rw [aB2,Dp,Xl]; omega
theorem Wp (c:Ab):(G6 c).depth<=3:=by
 have:=cV c.Names
 unfold G6 Hj
 rw [Mm]
 simp only [Dp,Tk,Xl,iV,eR,Mm]
 omega
theorem aU {v:Aa} (h1:v.formed=true) (h2:v.depth<=16) (h3:v.sz<=1024):Wh v=(v.put,0):=by
 have:=aJ v (by omega)
 unfold Wh
 rw [if_pos h1,if_neg (by omega),if_neg (by omega)]
theorem iY (c:Ab):(G6 c).sz=Fz (Hj c) + 1:=H7 _
theorem jD {c:Ab} (h:Fq c=true):G4 c=((G6 c).put,0):=by
 have:=Pz h
 unfold G4
 rw [h,cond_true,aU (Mr c) (by have:=Wp c; omega) (by rw [iY]; omega)]
theorem iQ {c:Ab} (h:Fq c=false):G4 c=([],9):=by
 unfold G4
 rw [h]; rfl
end
section
open Go
theorem Yn {α:Type} [DecidableEq α] {body:Int->Option (Lp Int Bool)} (a b:List α) (hl:a.length=b.length) (h:Lo a) (h1:∀ (i:Nat) x y,a[i]?=some x->b[i]?=some y->body (i:Int)=some (bif decide (x=y) then .next (W ((i:Int) + 1)) else .done false)) (h2:body (a.length:Int)=some (.done true)):Dl body 0=some (decide (a=b)):=by
 unfold Lo at h
 have key:∀ k i,i + k=a.length->Dl body (i:Int)=some (decide (a.drop i=b.drop i)):=by
  intro k
  induction k with
  | zero=>
   intro i hi
   have:i=a.length:=by omega
   subst this
   rw [S6 h2,List.drop_length,hl,List.drop_length,decide_eq_true rfl]
  | succ k ih=>
   intro i hi
   have hia:i < a.length:=by omega
   have hib:i < b.length:=by omega
   have e:=h1 i _ _ (List.getElem?_eq_getElem hia) (List.getElem?_eq_getElem hib)
   rw [List.drop_eq_getElem_cons hia,List.drop_eq_getElem_cons hib]
   by_cases hx:a[i]=b[i]
   ·rw [decide_eq_true hx,cond_true,Gp (by omega)] at e
    rw [H2 e,ih (i + 1) (by omega),hx]
    simp only [List.cons.injEq,true_and]
   ·rw [decide_eq_false hx,cond_false] at e
    rw [S6 e,decide_eq_false]
    intro h
    injection h with h _
    exact hx h
 exact key a.length 0 (by omega)
theorem Uh (a b:List ByteArray) (h:Lo a):C0 a b=some (decide (a=b)):=by
 unfold C0
 by_cases hl:a.length=b.length
 ·rw [decide_eq_true (by omega),Bool.not_true,cond_false]
  refine Yn a b hl h (fun i x y hx hy=>?_) ?_
  ·unfold C0.l1
   rw [Fs hx,Hu,hy,Option.bind_some]
   cases decide (x=y) <;> rfl
  ·unfold C0.l1
   rw [Ej]; rfl
 ·rw [decide_eq_false (by omega),decide_eq_false (fun e=>hl (by rw [e]))]; rfl
theorem Xs (a b:List ByteArray) (h:Lo a):Dq a b=some (decide (a=b)):=by
 unfold Dq
 by_cases hl:a.length=b.length
 ·rw [decide_eq_true (by omega),Bool.not_true,cond_false]
  refine Yn a b hl h (fun i x y hx hy=>?_) ?_
  ·unfold Dq.l1
   rw [Fs hx,Hu,hy,Option.bind_some]
   cases decide (x=y) <;> rfl
  ·unfold Dq.l1
   rw [Ej]; rfl
 ·rw [decide_eq_false (by omega),decide_eq_false (fun e=>hl (by rw [e]))]; rfl
theorem T0 (a b:Ab):decide (a=b)=(decide (a.Serial=b.Serial) && (decide (a.Issuer=b.Issuer) && (decide (a.Subject=b.Subject) && (decide (a.Key=b.Key) && (decide (a.KeyId=b.KeyId) && (decide (a.Hash=b.Hash) && (decide (a.From=b.From) && (decide (a.To=b.To) && (decide (a.Authority=b.Authority) && (decide (a.Path=b.Path) && (decide (a.Names=b.Names) && decide (a.Seal=b.Seal)))))))))))):=by
 cases a; cases b
 simp
theorem mD (a b:Ab) (h:Lo a.Names):J0 a b=some (decide (a=b)):=by
 unfold J0
 rw [Xs _ _ h,T0]
 simp only [Option.bind_some]
 cases decide (a.Serial=b.Serial) <;> cases decide (a.Issuer=b.Issuer) <;> try rfl
 cases decide (a.Subject=b.Subject) <;> cases decide (a.Key=b.Key) <;> try rfl
 cases decide (a.KeyId=b.KeyId) <;> cases decide (a.Hash=b.Hash) <;> try rfl
 cases decide (a.From=b.From) <;> cases decide (a.To=b.To) <;> try rfl
 cases decide (a.Authority=b.Authority) <;> cases decide (a.Path=b.Path) <;> try rfl
 cases decide (a.Names=b.Names) <;> rfl
theorem nV (a b:Ab) (h:Lo a.Names):Bh a b=some (decide (a=b)):=by
 unfold Bh Bh.j1 Bh.j2
 rw [Uh _ _ h,T0]
 simp only [Option.bind_some]
 generalize decide (a.Serial=b.Serial)=b1
 generalize decide (a.Issuer=b.Issuer)=b2
 generalize decide (a.Subject=b.Subject)=b3
 generalize decide (a.Key=b.Key)=b4
 generalize decide (a.KeyId=b.KeyId)=b5
 generalize decide (a.Hash=b.Hash)=b6
 generalize decide (a.From=b.From)=b7
 generalize decide (a.To=b.To)=b8
 generalize decide (a.Authority=b.Authority)=b9
 generalize decide (a.Path=b.Path)=b10
 generalize decide (a.Names=b.Names)=b11
 generalize decide (a.Seal=b.Seal)=b12
 cases b1 <;> cases b2 <;> cases b3 <;> cases b4 <;> cases b5 <;> cases b6 <;> (try simp) <;> cases b11 <;> (try simp) <;> cases b12 <;> (try simp) <;> cases b7 <;> (try simp) <;> cases b8 <;> (try simp) <;> cases b9 <;> simp
def Kp (s:Bv):Aa:=Ml [I0 s.Key,I0 s.Sum]
def G9 (c:Ab):Aa:=Ml [G6 c,Kp c.Seal]
def bX (c:Ab):List UInt8×Int:=bif Fq c then Wh (G9 c) else ([],9)
theorem Ux (s:Bv):(Kp s).sz<=19:=by
 unfold Kp
 have h1:=Hf s.Key
 have h2:=Hf s.Sum
 rw [H7]
 simp only [Fz]; omega
theorem V4 {c:Ab} (h:Fz (Hj c)<=1000000):Fz [G6 c,Kp c.Seal]<=1000100:=by
 have:=Ux c.Seal
 have:(G6 c).sz=Fz (Hj c) + 1:=H7 _
 simp only [Fz]; omega
theorem cZ (c:Ab) (hf:Ik c):Ft c=some (bX c):=by
 unfold Ft bX
 rw [Th c hf,Option.bind_some]
 cases hc:Fq c with
 | false=>rfl
 | true=>
  have hb:=Pz hc
  have he:=V4 (c:=c) (by omega)
  have hs:=Ux c.Seal
  unfold Kp at hs
  rw [H7] at hs
  unfold Gt
  rw [Bool.not_true,cond_false,cP c hc,Option.bind_some,P4,Option.bind_some,P4,Option.bind_some,Wu _ (by omega),Option.bind_some]
  have e:Ib [G6 c,Aa.mk 48 [] true [I0 c.Seal.Key,I0 c.Seal.Sum]]=some (G9 c):=Wu [G6 c,Kp c.Seal] (by omega)
  rw [e,Option.bind_some,Option.bind_some,cond_true,Wn (G9 c) (by unfold G9; rw [H7]; omega)]
  rfl
theorem jS (l:List ByteArray):l.length<=Fz (l.map Fx):=by
 have:=Hc (l.map Fx)
 rwa [aDi] at this
theorem iR (c:Ab) (hf:Ik c) (hb:Fz (Hj c)<=1000000):Co c=some (G6 c):=by
 have ht:Fz (c.Names.map Fx)<=1000000:=by
  unfold Hj at hb
  simp only [Fz,H7] at hb
  omega
 have hn:=jS c.Names
 have hi:=hf.ints
 simp only [List.mem_cons,List.not_mem_nil,or_false,forall_eq_or_imp,forall_eq] at hi
 obtain⟨i1,i2,i3,i4,i5,i6,i7,i8,i9,-⟩:=hi
 unfold Co
 refine Fy (body:=fun q'=>Co.l1 c q'.1 q'.2) c.Names.length (fun i=>((i:Int),(c.Names.take i).map Fx)) (G6 c) ?_ ?_
 ·intro i hi
  obtain⟨s,hx⟩:∃ s,c.Names[i]?=some s:=⟨_,List.getElem?_eq_getElem hi⟩
  show Co.l1 c (i:Int) ((c.Names.take i).map Fx)=_
  unfold Co.l1
  rw [Fs hx,show Fa s=some (Fx s) from rfl,Option.bind_some,D5 (by simp; omega),Option.bind_some,Gp (by omega),Fm hx,aCh]
  rfl
 ·show Co.l1 c (c.Names.length:Int) ((c.Names.take c.Names.length).map Fx)=_
  unfold Co.l1
  have hT:∀ s,Fa s=some (Fx s):=fun _=>rfl
  rw [Ej,aBm,Ez _ i1.1 i1.2,Ez _ i4.1 i4.2,Ez _ i7.1 i7.2,Ez _ i8.1 i8.2,Ez _ i9.1 i9.2,U1 _ i2 i3,U1 _ i5 i6]
  simp only [hT,Wx,Option.bind_some]
  rw [Ki _ (by omega)]
  simp only [Option.bind_some]
  show up ((Fr (Hj c)).bind fun y=>some y)=_
  rw [Ki _ (show Fz (Hj c) < 1073741824 by omega)]
  rfl
theorem Uo (s:List ByteArray) (h:s.length < 1000000000):Cl s=some s:=by
 unfold Cl Cl.j1
 have e:Gn 16 ([]:List ByteArray) s=some s:=by rw [D5 (by simp; omega)]; rfl
 rw [e]
 unfold X4
 split
 ·rename_i h0; subst h0; simp
 ·rfl
theorem lR (c:Ab) (h:Ik c) (key:Int):Cn c key=some (Nl c key):=by
 have hu:Ik (O2 c):=Q0 h Ho Ho
 unfold Cn
 rw [Uo _ h.names,Option.bind_some]
 have e:Es (Ab.mk c.Serial c.Issuer c.Subject c.Key c.KeyId c.Hash c.From c.To c.Authority c.Path c.Names (Bv.mk 0 0))=some (G4 (O2 c)):=Y2 (O2 c) hu
 rw [e,Option.bind_some,Zm,Option.bind_some]
 have j:∀ b,Cn.j1 c key c.Names (G4 (O2 c)) b=some (bif b then (cG,9) else (Zf c ⟨key,aM (G4 (O2 c)).1⟩,0)):=by
  intro b
  unfold Cn.j1
  cases b with
  | true=>rfl
  | false=>
   rw [cond_false,Zj _ (Sy _)]
   rfl
 simp only [j]
 unfold Nl
 cases hc:Fq (O2 c) with
 | false=>rw [iQ hc]; rfl
 | true=>
  rw [jD hc]
  by_cases a:key < 0
  ·rw [decide_eq_true a,decide_eq_false (show ¬ 0<=key by omega)]; rfl
  ·rw [decide_eq_false a,decide_eq_true (show 0<=key by omega)]
   by_cases b:key<=2147483648
   ·rw [decide_eq_true b,decide_eq_false (show ¬ 2147483648 < key by omega)]; rfl
   ·rw [decide_eq_false b,decide_eq_true (show 2147483648 < key by omega)]; rfl
def T6 (b:List UInt8):Ab×Int:=if (My b).2=0 then (match Gu (My b).1 with
  | some c=>bif Fq c then (c,0) else (O4,9)
  | none=>(O4,1)) else (O4,(My b).2)
theorem Kd {v:Aa} {n:Int} (h:Dv v=some n):K8 n:=by
 unfold Dv at h
 split at h
 ·injection h with h
  subst h
  exact Tx _
 ·cases h
theorem O1 {v:Aa} {s:ByteArray} (h:C3 v=some s):s.size<=v.sz:=by
 unfold C3 at h
 split at h
 ·injection h with h
  subst h
  have:=Ha v
  show (v.Bytes.toArray).size<=_
  rw [aDj]; omega
 ·cases h
theorem aR {v:Aa} {a b:Int} (h:Im v=some (a,b)):K8 a/\K8 b:=by
 unfold Im at h
 split at h
 ·rename_i u x y hm
  injection h with h
  injection h with h1 h2
  subst h1 h2
  obtain⟨l,-,h2⟩:=aBp.1 hm
  obtain⟨x2,h3,h4⟩:=Ca h2
  obtain⟨x1,-,h6⟩:=Ca h3
  exact⟨Kd h6,Kd h4⟩
 ·cases h
theorem U5 {v:Aa} {u:A3} (h:Qr v=some u):K8 u.Alg/\K8 u.Bits:=by
 unfold Qr at h
 obtain⟨p,h1,h2⟩:=aBi.1 h
 subst h2
 exact aR h1
theorem iX {v:Aa} {l:List ByteArray} (h:Lz v=some l):l.length<=v.sz/\∀ s∈l,s.size<=v.sz:=by
 unfold Lz at h
 obtain⟨es,h1,h2⟩:=aBp.1 h
 have hs:=Kj h1
 have hn:=Hc es
 unfold Jz at h2
 split at h2
 ·rename_i hall
  injection h2 with h2
  subst h2
  refine⟨by rw [aDi]; omega,fun s hm=>?_⟩
  obtain⟨e,he,rfl⟩:=aBy.1 hm
  have h3:=List.all_eq_true.1 hall e he
  have h4:=Kn he
  cases hx:C3 e with
  | none=>rw [hx] at h3; cases h3
  | some s=>
   have:=O1 hx
   unfold gY
   rw [hx]
   show s.size<=_
   omega
 ·cases h2
theorem S2 {v:Aa} {c:Ab} (hv:v.sz < 1000000) (h:Gu v=some c):Ik c:=by
 unfold Gu at h
 split at h
 ·rename_i x y hl
  have hs:=Kj hl
  simp only [Fz] at hs
  obtain⟨b,hb,h2⟩:=aBp.1 h
  obtain⟨s,hp,h3⟩:=aBi.1 h2
  subst h3
  obtain⟨s1,s2⟩:=s
  have ⟨p1,p2⟩:=aR hp
  unfold Mh at hb
  split at hb
  ·rename_i b' hm
   injection hb with hb
   subst hb
   obtain⟨l,hlx,hq⟩:=aBp.1 hm
   have hs2:=Kj hlx
   unfold K6 V6 at hq
   obtain⟨x11,h11,f11⟩:=Ca hq
   obtain⟨x10,h10,f10⟩:=Ca h11
   obtain⟨x9,h9,f9⟩:=Ca h10
   obtain⟨x8,h8,f8⟩:=Ca h9
   obtain⟨x7,h7,f7⟩:=Ca h8
   obtain⟨x6,h6,f6⟩:=Ca h7
   obtain⟨x5,h5,f5⟩:=Ca h6
   obtain⟨x4,h4,f4⟩:=Ca h5
   obtain⟨x3,h3,f3⟩:=Ca h4
   obtain⟨x2,h2,f2⟩:=Ca h3
   obtain⟨x1,h1,f1⟩:=Ca h2
   injection h1 with h1
   injection h1 with _ h1
   subst h1
   simp only [Fz] at hs2
   have n11:=iX f11
   have t2:=O1 f2
   have t3:=O1 f3
   refine I4 (show b'.2.length < _ by omega) (fun s hs'=>?_) (show b'.1.1.1.1.1.1.1.1.1.2.size<=_ by omega) (show b'.1.1.1.1.1.1.1.1.2.size<=_ by omega) (Kd f1) (U5 f4).1 (U5 f4).2 (Kd f5) (U5 f6).1 (U5 f6).2 (Kd f7) (Kd f8) (Kd f10) p1 p2
   have:=n11.2 s hs'
   omega
  ·cases hb
 ·cases h
theorem Wc (b:List UInt8):E2 b=some (T6 b):=by
 unfold E2 T6
 rw [dB,Option.bind_some]
 by_cases h:(My b).2=0
 ·have hs:=Zq h
  rw [decide_eq_true h,if_pos h,Bool.not_true,cond_false,eG _ (by omega),Option.bind_some]
  cases hp:Gu (My b).1 with
  | none=>rfl
  | some c=>
   dsimp only
   rw [Bool.not_true,cond_false,Th c (S2 (by omega) hp),Option.bind_some]
   cases Fq c <;> rfl
 ·rw [decide_eq_false h,if_neg h]; rfl
theorem dS (b:List UInt8):In b=some (T6 b):=by
 unfold In T6
 rw [aG,Option.bind_some]
 by_cases h:(My b).2=0
 ·have hs:=Zq h
  rw [decide_eq_true h,if_pos h,Bool.not_true,cond_false]
  obtain⟨z,hz,hp⟩:=nB (My b).1 (by omega)
  rw [hz,Option.bind_some]
  cases hq:Gu (My b).1 with
  | none=>
   rw [hq] at hp
   dsimp only at hp
   rw [hp]; rfl
  | some c=>
   rw [hq] at hp
   dsimp only at hp
   subst hp
   dsimp only
   rw [Bool.not_true,cond_false,S4 c (S2 (by omega) hq),Option.bind_some]
   cases Fq c <;> rfl
 ·rw [decide_eq_false h,if_neg h]; rfl
theorem cD (b:List UInt8):Lo (T6 b).1.Names:=by
 have hz:Lo O4.Names:=by unfold Lo O4; decide
 unfold T6
 split
 ·rename_i h
  have hs:=Zq h
  split
  ·rename_i c hp
   cases Fq c with
   | true=>
    have:=(S2 (by omega) hp).names
    show c.Names.length < _
    omega
   | false=>exact hz
  ·exact hz
 ·exact hz
end
section
open Go
structure wS (c:Ab):Prop where
 i:c.Issuer.size<=2000
 s:c.Subject.size<=2000
 n:c.Names.length<=10
 ns:∀ s∈c.Names,s.size<=2000
theorem jT (l:List ByteArray) (h:∀ s∈l,s.size<=2000):Fz (l.map Fx)<=2001 * l.length:=by
 induction l with
 | nil=>exact aBt _
 | cons s l ih=>
  have h1:=ih fun x hx=>h x (List.mem_cons_of_mem _ hx)
  have h2:=h s (aA9 ..)
  rw [aB2,Fz,Rr,List.length_cons]; omega
theorem wS.sz {c:Ab} (h:wS c):Fz (Hj c)<=1000000:=by
 have t:=jT c.Names h.ns
 have a1:=Hf c.Serial
 have a2:=S1 c.Key
 have a3:=Hf c.KeyId
 have a4:=S1 c.Hash
 have a5:=Hf c.From
 have a6:=Hf c.To
 have a7:=Hf c.Path
 have a8:(Qm c.Authority).sz=2:=by unfold Qm; rw [Ha]; simp [Fz]
 have:=h.i
 have:=h.s
 have:=h.n
 unfold Hj
 simp only [Fz,Rr,H7,a8]
 omega
theorem nM:wS cG:=⟨by decide,by decide,by decide,by intro s hs; cases hs⟩
theorem lS {c:Ab} (h:wS c) (key:Int):wS (Nl c key).1:=by
 unfold Nl
 cases Fq (O2 c) && (decide (0<=key) && decide (key<=2147483648)) with
 | false=>exact nM
 | true=>exact⟨h.i,h.s,h.n,h.ns⟩
def FS (c:Ab):Prop:=Ik c/\wS c
theorem lA {d:Ak} (h:Ss d) {issuer subject:ByteArray} {key:A3} {id signer:Int} (authority:Bool) (hi:issuer.size<=1000) (hs:subject.size<=1000) (hk:SmU key) (hid:K8 id) (hsg:K8 signer):Ok (Bn d issuer subject key id signer authority) (fun y=>FS y.1/\Ss y.2):=by
 unfold Bn
 refine Ok.bind (Jf h 1000 (by omega) (by omega)) fun y1 h1=>?_
 refine Ok.bind (Kv h1.2 _ (by decide) (by decide)) fun y2 h2=>?_
 refine Ok.bind (Kv h2.2 _ (by decide) (by decide)) fun y3 h3=>?_
 refine Ok.bind (Kv h3.2 _ (by decide) (by decide)) fun y4 h4=>?_
 have i2:=(Yl (by decide) h2.1).i64
 have i3:=(Yl (by decide) h3.1).i64
 have i4:=(Yl (by decide) h4.1).i64
 have i1:K8 y1.1:=by have:=h1.1; unfold K8; omega
 have j2:∀ (p:Int) (d':Ak) (l:List ByteArray),K8 p->Ss d'->l.length<=10->(∀ s∈l,s.size<=2000)->Ok (Bn.j2 issuer subject key id signer authority y1 y2 y3 y4 p d' l) (fun y=>FS y.1/\Ss y.2):=by
  intro p d' l hp hd hl hn
  unfold Bn.j2
  have hf:Ik (Ab.mk y1.1 issuer subject key id (A3.mk y2.1 0) y3.1 y4.1 authority p l (Bv.mk 0 0)):=I4 (by show l.length < 1000000000; omega) (fun s hs=>by have:=hn s hs; omega) (by show issuer.size<=_; omega) (by show subject.size<=_; omega) i1 hk.1.i64 hk.2.i64 hid i2 Ho i3 i4 hp Ho Ho
  refine Ok.bindE (kN _ hf signer) ?_
  exact Ok.ret ⟨⟨Yw hf hsg,lS ⟨by show issuer.size<=_; omega,by show subject.size<=_; omega,hl,hn⟩ _⟩,hd⟩
 have j1:∀ (p:Int) (d':Ak),K8 p->Ss d'->Ok (Bn.j1 issuer subject key id signer authority y1 y2 y3 y4 d' p) (fun y=>FS y.1/\Ss y.2):=by
  intro p d' hp hd
  unfold Bn.j1
  refine Ok.bind (kR hd 3 (by omega) (by omega)) fun y hy=>?_
  refine Ok.cond (fun _=>?_) fun _=>?_
  ·have hx:(⟨#[120]⟩:ByteArray).size=1:=rfl
   refine Ok.bind (pQ (by omega)) fun s hs'=>?_
   refine Ok.bind (Wg (by simp)) fun l hl=>?_
   subst hl hs'
   refine j2 p y.2 _ hp hy (by simp) ?_
   intro s hs'
   simp only [aB1,aC8,List.mem_cons,List.not_mem_nil,or_false] at hs'
   rcases hs' with rfl | rfl
   ·omega
   ·rw [ByteArray.size_append]; omega
  ·refine j2 p y.2 _ hp hy (by simp) ?_
   intro s hs'
   rw [List.mem_singleton.1 hs']; omega
 refine Ok.cond (fun _=>?_) fun _=>?_
 ·refine Ok.bind (Kv h4.2 _ (by decide) (by decide)) fun y5 h5=>?_
  exact j1 _ _ (Yl (by decide) h5.1).i64 h5.2
 ·exact j1 _ _ Ho h4.2
theorem Lw {l:List Int} (h:l.all (fun n=>decide (-9223372036854775808<=n) && decide (n<=9223372036854775807))=true) {n:Int} (hn:n∈l):K8 n:=by
 have:=List.all_eq_true.1 h n hn
 simpa [K8] using this
theorem Qv {l:List ByteArray} {k:Nat} (h:l.all (fun s=>decide (s.size<=k))=true) {s:ByteArray} (hs:s∈l):s.size<=k:=by
 have:=List.all_eq_true.1 h s hs
 simpa using this
theorem iG {d:Ak} (h:Ss d):Ok (Cz d) (fun y=>FS y.1/\Ss y.2):=by
 unfold Cz Cz.j1
 refine Ok.bind (R5 h _ (by decide) (by decide)) fun y1 h1=>?_
 refine Ok.bind (R5 h1.2 _ (by decide) (by decide)) fun y2 h2=>?_
 refine Ok.bind (vY h2.2) fun y3 h3=>?_
 refine Ok.bind (Jf h3.2 200 (by omega) (by omega)) fun y4 h4=>?_
 refine Ok.bind (Jf h4.2 20 (by omega) (by omega)) fun y5 h5=>?_
 refine Ok.bind (kR h5.2 2 (by omega) (by omega)) fun y6 h6=>?_
 have s1:y1.1.size<=1000:=Qv (by decide) h1.1
 have s2:y2.1.size<=1000:=Qv (by decide) h2.1
 refine Ok.bind (lA h6 _ s1 s2 h3.1 (by have:=h4.1; unfold K8; omega) (by have:=h5.1; unfold K8; omega)) fun y7 h7=>?_
 obtain⟨⟨hf,hm⟩,hd⟩:=h7
 have i:=hf.is
 refine Ok.bind (Jf hd 16 (by omega) (by omega)) fun y8 h8=>?_
 have K:∀ (c:Ab) (d':Ak),FS c->Ss d'->Ok (some (c,d')) (fun y:Ab×Ak=>FS y.1/\Ss y.2):=fun c d' hc hd=>Ok.ret ⟨hc,hd⟩
 refine Ok.cond (fun _=>Ok.bind (Kv h8.2 _ (by decide) (by decide)) fun y h=>K _ _ ⟨I4 hf.names hf.name hf.issuer hf.subject (Lw (by decide) h.1) i.a2 i.a3 i.a4 i.a5 i.a6 i.a7 i.a8 i.a9 i.b1 i.b2,⟨hm.i,hm.s,hm.n,hm.ns⟩⟩ h.2) fun _=>?_
 refine Ok.cond (fun _=>Ok.bind (R5 h8.2 _ (by decide) (by decide)) fun y h=>?_) fun _=>?_
 ·have hs:y.1.size<=1000:=Qv (by decide) h.1
  exact K _ _ ⟨I4 hf.names hf.name (show y.1.size<=_ by omega) hf.subject i.a1 i.a2 i.a3 i.a4 i.a5 i.a6 i.a7 i.a8 i.a9 i.b1 i.b2,⟨show y.1.size<=_ by omega,hm.s,hm.n,hm.ns⟩⟩ h.2
 refine Ok.cond (fun _=>Ok.bind (R5 h8.2 _ (by decide) (by decide)) fun y h=>?_) fun _=>?_
 ·have hs:y.1.size<=1000:=Qv (by decide) h.1
  exact K _ _ ⟨I4 hf.names hf.name hf.issuer (show y.1.size<=_ by omega) i.a1 i.a2 i.a3 i.a4 i.a5 i.a6 i.a7 i.a8 i.a9 i.b1 i.b2,⟨hm.i,show y.1.size<=_ by omega,hm.n,hm.ns⟩⟩ h.2
 refine Ok.cond (fun _=>Ok.bind (Kv h8.2 _ (by decide) (by decide)) fun y h=>Ok.bind (Kv h.2 _ (by decide) (by decide)) fun z k=>K _ _ ⟨I4 hf.names hf.name hf.issuer hf.subject i.a1 (Lw (by decide) h.1) (Lw (by decide) k.1) i.a4 i.a5 i.a6 i.a7 i.a8 i.a9 i.b1 i.b2,⟨hm.i,hm.s,hm.n,hm.ns⟩⟩ k.2) fun _=>?_
 refine Ok.cond (fun _=>Ok.bind (Kv h8.2 _ (by decide) (by decide)) fun y h=>K _ _ ⟨I4 hf.names hf.name hf.issuer hf.subject i.a1 i.a2 i.a3 (Lw (by decide) h.1) i.a5 i.a6 i.a7 i.a8 i.a9 i.b1 i.b2,⟨hm.i,hm.s,hm.n,hm.ns⟩⟩ h.2) fun _=>?_
 refine Ok.cond (fun _=>Ok.bind (Kv h8.2 _ (by decide) (by decide)) fun y h=>K _ _ ⟨I4 hf.names hf.name hf.issuer hf.subject i.a1 i.a2 i.a3 i.a4 (Lw (by decide) h.1) Ho i.a7 i.a8 i.a9 i.b1 i.b2,⟨hm.i,hm.s,hm.n,hm.ns⟩⟩ h.2) fun _=>?_
 refine Ok.cond (fun _=>Ok.bind (Kv h8.2 _ (by decide) (by decide)) fun y h=>Ok.bind (Kv h.2 _ (by decide) (by decide)) fun z k=>K _ _ ⟨I4 hf.names hf.name hf.issuer hf.subject i.a1 i.a2 i.a3 i.a4 i.a5 i.a6 (Lw (by decide) h.1) (Lw (by decide) k.1) i.a9 i.b1 i.b2,⟨hm.i,hm.s,hm.n,hm.ns⟩⟩ k.2) fun _=>?_
 refine Ok.cond (fun _=>Ok.bind (Kv h8.2 _ (by decide) (by decide)) fun y h=>K _ _ ⟨I4 hf.names hf.name hf.issuer hf.subject i.a1 i.a2 i.a3 i.a4 i.a5 i.a6 i.a7 i.a8 (Lw (by decide) h.1) i.b1 i.b2,⟨hm.i,hm.s,hm.n,hm.ns⟩⟩ h.2) fun _=>?_
 refine Ok.cond (fun _=>Ok.bind (Jf h8.2 4 (by omega) (by omega)) fun y h=>?_) fun _=>?_
 ·refine Ok.bind (Vy (by omega) (show y.1 < (4:Int) by omega)) fun e he=>?_
  have hl:e.length<=10/\∀ s∈e,s.size<=2000:=by
   simp only [List.mem_cons,List.not_mem_nil,or_false] at he
   rcases he with rfl | rfl | rfl | rfl
   ·exact⟨by decide,fun s hs=>by cases hs⟩
   ·exact⟨by decide,fun s hs=>Qv (l:=[⟨#[98]⟩,⟨#[97]⟩]) (by decide) hs⟩
   ·exact⟨by decide,fun s hs=>Qv (l:=[⟨#[97]⟩,⟨#[97]⟩]) (by decide) hs⟩
   ·exact⟨by decide,fun s hs=>Qv (by decide) hs⟩
  exact K _ _ ⟨I4 (show e.length < _ by omega) (fun s hs=>by have:=hl.2 s hs; omega) hf.issuer hf.subject i.a1 i.a2 i.a3 i.a4 i.a5 i.a6 i.a7 i.a8 i.a9 i.b1 i.b2,⟨hm.i,hm.s,hl.1,hl.2⟩⟩ h.2
 refine Ok.cond (fun _=>Ok.bind (Kv h8.2 _ (by decide) (by decide)) fun y h=>Ok.bind (Kv h.2 _ (by decide) (by decide)) fun z k=>K _ _ ⟨I4 hf.names hf.name hf.issuer hf.subject i.a1 i.a2 i.a3 i.a4 i.a5 i.a6 i.a7 i.a8 i.a9 (Lw (by decide) h.1) (Lw (by decide) k.1),⟨hm.i,hm.s,hm.n,hm.ns⟩⟩ k.2) fun _=>?_
 refine Ok.cond (fun _=>K _ _ ⟨I4 hf.names hf.name hf.issuer hf.subject i.a1 i.a2 i.a3 i.a4 i.a5 i.a6 i.a7 i.a8 i.a9 i.b1 i.b2,⟨hm.i,hm.s,hm.n,hm.ns⟩⟩ h8.2) fun _=>?_
 exact K _ _ ⟨hf,hm⟩ h8.2
theorem Ik.lo {c:Ab} (h:Ik c):Lo c.Names:=by
 have:=h.names
 unfold Lo; omega
end
section
open Go
theorem jF (n:Int):E5 (I0 n) 2=true:=rfl
theorem Kc {n:Int} (h:K8 n):Dv (I0 n)=some n:=by
 have hl:=kU n
 have hn:=dK n h.1 h.2
 unfold Dv
 have e:(I0 n).Bytes=Nz n:=rfl
 rw [e,hn,if_pos ⟨jF n,hl.1,hl.2,rfl⟩]
theorem Qo {s:ByteArray} (h:Iy s=true):(Ln s).any Sr=false:=by
 unfold Iy at h
 simp only [Bool.and_eq_true,aCe] at h
 rw [List.any_eq_false]
 intro c hc
 have:=h.2
 rw [List.any_eq_false] at this
 have:=this c hc
 unfold pY at this
 unfold Sr
 simp only [aCe,Bool.not_eq_false',Bool.and_eq_true,aDa,aCg,Bool.not_eq_false] at this ⊢
 omega
theorem Mp {s:ByteArray} (h:(Ln s).any Sr=false):C3 (Fx s)=some s:=by
 unfold C3
 have e:(Fx s).Bytes=Ln s:=rfl
 rw [e,if_pos ⟨rfl,h⟩,qO]
theorem bH (b:Bool):G0 (Qm b)=some b:=by cases b <;> rfl
theorem Mw {l:List Aa} (h:Cr l=true):Cd (Ml l)=some l:=by
 unfold Cd
 rw [if_pos ⟨rfl,by rw [Hn,h]⟩]; rfl
theorem Yk {a b:Int} (ha:K8 a) (hb:K8 b):Im (Ml [I0 a,I0 b])=some (a,b):=by
 rw [W9 (Mw (by simp only [Cr,Kf,aDc]))]
 unfold On
 rw [D0,Kc ha]
 show (match Fu (some (((),a),[I0 b])) Dv with | some (((_,a),b),[])=>some (a,b) | _=>none)=_
 rw [D0,Kc hb]; rfl
theorem fW {u:A3} (h1:K8 u.Alg) (h2:K8 u.Bits):Qr (Rw u)=some u:=by
 unfold Qr Rw
 rw [Yk h1 h2]; rfl
theorem mS {s:ByteArray} (h:(Ln s).any Sr=false):gY (Fx s)=s:=by
 unfold gY
 rw [Mp h]; rfl
theorem bY {l:List ByteArray} (h:∀ s∈l,(Ln s).any Sr=false):Lz (Ml (l.map Fx))=some l:=by
 unfold Lz
 rw [Mw (R6 l),Option.bind_some]
 unfold Jz
 rw [if_pos,List.map_map]
 ·congr 1
  conv=>rhs; rw [<- List.map_id l]
  exact aDz fun s hs=>mS (h s hs)
 ·rw [List.all_eq_true]
  intro v hv
  obtain⟨s,hs,rfl⟩:=aBy.1 hv
  rw [Mp (h s hs)]; rfl
theorem eV {l:List ByteArray} (h:Kw l=true):∀ s∈l,Iy s=true:=by
 intro s hs
 obtain⟨i,hi,e⟩:=aB6 hs
 unfold Kw at h
 have h1:(List.range l.length).any (Ws l)=false:=by simpa using h
 rw [List.any_eq_false] at h1
 have h2:=h1 i (aDm.2 hi)
 unfold Ws at h2
 rw [Pt (List.getElem?_eq_getElem hi),e] at h2
 cases hn:Iy s with
 | true=>rfl
 | false=>rw [hn] at h2; simp at h2
theorem eT {c:Ab} (hf:Ik c) (hc:Fq c=true):Gu (G9 c)=some c:=by
 have i:=hf.is
 obtain⟨-,n1,n2,n3,-⟩:=iH.1 hc
 unfold Gu
 have h1:Cd (G9 c)=some [G6 c,Kp c.Seal]:=Mw (by
  have:(Kp c.Seal).formed=true:=by
   unfold Kp
   rw [Hn]
   simp only [Cr,Kf,aDc]
  simp only [Cr,Mr,this,aDc])
 rw [h1]
 dsimp only
 have h2:Im (Kp c.Seal)=some (c.Seal.Key,c.Seal.Sum):=Yk i.b1 i.b2
 have h3:Mh (G6 c)=some ((((((((((((),c.Serial),c.Issuer),c.Subject),c.Key),c.KeyId),c.Hash),c.From),c.To),c.Authority),c.Path),c.Names):=by
  unfold Mh
  have:Cd (G6 c)=some (Hj c):=by
   have hb:=Mr c
   unfold G6 at hb ⊢
   rw [Hn] at hb
   exact Mw hb
  rw [this,Option.bind_some]
  have e:K6 (some ((),Hj c))=some (((((((((((((),c.Serial),c.Issuer),c.Subject),c.Key),c.KeyId),c.Hash),c.From),c.To),c.Authority),c.Path),c.Names),[]):=by
   unfold K6 V6 Hj
   rw [D0,Kc i.a1,aBq,D0,Mp (Qo n1),aBq,D0,Mp (Qo n2),aBq,D0,fW i.a2 i.a3,aBq,D0,Kc i.a4,aBq,D0,fW i.a5 i.a6,aBq,D0,Kc i.a7,aBq,D0,Kc i.a8,aBq,D0,bH,aBq,D0,Kc i.a9,aBq,D0,bY (fun s hs=>Qo (eV n3 s hs)),aBq]
  rw [e]
 rw [h3,h2]; rfl
theorem bP {c:Ab} (hc:Fq c=true):bX c=((G9 c).put,0)/\(G9 c).formed=true/\(G9 c).depth<=16/\(G9 c).put.length<=4096:=by
 have hb:=Pz hc
 have hs:=Ux c.Seal
 have hB:(G6 c).sz=Fz (Hj c) + 1:=H7 _
 have h0:(Kp c.Seal).formed=true:=by
  unfold Kp
  rw [Hn]
  simp only [Cr,Kf,aDc]
 have h1:(G9 c).formed=true:=by
  unfold G9
  rw [Hn]
  simp only [Cr,Mr,h0,aDc]
 have hd0:(Kp c.Seal).depth=2:=by
  unfold Kp
  rw [Mm]
  simp only [Dp,Tk]; rfl
 have hd:=Wp c
 have h2:(G9 c).depth<=16:=by
  unfold G9
  rw [Mm]
  simp only [Dp,hd0]
  omega
 have h3:(G9 c).sz<=1024:=by
  unfold G9
  rw [H7]
  simp only [Fz]; omega
 have h4:=aJ (G9 c) (by omega)
 refine⟨?_,h1,h2,by omega⟩
 unfold bX
 rw [hc,cond_true,aU h1 h2 h3]
theorem rR {c:Ab} (hf:Ik c) (hc:Fq c=true):T6 (bX c).1=(c,0):=by
 obtain⟨h1,h2,h3,h4⟩:=bP hc
 rw [h1]
 unfold T6
 rw [lT h2 h4 h3]
 dsimp only
 rw [if_pos rfl,eT hf hc]
 dsimp only
 rw [hc]; rfl
end
section
open Go
theorem T7:G5=some true:=by
 have hu:(Nl Pl 3).2=0:=by kernel_rfl
 have hsc:Fq (Nl Pl 3).1=true:=by kernel_rfl
 have hsf:Ik (Nl Pl 3).1:=Yw Vt ⟨by decide,by decide⟩
 have h3:gB (Nl Pl 3).1 3=true:=by kernel_rfl
 have h4:gB (Nl Pl 3).1 4=false:=by kernel_rfl
 have hs:aM [97]=3826002220:=by kernel_rfl
 unfold G5
 show (Cn Pl 3).bind _=_
 rw [lR Pl Vt,Option.bind_some,cZ _ hsf,Option.bind_some,Wc,Option.bind_some,rR hsf hsc,hu,(bP hsc).1]
 dsimp only
 rw [show decide ((0:Int)=0)=true from rfl,cond_true,cond_true,cond_true,Wr _ hsf,Option.bind_some,h3,cond_true,Wr _ hsf,Option.bind_some,h4,aDe,cond_true,nV _ _ hsf.lo,Option.bind_some,decide_eq_true rfl,cond_true,Zj _ (lo1 _),hs]
 rfl
theorem A03:Ok (G5.bind fun y=>some y) (fun r=>r=true):=Ok.bindE T7 (Ok.ret rfl)
theorem oR (l:List Aa) (h:Fz l < 1073741824):C9 l=some l:=by
 have hn:=Hc l
 unfold C9
 refine Fy (body:=fun q'=>C9.l2 l q'.1 q'.2) l.length (fun i=>((i:Int),l.take i)) l (fun i hi=>?_) ?_
 ·obtain⟨e,he⟩:∃ e,l[i]?=some e:=⟨_,List.getElem?_eq_getElem hi⟩
  have h1:=Kn (I3 he)
  have h2:=Ha e
  show C9.l2 l (i:Int) (l.take i)=_
  unfold C9.l2
  rw [Fs he,D5 (by simp; omega)]
  simp only [aC8,Option.bind_some]
  rw [Oe e.Elements (by omega),Option.bind_some,D5 (by simp; omega),Option.bind_some,Gp (by omega),Fm he]
  cases e; rfl
 ·show C9.l2 l (l.length:Int) (l.take l.length)=_
  unfold C9.l2
  rw [Ej,aBm]; rfl
theorem nO (l:List Aa) (h:Fz l < 1073741824):Gl l=some (Ml l):=by unfold Gl; rw [oR l h]; rfl
theorem cY (c:Ab) (hf:Ik c) (hb:Fz (Hj c)<=1000000):G2 c=some (G9 c):=by
 have i:=hf.is
 have he:=V4 hb
 have hs:=Ux c.Seal
 unfold Kp at hs
 rw [H7] at hs
 unfold G2
 rw [Ez _ i.b1.1 i.b1.2,Option.bind_some,Ez _ i.b2.1 i.b2.2,Option.bind_some,nO _ (by omega),Option.bind_some,iR c hf hb,Option.bind_some]
 have e:Gl [G6 c,Ml [I0 c.Seal.Key,I0 c.Seal.Sum]]=some (G9 c):=nO [G6 c,Kp c.Seal] (by omega)
 rw [e]; rfl
theorem bF (l:List Aa) (n:Nat):Fz (l.take n)<=Fz l:=by
 have:=L3 (l.take n) (l.drop n)
 rw [aB0] at this
 omega
theorem cK (l:List Aa) (n:Nat):Fz (l.drop n)<=Fz l:=by
 have:=L3 (l.take n) (l.drop n)
 rw [aB0] at this
 omega
theorem V0 (l:List Aa) (n:Nat) (x:Aa):Fz (Ir l n x)<=Fz l + x.sz:=by
 unfold Ir
 induction l generalizing n with
 | nil=>exact aBt _
 | cons a l ih=>
  cases n with
  | zero=>rw [List.set_cons_zero,Fz,Fz]; omega
  | succ n=>have:=ih n; rw [List.set_cons_succ,Fz,Fz]; omega
theorem kD (raw:List UInt8) (v:Aa) (l:List Aa) (h:(Aa.mk v.Tag v.Bytes v.Nested l).sz < 67108864):Ok (An.j2 raw v l) (fun r=>r=true):=by
 refine⟨true,?_,rfl⟩
 unfold An.j2
 rw [Re _ h,Option.bind_some]
 generalize (Wh (Aa.mk v.Tag v.Bytes v.Nested l)).1=b
 refine Fy (body:=fun q'=>An.l3 raw q'.1 q'.2) 2 (fun i=>(if i=0 then b else raw,(i:Int))) true (fun i hi=>?_) ?_
 ·show An.l3 raw (if i=0 then b else raw) (i:Int)=_
  generalize (if i=0 then b else raw)=c
  unfold An.l3
  rw [decide_eq_true (show (i:Int) < 2 by omega),cond_true,Wc,Option.bind_some,dS,Option.bind_some,decide_eq_true rfl,Bool.not_true,cond_false,mD _ _ (cD c),Option.bind_some,decide_eq_true rfl]
  unfold An.j4
  rw [Bool.not_true,cond_false,Gp (by omega),if_neg (by omega)]
 ·show An.l3 raw raw 2=_
  unfold An.l3
  rw [decide_eq_false (by omega),cond_false,T7]; rfl
theorem Nk (l:List Int) (raw:List UInt8):An l raw=some true:=by
 refine Ok.true_ ?_
 have j1:Ok (An.j1 l raw true) (fun r=>r=true):=by
  unfold An.j1
  rw [cond_true]
  exact A03
 unfold An Lh
 rw [Option.bind_some]
 refine Ok.cond (fun _=>j1) fun hb=>?_
 have hl:l.length<=400:=by
  have:=aBw (by simpa using hb)
  omega
 cases decide (300 < (raw.length:Int)) with
 | true=>exact j1
 | false=>
 unfold An.j1
 rw [cond_false]
 refine Ok.bind (qJ hl) fun d hd=>?_
 refine Ok.bind (iG hd) fun y4 h4=>?_
 have hs:=h4.1.2.sz
 have he:=V4 hs
 refine Ok.bindE (cY _ h4.1.1 hs) ?_
 refine Ok.bind (Jf h4.2 2 (by omega) (by omega)) fun y6 h6=>?_
 have b6:=h6.1
 refine Ok.bind (N4 b6.1 (show y6.1 < (2:Int) by omega)) fun e hee=>?_
 have hm:=I3 hee
 have hm2:e∈[G6 y4.1,Kp y4.1.Seal]:=hm
 have hsz:=Kn hm2
 have hes:=Ha e
 have hne:1<=e.Elements.length/\e.Elements.length<=11:=by
  simp only [List.mem_cons,List.not_mem_nil,or_false] at hm2
  rcases hm2 with rfl | rfl
  ·exact⟨by show 1<=(Hj y4.1).length; unfold Hj; simp,by show (Hj y4.1).length<=11; unfold Hj; simp⟩
  ·exact⟨by show 1<=2; omega,by show 2<=11; omega⟩
 refine Ok.bind (Jf h6.2 _ (by omega) (by omega)) fun y7 h7=>?_
 have b7:=h7.1
 refine Ok.bind (Jf h7.2 5 (by omega) (by omega)) fun y8 h8=>?_
 have fin:∀ E:List Aa,Fz E<=3000000->Ok (An.j2 raw (G9 y4.1) (Ir (G9 y4.1).Elements y6.1.toNat (Aa.mk e.Tag e.Bytes e.Nested E))) (fun r=>r=true):=fun E hE=>by
  refine kD raw _ _ ?_
  have k1:=V0 (G9 y4.1).Elements y6.1.toNat (Aa.mk e.Tag e.Bytes e.Nested E)
  have k2:=Ha (Aa.mk e.Tag e.Bytes e.Nested E)
  have k3:Fz (G9 y4.1).Elements<=1000100:=he
  have k4:=Ha (Aa.mk (G9 y4.1).Tag (G9 y4.1).Bytes (G9 y4.1).Nested (Ir (G9 y4.1).Elements y6.1.toNat (Aa.mk e.Tag e.Bytes e.Nested E)))
  have k5:(G9 y4.1).Bytes.length=0:=rfl
  dsimp only at k2 k4
  omega
 refine Ok.cond (fun _=>?_) fun _=>?_
 ·refine Ok.bind (Jf h8.2 300 (by omega) (by omega)) fun y9 h9=>?_
  have b9:=h9.1
  refine Ok.bindE (Ez _ (by omega) (by omega)) ?_
  have i9:=Hf y9.1
  refine Ok.bind (Wg (by rw [aBg]; omega)) fun l2 hl2=>?_
  subst hl2
  refine Ok.bind (N4 (by omega) (by rw [List.length_append,aBg]; omega)) fun _ _=>?_
  refine fin _ ?_
  refine aBo (V0 _ _ _) ?_
  rw [L3]
  have:Fz [Aa.mk 0 [] false []]<=10:=by simp only [Fz,Ha]; decide
  omega
 refine Ok.cond (fun _=>?_) fun _=>?_
 ·rw [Fv (x:=y7.1 + 1) (by omega)]
  refine Ok.bind (oT (by omega)) fun _ _=>Ok.bind (oT (by omega)) fun _ _=>?_
  refine Ok.bind (Wg (by simp only [List.length_take,List.length_drop]; omega)) fun l5 h5=>?_
  subst h5
  refine fin _ ?_
  rw [L3]
  have t1:=bF (e.Elements.drop (0:Int).toNat) (y7.1.toNat - (0:Int).toNat)
  have t2:=cK e.Elements (0:Int).toNat
  have t3:=bF (e.Elements.drop (y7.1 + 1).toNat) ((e.Elements.length:Int).toNat - (y7.1 + 1).toNat)
  have t4:=cK e.Elements (y7.1 + 1).toNat
  omega
 have small:∀ x:Aa,x.sz<=1000->Fz (Ir e.Elements y7.1.toNat x)<=3000000:=fun x hx=>by
  have:=V0 e.Elements y7.1.toNat x
  omega
 have g:∀ {β:Type} {f:Aa->Option β} {Q:β->Prop},(∀ x,Ok (f x) Q)->Ok ((Dd e.Elements y7.1).bind f) Q:=fun h=>Ok.bind (N4 b7.1 (by omega)) fun x _=>h x
 refine Ok.cond (fun _=>?_) fun _=>?_
 ·refine Ok.bind (R5 h8.2 _ (by decide) (by decide)) fun y11 h11=>?_
  refine Ok.bindE (show Fa y11.1=some (Fx y11.1) from rfl) (g fun _=>fin _ (small _ ?_))
  have:=h11.1
  simp only [List.mem_cons,List.not_mem_nil,or_false] at this
  rw [Rr]
  rcases this with q | q <;> rw [q] <;> decide
 refine Ok.cond (fun _=>?_) fun _=>?_
 ·refine Ok.bind (Kv h8.2 _ (by decide) (by decide)) fun y13 h13=>?_
  have i13:K8 y13.1:=Lw (by decide) h13.1
  refine Ok.bindE (Ez _ i13.1 i13.2) (g fun _=>fin _ (small _ ?_))
  have:=Hf y13.1
  omega
 refine Ok.bindE (Ki [] (by decide)) (g fun _=>fin _ (small _ ?_))
 rw [Ha]; decide
end
end Go.Proofs.YtlfeokjhphpjeaaGreat
