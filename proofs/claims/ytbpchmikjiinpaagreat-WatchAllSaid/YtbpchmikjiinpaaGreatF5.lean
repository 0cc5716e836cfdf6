/- Plain texts, joined. No program is in sight here. -/
import Derived.Test.YtbpchmikjiinpaaGreatF1
import Derived.Test.YtbpchmikjiinpaaGreatK4
import Derived.Test.YtbpchmikjiinpaaGreatM1
set_option autoImplicit false
set_option linter.unusedVariables false
set_option linter.unusedSimpArgs false
namespace Go.Proofs.YtbpchmikjiinpaaGreat
section
open Go
theorem tY {f:Aa} (h1:Es f.Host=true/\f.Host.size<=1000) (h2:Es f.Subject=true/\f.Subject.size<=1000) (h3:0<=f.Machine/\f.Machine<=1000) (h4:0<=f.Day/\f.Day<=40000) (h5:1<=f.Confidence/\f.Confidence<=100) (h6:1<=f.Source/\f.Source<=7) (h7:A4 f=some true):Br f=some 0:=by
 unfold Br
 rw [Kx _ (by omega),aAc,h1.1,aDb,Kx _ (by omega),aAc,h2.1,aDb,aBe h3.1,aDb,aBe (by omega)]
 unfold Br.j1
 rw [aBe h4.1,aDb,aBe h4.2,aDb,aBe h5.1,aDb,aBe h5.2]
 unfold Br.j2
 rw [aLb,aCv,aCv,aBv (by omega),aCv,aBv (by omega),aCv,h7]
 rfl
def noU:Aq:=⟨0,0⟩
def noT:ByteArray:=⟨#[]⟩
theorem aCe {f:Aa} (hk:f.Kind=1\/f.Kind=8) (hu:decide (0 < N9 f.Use)=true) (hn:f.Number=0) (ht:f.Text=noT):A4 f=some true:=by
 have J2:∀ b,A4.j2 f b true=some true:=fun b=>by
  unfold A4.j2
  rw [aDb,Pb,aAc,hu,aDb,aBe hn,aDb,ht]
  rfl
 have J1:∀ b,A4.j1 f b=some true:=fun b=>by
  unfold A4.j1
  rcases hk with hk | hk
  ·rw [aBe hk,aDb]; exact J2 b
  ·rw [aBv (by omega),aCv,aBe hk]; exact J2 b
 unfold A4
 rw [J1,J1]
 cases decide (f.Use=⟨0,0⟩) <;> rfl
theorem dC {f:Aa} (hu:f.Use=noU) (ht:f.Text=noT) (hk:(f.Kind=2/\0<=f.Number/\f.Number<=65535)\/((f.Kind=4\/f.Kind=5)/\1<=f.Number/\f.Number<=4)\/(f.Kind=6/\0<=f.Number/\f.Number<=1000)):A4 f=some true:=by
 unfold A4
 rw [show decide (f.Use=⟨0,0⟩)=true from aBe hu,aDb,show decide (f.Text=(⟨#[]⟩:ByteArray))=true from aBe ht]
 unfold A4.j1
 rw [aBv (by omega),aCv,aBv (by omega)]
 unfold A4.j2
 rw [aCv]
 rcases hk with ⟨hk,h1,h2⟩ | ⟨hk,h1,h2⟩ | ⟨hk,h1,h2⟩
 ·rw [aBe hk,aDb,aDb,aBe h1,aDb,aBe h2]
 ·rw [aBv (by omega),aCv,aBv (by omega),aCv]
  have J:A4.j3 f true true=some true:=by
   unfold A4.j3
   rw [aDb,aDb,aBe h1,aDb,aBe h2]
  rcases hk with hk | hk
  ·rw [aBe hk,aDb]; exact J
  ·rw [aBv (by omega),aCv,aBe hk]; exact J
 ·rw [aBv (by omega),aCv,aBv (by omega),aCv,aBv (by omega),aCv,aBv (by omega)]
  unfold A4.j3
  rw [aCv,aBe hk,aDb,aDb,aBe h1,aDb,aBe (by omega)]
theorem zJ {f:Aa} (hk:f.Kind=3) (hu:decide (0 < N9 f.Use)=true) (hs:Oi f.Use.Alg=2) (hn:0<=f.Number/\f.Number<=1000) (ht:f.Text=noT):A4 f=some true:=by
 have J1:∀ b,A4.j1 f b=some true:=fun b=>by
  unfold A4.j1
  rw [aBv (by omega),aCv,aBv (by omega)]
  unfold A4.j2
  rw [aCv,aBv (by omega),aCv,aBe hk,aDb,Pb,aAc,hu,aDb,Tw,aAc,hs,aBe rfl,aDb,aBe hn.1,aDb,aBe (by omega),aDb,ht]
  rfl
 unfold A4
 rw [J1,J1]
 cases decide (f.Use=⟨0,0⟩) <;> rfl
theorem xQ {f:Aa} (hk:f.Kind=7) (hu:f.Use=noU) (hn:f.Number=0) (ht:Es f.Text=true/\f.Text.size<=1000):A4 f=some true:=by
 have hu':decide (f.Use=⟨0,0⟩)=true:=aBe hu
 have J1:∀ b,A4.j1 f b=some true:=fun b=>by
  unfold A4.j1
  rw [aBv (by omega),aCv,aBv (by omega)]
  unfold A4.j2
  rw [aCv,aBv (by omega),aCv,aBv (by omega),aCv,aBv (by omega),aCv,aBv (by omega)]
  unfold A4.j3
  rw [aCv,aBv (by omega),aCv,aBe hk,aDb,hu',aDb,aBe hn,aDb,Kx _ (by omega),aAc,ht.1]
 unfold A4
 rw [J1,J1]
 cases decide (f.Use=⟨0,0⟩) <;> rfl
structure Jz (f:Aa):Prop where
 host:f.Host.size<=9223372036854775807
 subj:f.Subject.size<=9223372036854775807
 text:f.Text.size<=9223372036854775807
def FOK (f:Aa):Prop:=Br f=some 0/\Jz f
theorem Zn {d:Ab} (h:Jw d):Ok (B8 d) (fun y=>FOK y.1/\Jw y.2):=by
 unfold B8
 refine Ok.bind (Ej h 7 (by omega) (by omega)) fun y1 h1=>?_
 refine Ok.bind (Uw h1.2 _ (by decide) (by decide)) fun y2 h2=>?_
 refine Ok.bind (Kt h2.2 _ (by decide) (by decide)) fun y3 h3=>?_
 refine Ok.bind (Ej h3.2 12 (by omega) (by omega)) fun y4 h4=>?_
 refine Ok.bind (Kt h4.2 _ (by decide) (by decide)) fun y5 h5=>?_
 refine Ok.bind (Ej h5.2 8 (by omega) (by omega)) fun y6 h6=>?_
 refine Ok.bind (Uw h6.2 _ (by decide) (by decide)) fun y7 h7=>?_
 have b1:=h1.1
 have b4:=h4.1
 have b6:=h6.1
 have n2:Es y2.1=true/\y2.1.size<=1000:=by
  have:=h2.1
  simp only [aC6,aD5,aLd] at this
  rcases this with e | e | e <;> rw [e] <;> decide +kernel
 have n7:Es y7.1=true/\y7.1.size<=1000:=by
  have:=h7.1
  simp only [aC6,aD5,aLd] at this
  rcases this with e | e <;> rw [e] <;> decide +kernel
 have n3:0<=y3.1/\y3.1<=1000:=by
  have:=h3.1
  simp only [aC6,aD5,aLd] at this
  omega
 have n5:1<=y5.1/\y5.1<=100:=by
  have:=h5.1
  simp only [aC6,aD5,aLd] at this
  omega
 have w1:W (1 + y1.1)=1 + y1.1:=Dz (by omega)
 have w6:W (1 + y6.1)=1 + y6.1:=Dz (by omega)
 have fin:∀ (u:Aq) (n:Int) (t:ByteArray) (d':Ab),Jw d'->t.size<=1000->A4 ⟨1 + y1.1,y2.1,y3.1,y4.1,y5.1,1 + y6.1,y7.1,u,n,t⟩=some true->Ok (B8.j3 d' ⟨1 + y1.1,y2.1,y3.1,y4.1,y5.1,1 + y6.1,y7.1,u,n,t⟩) (fun y=>FOK y.1/\Jw y.2):=fun u n t d' hd ht hc=>by
  unfold B8.j3
  exact Ok.ret ⟨⟨tY n2 n7 n3 ⟨b4.1,by show y4.1<=40000; omega⟩ n5 ⟨by show 1<=1 + y1.1; omega,by show 1 + y1.1<=7; omega⟩ hc,⟨by show y2.1.size<=_; omega,by show y7.1.size<=_; omega,by show t.size<=_; omega⟩⟩,hd⟩
 have J1:∀ b,(b=true->1 + y6.1=1\/1 + y6.1=8)->(b=false->1 + y6.1≠1/\1 + y6.1≠8)->Ok (B8.j1 y1 y2 y3 y4 y5 y6 y7 b) (fun y=>FOK y.1/\Jw y.2):=by
  intro b hb1 hb2
  unfold B8.j1
  rw [w1,w6]
  refine Ok.cond (fun hb=>?_) (fun hb=>?_)
  ·have hk:=hb1 hb
   refine Ok.bind (Ej h7.2 4 (by omega) (by omega)) fun y8 h8=>?_
   refine Ok.bind (M4 h8.1.1 (by show y8.1 < (4:Int); exact h8.1.2)) fun u hu=>?_
   have hu2:decide (0 < N9 u)=true:=by
    simp only [aC6,aD5,aLd] at hu
    rcases hu with rfl | rfl | rfl | rfl <;> decide +kernel
   exact fin _ _ _ _ h8.2 (by decide) (aCe hk hu2 rfl rfl)
  ·have hk:=hb2 hb
   refine Ok.cond (fun h=>?_) (fun h=>?_)
   ·have h:=aCm h
    refine Ok.bind (Ej h7.2 5 (by omega) (by omega)) fun y9 h9=>?_
    have b9:=h9.1
    rw [Dz (x:=1 + y9.1) (by omega)]
    exact fin _ _ _ _ h9.2 (by decide) (dC rfl rfl (.inl ⟨h,by show 0<=1 + y9.1; omega,by show 1 + y9.1<=65535; omega⟩))
   ·have q2:=aCn h
    refine Ok.cond (fun h=>?_) (fun h=>?_)
    ·have h:=aCm h
     refine Ok.bind (Kt h7.2 _ (by decide) (by decide)) fun y10 h10=>?_
     refine Ok.bind (Ej h10.2 3 (by omega) (by omega)) fun y11 h11=>?_
     have b11:=h11.1
     rw [Dz (x:=100 + y11.1) (by omega)]
     have hu:=h10.1
     simp only [aC6,aD5,aLd] at hu
     refine fin _ _ _ _ h11.2 (by decide) (zJ h ?_ (show Oi 5=2 by decide +kernel) ⟨by show 0<=100 + y11.1; omega,by show 100 + y11.1<=1000; omega⟩ rfl)
     show decide (0 < N9 ⟨5,y10.1⟩)=true
     rcases hu with e | e <;> rw [e] <;> decide +kernel
    ·have q3:=aCn h
     have J2:∀ b,(b=true->1 + y6.1=4\/1 + y6.1=5)->(b=false->1 + y6.1≠4/\1 + y6.1≠5)->Ok (B8.j2 y1 y2 y3 y4 y5 y6 y7 b) (fun y=>FOK y.1/\Jw y.2):=by
      intro b hc1 hc2
      unfold B8.j2
      rw [w1,w6]
      refine Ok.cond (fun hb=>?_) (fun hb=>?_)
      ·have hk:=hc1 hb
       refine Ok.bind (Ej h7.2 4 (by omega) (by omega)) fun y12 h12=>?_
       have b12:=h12.1
       rw [Dz (x:=1 + y12.1) (by omega)]
       exact fin _ _ _ _ h12.2 (by decide) (dC rfl rfl (.inr (.inl ⟨hk,by show 1<=1 + y12.1; omega,by show 1 + y12.1<=4; omega⟩)))
      ·have q4:=hc2 hb
       refine Ok.cond (fun h=>?_) (fun h=>?_)
       ·have h:=aCm h
        refine Ok.bind (Ej h7.2 3 (by omega) (by omega)) fun y13 h13=>?_
        have b13:=h13.1
        exact fin _ _ _ _ h13.2 (by decide) (dC rfl rfl (.inr (.inr ⟨h,b13.1,by show y13.1<=1000; omega⟩)))
       ·have q5:=aCn h
        refine Ok.cond (fun h=>?_) (fun h=>?_)
        ·have h:=aCm h
         refine Ok.bind (Uw h7.2 _ (by decide) (by decide)) fun y14 h14=>?_
         have n14:Es y14.1=true/\y14.1.size<=1000:=by
          have:=h14.1
          simp only [aC6,aD5,aLd] at this
          rcases this with e | e <;> rw [e] <;> decide +kernel
         exact fin _ _ _ _ h14.2 n14.2 (xQ h rfl rfl n14)
        ·have q6:=aCn h
         omega
     refine Ok.cond (fun h=>J2 _ (fun _=>.inl (aCm h)) (fun h2=>absurd (aCm h) (aCn h2))) (fun h=>J2 _ (fun h2=>.inr (aCm h2)) (fun h2=>⟨aCn h,aCn h2⟩))
 rw [w6]
 refine Ok.cond (fun h=>J1 _ (fun _=>.inl (aCm h)) (fun h2=>absurd (aCm h) (aCn h2))) (fun h=>J1 _ (fun h2=>.inr (aCm h2)) (fun h2=>⟨aCn h,aCn h2⟩))
end
section
open Go
end
section
open Go
theorem aC2 (b x:Bool):cond b (some x) (some false)=some (b && x):=by cases b <;> rfl
def mF (f:Aa):Bool:=decide (f.Use=⟨0,0⟩) && decide (f.Text=⟨#[]⟩)
def dW (f:Aa):Bool:=
 bif decide (f.Kind=1) || decide (f.Kind=8) then decide (0 < N9 f.Use) && (decide (f.Number=0) && decide (f.Text=⟨#[]⟩))
 else bif decide (f.Kind=2) then mF f && (decide (0<=f.Number) && decide (f.Number<=65535))
 else bif decide (f.Kind=3) then decide (0 < N9 f.Use) && (decide (Oi f.Use.Alg=2) && (decide (0<=f.Number) && (decide (f.Number<=2147483648) && decide (f.Text=⟨#[]⟩))))
 else bif decide (f.Kind=4) || decide (f.Kind=5) then mF f && (decide (1<=f.Number) && decide (f.Number<=4))
 else bif decide (f.Kind=6) then mF f && (decide (0<=f.Number) && decide (f.Number<=2147483648))
 else bif decide (f.Kind=7) then decide (f.Use=⟨0,0⟩) && (decide (f.Number=0) && Es f.Text) else false
def Tl (f:Aa):Int:=
 bif (Es f.Host && (Es f.Subject && (decide (0<=f.Machine) && decide (f.Machine<=1099511627776)))) && ((decide (0<=f.Day) && (decide (f.Day<=40000) && (decide (1<=f.Confidence) && decide (f.Confidence<=100)))) && (decide (1<=f.Source) && (decide (f.Source<=7) && dW f))) then 0 else 24
theorem iT {f:Aa} (h:Jz f):A4 f=some (dW f):=by
 unfold A4 A4.j1 A4.j2 A4.j3
 simp only [Pb,Tw,Kx _ h.text,aAc,aC2]
 unfold dW mF
 generalize decide (f.Use=⟨0,0⟩)=b0
 generalize decide (f.Kind=1)=k1
 generalize decide (f.Kind=8)=k8
 generalize decide (f.Kind=2)=k2
 generalize decide (f.Kind=3)=k3
 generalize decide (f.Kind=4)=k4
 generalize decide (f.Kind=5)=k5
 generalize decide (f.Kind=6)=k6
 generalize decide (f.Kind=7)=k7
 cases b0 <;> cases k1 <;> first | rfl | (cases k8 <;> first | rfl | (cases k2 <;> first | rfl | (cases k3 <;> first | rfl | (cases k4 <;> first | rfl | (cases k5 <;> first | rfl | (cases k6 <;> first | rfl | (cases k7 <;> rfl)))))))
theorem aKl (a b:Int):decide (a < b)=!decide (b<=a):=by
 by_cases h:a < b
 ·rw [aBe h,aBv (by omega)]; rfl
 ·rw [aBv h,aBe (by omega)]; rfl
theorem We {f:Aa} (h:Jz f):Br f=some (Tl f):=by
 unfold Br Br.j1 Br.j2 Br.j3
 simp only [Kx _ h.host,Kx _ h.subj,iT h,aAc,aKl]
 unfold Tl
 generalize Es f.Host=a1
 generalize Es f.Subject=a2
 generalize decide (0<=f.Machine)=a3
 generalize decide (f.Machine<=1099511627776)=a4
 generalize decide (0<=f.Day)=a5
 generalize decide (f.Day<=40000)=a6
 generalize decide (1<=f.Confidence)=a7
 generalize decide (f.Confidence<=100)=a8
 generalize decide (1<=f.Source)=a9
 generalize decide (f.Source<=7)=a10
 generalize dW f=a11
 cases a1 <;> cases a2 <;> cases a3 <;> cases a4 <;> first | (cases a5 <;> cases a6 <;> cases a7 <;> cases a8 <;> rfl) | (cases a5 <;> cases a6 <;> cases a7 <;> cases a8 <;> first | rfl | (cases a9 <;> cases a10 <;> cases a11 <;> rfl))
theorem c4 (b x:Bool):cond b (Ax.j4 x) (Ax.j4 false)=Ax.j4 (b && x):=by cases b <;> rfl
theorem rJ (u:Aq):Fp u=some (decide (0 < N9 u) && decide (Oi u.Alg=2)):=by
 unfold Fp
 simp only [Sl,Wl,aAc,aC2]
theorem eJ {f:Aa} (h:Jz f):Ax.j1 f false=Ax.j4 (dW f):=by
 unfold Ax.j1 Ax.j2 Ax.j3
 simp only [Sl,rJ,Pt _ h.text,aAc,c4,aCv]
 unfold dW mF
 generalize decide (f.Use=⟨0,0⟩)=b0
 generalize decide (f.Text=(⟨#[]⟩:ByteArray))=b1
 generalize decide (f.Kind=1)=k1
 generalize decide (f.Kind=8)=k8
 generalize decide (f.Kind=2)=k2
 generalize decide (f.Kind=3)=k3
 generalize decide (f.Kind=4)=k4
 generalize decide (f.Kind=5)=k5
 generalize decide (f.Kind=6)=k6
 generalize decide (f.Kind=7)=k7
 generalize decide (0 < N9 f.Use)=u1
 generalize decide (Oi f.Use.Alg=2)=u2
 generalize decide (0<=f.Number)=n1
 generalize decide (f.Number=0)=n0
 generalize decide (f.Number<=65535)=n2
 generalize decide (f.Number<=2147483648)=n3
 generalize decide (1<=f.Number)=n4
 generalize decide (f.Number<=4)=n5
 have L3:∀ a b c d:Bool,(a && (b && (c && d)))=((a && d) && (b && c)):=by decide
 have L4:∀ a b c d e:Bool,((a && b) && (c && (d && e)))=(a && (b && (c && (d && e)))):=by decide
 cases k1
 ·cases k8
  ·cases k2
   ·cases k3
    ·cases k4
     ·cases k5
      ·cases k6
       ·cases k7 <;> rfl
       ·exact congrArg Ax.j4 (L3 _ _ _ _)
      ·exact congrArg Ax.j4 (L3 _ _ _ _)
     ·exact congrArg Ax.j4 (L3 _ _ _ _)
    ·exact congrArg Ax.j4 (L4 _ _ _ _ _)
   ·exact congrArg Ax.j4 (L3 _ _ _ _)
  ·rfl
 ·rfl
theorem Za {f:Aa} (h:Jz f):Ax f=some (Tl f):=by
 have ht:Ax.j1 f true=some 24:=rfl
 have hj:∀ b,Ax.j1 f b=bif b then some 24 else some (bif dW f then 0 else 24):=fun b=>by
  cases b
  ·rw [eJ h]
   unfold Ax.j4
   cases dW f <;> rfl
  ·rfl
 unfold Ax
 simp only [Pt _ h.host,Pt _ h.subj,hj,aAc,aKl]
 unfold Tl
 generalize Es f.Host=a1
 generalize Es f.Subject=a2
 generalize decide (0<=f.Machine)=a3
 generalize decide (f.Machine<=1099511627776)=a4
 generalize decide (0<=f.Day)=a5
 generalize decide (f.Day<=40000)=a6
 generalize decide (1<=f.Confidence)=a7
 generalize decide (f.Confidence<=100)=a8
 generalize decide (1<=f.Source)=a9
 generalize decide (f.Source<=7)=a10
 generalize dW f=a11
 cases a9 <;> cases a10 <;> cases a1 <;> first | rfl | (cases a3 <;> cases a4 <;> cases a5 <;> cases a6 <;> first | (cases a7 <;> cases a8 <;> cases a2 <;> rfl) | (cases a7 <;> cases a8 <;> cases a2 <;> cases a11 <;> rfl))
theorem V2 (a b:ByteArray):Jt a b=some (Qo a b):=by
 unfold Jt Qo
 cases Mc (Hq a) (Hq b) with
 | true=>rfl
 | false=>cases Mc (Hq b) (Hq a) <;> rfl
def nE:List Int->List Int->Int
 | x :: a,y :: b=>bif decide (Iq x y=0) then nE a b else Iq x y
 | _,_=>0
theorem Xv (a b:List Int) (hl:a.length=b.length) (h:a.length<=1000):D8 a b=some (nE a b):=by
 have key:∀ (m n p q:List Int),p ++ m=a->q ++ n=b->p.length=q.length->m.length=n.length->B2 (fun i=>D8.l1 a b i) (p.length:Int)=some (nE m n):=by
  intro m
  induction m with
  | nil=>
   intro n p q h1 h2 h3 h4
   have:a.length=p.length:=by rw [<- h1]; simp
   refine Eo (x:=some 0) ?_
   show D8.l1 a b (p.length:Int)=_
   unfold D8.l1
   rw [aBv (by omega),aCv]
  | cons x m ih=>
   intro n p q h1 h2 h3 h4
   cases n with
   | nil=>cases h4
   | cons y n=>
    have hx:a[p.length]?=some x:=by rw [<- h1]; simp
    have hy:b[p.length]?=some y:=by rw [<- h2,h3]; simp
    have hlt:=Il hx
    by_cases c1:x < y
    ·have e:D8.l1 a b (p.length:Int)=up (some (-1)):=by
      unfold D8.l1
      rw [aBe (by omega),aDb,Dr,hx,aAc,Dr,hy,aAc,aBe c1,aDb]
     rw [Eo e]
     unfold nE Iq
     rw [aBe c1]; rfl
    ·by_cases c2:y < x
     ·have e:D8.l1 a b (p.length:Int)=up (some 1):=by
       unfold D8.l1
       rw [aBe (by omega),aDb,Dr,hx,aAc,Dr,hy,aAc,aBv c1,aCv,aBe c2,aDb]
      rw [Eo e]
      unfold nE Iq
      rw [aBv c1,aBe c2]; rfl
     ·have e:D8.l1 a b (p.length:Int)=some (.next (((p ++ [x]).length:Nat):Int)):=by
       unfold D8.l1
       rw [aBe (by omega),aDb,Dr,hx,aAc,Dr,hy,aAc,aBv c1,aCv,aBv c2,aCv,Dz (by omega)]
       simp
      rw [Fi (body:=fun i=>D8.l1 a b i) e,ih n (p ++ [x]) (q ++ [y]) (by simp [h1]) (by simp [h2]) (by simp [h3]) (by simpa using h4)]
      show _=some (bif decide (Iq x y=0) then nE m n else Iq x y)
      have:Iq x y=0:=by unfold Iq; rw [aBv c1,aBv c2]; rfl
      rw [this]; rfl
 exact key a b [] [] rfl rfl rfl hl
theorem Ya (a b:Aa):Kz a b=some (eC a b):=by
 unfold Kz
 rw [V2,aAc,Xv [a.Machine,a.Day] [b.Machine,b.Day] rfl (by simp),aAc,V2,aAc,Xv [a.Kind,a.Use.Alg,a.Use.Bits,a.Number] [b.Kind,b.Use.Alg,b.Use.Bits,b.Number] rfl (by simp),aAc,V2,aAc,Xv [a.Source,a.Confidence] [b.Source,b.Confidence] rfl (by simp),aAc]
 simp only [pY]
 unfold eC
 simp only [nE]
 by_cases h1:¬ Qo a.Host b.Host=0
 ·refine aOs ?_ (congrArg some (Kn (c:=fun a b:Aa=>Qo a.Host b.Host) (a:=a) (b:=b) h1).symm)
  simp [h1]
 rw [aF5] at h1
 refine aOs ?_ (congrArg some (Le (c:=fun a b:Aa=>Qo a.Host b.Host) (a:=a) (b:=b) h1).symm)
 by_cases h2:¬ Iq a.Machine b.Machine=0
 ·refine aOs ?_ (congrArg some (Kn (c:=fun a b:Aa=>Iq a.Machine b.Machine) (a:=a) (b:=b) h2).symm)
  simp [h1,h2]
 rw [aF5] at h2
 refine aOs ?_ (congrArg some (Le (c:=fun a b:Aa=>Iq a.Machine b.Machine) (a:=a) (b:=b) h2).symm)
 by_cases h3:¬ Iq a.Day b.Day=0
 ·refine aOs ?_ (congrArg some (Kn (c:=fun a b:Aa=>Iq a.Day b.Day) (a:=a) (b:=b) h3).symm)
  simp [h1,h2,h3]
 rw [aF5] at h3
 refine aOs ?_ (congrArg some (Le (c:=fun a b:Aa=>Iq a.Day b.Day) (a:=a) (b:=b) h3).symm)
 by_cases h4:¬ Qo a.Subject b.Subject=0
 ·refine aOs ?_ (congrArg some (Kn (c:=fun a b:Aa=>Qo a.Subject b.Subject) (a:=a) (b:=b) h4).symm)
  simp [h1,h2,h3,h4]
 rw [aF5] at h4
 refine aOs ?_ (congrArg some (Le (c:=fun a b:Aa=>Qo a.Subject b.Subject) (a:=a) (b:=b) h4).symm)
 by_cases h5:¬ Iq a.Kind b.Kind=0
 ·refine aOs ?_ (congrArg some (Kn (c:=fun a b:Aa=>Iq a.Kind b.Kind) (a:=a) (b:=b) h5).symm)
  simp [h1,h2,h3,h4,h5]
 rw [aF5] at h5
 refine aOs ?_ (congrArg some (Le (c:=fun a b:Aa=>Iq a.Kind b.Kind) (a:=a) (b:=b) h5).symm)
 by_cases h6:¬ Iq a.Use.Alg b.Use.Alg=0
 ·refine aOs ?_ (congrArg some (Kn (c:=fun a b:Aa=>Iq a.Use.Alg b.Use.Alg) (a:=a) (b:=b) h6).symm)
  simp [h1,h2,h3,h4,h5,h6]
 rw [aF5] at h6
 refine aOs ?_ (congrArg some (Le (c:=fun a b:Aa=>Iq a.Use.Alg b.Use.Alg) (a:=a) (b:=b) h6).symm)
 by_cases h7:¬ Iq a.Use.Bits b.Use.Bits=0
 ·refine aOs ?_ (congrArg some (Kn (c:=fun a b:Aa=>Iq a.Use.Bits b.Use.Bits) (a:=a) (b:=b) h7).symm)
  simp [h1,h2,h3,h4,h5,h6,h7]
 rw [aF5] at h7
 refine aOs ?_ (congrArg some (Le (c:=fun a b:Aa=>Iq a.Use.Bits b.Use.Bits) (a:=a) (b:=b) h7).symm)
 by_cases h8:¬ Iq a.Number b.Number=0
 ·refine aOs ?_ (congrArg some (Kn (c:=fun a b:Aa=>Iq a.Number b.Number) (a:=a) (b:=b) h8).symm)
  simp [h1,h2,h3,h4,h5,h6,h7,h8]
 rw [aF5] at h8
 refine aOs ?_ (congrArg some (Le (c:=fun a b:Aa=>Iq a.Number b.Number) (a:=a) (b:=b) h8).symm)
 by_cases h9:¬ Qo a.Text b.Text=0
 ·refine aOs ?_ (congrArg some (Kn (c:=fun a b:Aa=>Qo a.Text b.Text) (a:=a) (b:=b) h9).symm)
  simp [h1,h2,h3,h4,h5,h6,h7,h8,h9]
 rw [aF5] at h9
 refine aOs ?_ (congrArg some (Le (c:=fun a b:Aa=>Qo a.Text b.Text) (a:=a) (b:=b) h9).symm)
 by_cases h10:¬ Iq a.Source b.Source=0
 ·refine aOs ?_ (congrArg some (Kn (c:=fun a b:Aa=>Iq a.Source b.Source) (a:=a) (b:=b) h10).symm)
  simp [h1,h2,h3,h4,h5,h6,h7,h8,h9,h10]
 rw [aF5] at h10
 refine aOs ?_ (congrArg some (Le (c:=fun a b:Aa=>Iq a.Source b.Source) (a:=a) (b:=b) h10).symm)
 by_cases h11:¬ Iq a.Confidence b.Confidence=0
 ·refine aOs ?_ (congrArg some (Kn (c:=fun a b:Aa=>Iq a.Confidence b.Confidence) (a:=a) (b:=b) h11).symm)
  simp [h1,h2,h3,h4,h5,h6,h7,h8,h9,h10,h11]
 rw [aF5] at h11
 refine aOs ?_ (congrArg some (Le (c:=fun a b:Aa=>Iq a.Confidence b.Confidence) (a:=a) (b:=b) h11).symm)
 simp [h1,h2,h3,h4,h5,h6,h7,h8,h9,h10,h11]
theorem aDf {α:Type} {l:List α} {a b:Int} (h:0<=a/\a<=b/\b<=l.length):Zo l a b=some ((l.drop a.toNat).take (b.toNat - a.toNat)):=if_pos h
theorem aBq (l:List Aa) (x:Aa) (hl:l.length < 1000000) (hs:wF dJ l):Cy l x=some (R4 dJ l x):=by
 have lay:∀ p m:List Aa,p ++ m=l->Cy.j3 l x (p.length:Int) false=some (p ++ x :: m):=fun p m h=>by
  unfold Cy.j3
  have hlen:l.length=p.length + m.length:=by rw [<- h]; simp
  have e1:(l.drop (0:Int).toNat).take ((p.length:Int).toNat - (0:Int).toNat)=p:=by
   show (l.drop 0).take (p.length - 0)=p
   rw [<- h]; simp
  have e2:(l.drop (p.length:Int).toNat).take (((l.length:Nat):Int).toNat - (p.length:Int).toNat)=m:=by
   show (l.drop p.length).take (l.length - p.length)=m
   rw [<- h]; simp
  rw [aCv,aDf (by omega),aAc,e1,Dw (by simp; omega),aAc,Dw (by simp; omega),aAc,aDf (by omega),aAc,e2,Dw (by simp; omega),aAc]
  simp
 have key:∀ (n:Nat) (p m:List Aa),p.length=n->p ++ m=l->(∀ y∈m,dJ x y=true)->B2 (fun q'=>Cy.l1 l x q') (p.length:Int)=some (R4 dJ l x):=by
  intro n
  induction n with
  | zero=>
   intro p m hp h hm
   have:p=[]:=aDn hp
   subst this
   have h:m=l:=h
   subst h
   have e:Cy.l1 m x ((0:Nat):Int)=up (some (x :: m)):=by
    unfold Cy.l1
    rw [aBv (by omega),aCv]
    unfold Cy.j2
    rw [aCv,aBv (by omega),aCv]
    have:=lay [] m rfl
    rw [show (([]:List Aa).length:Int)=((0:Nat):Int) from rfl] at this
    rw [this]; rfl
   show B2 (fun q'=>Cy.l1 m x q') ((0:Nat):Int)=_
   rw [Eo e]
   refine congrArg some (Wh V7 (.cons hm hs) (Sg V7 hs) fun z=>?_)
   rw [Rn V7,aC6]
  | succ n ih=>
   intro p m hp h hm
   obtain⟨q,y,rfl⟩:∃ q y,p=q ++ [y]:=by
    rcases List.eq_nil_or_concat p with h0 | ⟨q,y,h0⟩
    ·rw [h0] at hp; cases hp
    ·exact⟨q,y,by rw [h0]; simp⟩
   have hql:(q ++ [y]).length=q.length + 1:=by simp
   have hy:l[q.length]?=some y:=by rw [<- h]; simp
   have hlen:=Il hy
   have e0:W (((q ++ [y]).length:Int) - 1)=(q.length:Int):=by rw [Dz (by omega)]; omega
   have hasc:=hs
   rw [<- h] at hasc
   obtain⟨ha1,ha2,ha3⟩:=aSc.1 hasc
   obtain⟨hb1,hb2,hb3⟩:=aSc.1 ha1
   by_cases c1:0 < eC y x
   ·have hxy:dJ x y=true:=aBe (by have:=kZ.anti y x; omega)
    have e:Cy.l1 l x ((q ++ [y]).length:Int)=some (.next (q.length:Int)):=by
     unfold Cy.l1
     rw [aBe (by omega),aDb,e0,Dr,hy,aAc,Ya,aAc,aBe c1]
     unfold Cy.j2
     rw [aDb,e0]
    rw [Fi (body:=fun q'=>Cy.l1 l x q') e]
    refine ih q (y :: m) (by omega) (by rw [<- h]; simp) fun z hz=>?_
    rcases aC6.1 hz with rfl | hz
    ·exact hxy
    ·exact hm z hz
   ·have e:∀ R,Cy.j3 l x ((q ++ [y]).length:Int) (decide (eC y x=0))=some R->Cy.l1 l x ((q ++ [y]).length:Int)=up (some R):=fun R hR=>by
     unfold Cy.l1
     rw [aBe (by omega),aDb,e0,Dr,hy,aAc,Ya,aAc,aBv c1]
     unfold Cy.j2
     rw [aCv,aBe (by omega),aDb,e0,Dr,hy,aAc,Ya,aAc,hR]
    by_cases c2:eC y x=0
    ·have hyx:=pU y x c2
     subst hyx
     rw [Eo (e l (by rw [aBe c2]; rfl))]
     refine congrArg some (Wh V7 hs (Sg V7 hs) fun z=>?_)
     rw [Rn V7]
     constructor
     ·exact .inr
     ·rintro (rfl | h1)
      ·exact Dv hy
      ·exact h1
    ·have hyx:dJ y x=true:=aBe (by omega)
     rw [Eo (e _ (by rw [aBv c2]; exact lay _ m h))]
     have hall:∀ z∈q ++ [y],dJ z x=true:=fun z hz=>by
      rcases aHz.1 hz with hz | hz
      ·exact V7.trans _ _ _ (hb3 z hz y (by simp)) hyx
      ·rw [aDi.1 hz]; exact hyx
     refine congrArg some (Wh V7 (aSc.2 ⟨ha1,.cons hm ha2,fun z hz w hw=>?_⟩) (Sg V7 hs) fun z=>?_)
     ·rcases aC6.1 hw with rfl | hw
      ·exact hall z hz
      ·exact ha3 z hz w hw
     ·rw [Rn V7,<- h]
      simp only [aHz,aC6]
      constructor
      ·rintro (h1 | h1 | h1)
       ·exact .inr (.inl h1)
       ·exact .inl h1
       ·exact .inr (.inr h1)
      ·rintro (h1 | h1 | h1)
       ·exact .inr (.inl h1)
       ·exact .inl h1
       ·exact .inr (.inr h1)
 exact key l.length l [] rfl (by simp) (fun _ h=>by cases h)
def Rp (f:Aa):Bool:=!decide (Tl f=0)
def Qv (l:List Aa):List Aa×Int:=bif l.any Rp then ([],24) else (Sf dJ l,0)
theorem Wn {f:Aa} (h:Rp f=true):Tl f=24:=by
 unfold Rp at h
 unfold Tl at h ⊢
 revert h
 cases (Es f.Host && (Es f.Subject && (decide (0<=f.Machine) && decide (f.Machine<=1099511627776)))) && ((decide (0<=f.Day) && (decide (f.Day<=40000) && (decide (1<=f.Confidence) && decide (f.Confidence<=100)))) && (decide (1<=f.Source) && (decide (f.Source<=7) && dW f))) with
 | true=>intro h; cases h
 | false=>intro _; rfl
theorem aJ8 (l:List Aa) (h4:l.length<=400) (hf:∀ f∈l,Jz f):Ex l=some (Qv l):=by
 have hcap:=aBy
 obtain⟨r,hr1,hr2,hr3⟩:=Wu V7.swo aFm l (by unfold Kr; omega) (fun _ _=>trivial)
 have hrl:r.length=l.length:=hr2.length_eq
 obtain⟨c,hc1,rfl⟩:=Vf r (by omega)
 rw [uP V7 hr2 hr3] at hc1
 have hsl:=Xw dJ l
 unfold Ex Qv
 refine M2 l Rp (([]:List Aa),(24:Int)) (Sf dJ l,(0:Int)) (by unfold Lo; omega) (fun i x hx=>?_) ?_
 ·show Ex.l1 l (i:Int)=_
  unfold Ex.l1
  rw [Er hx,We (hf x (Dv hx)),aAc]
  cases hb:Rp x with
  | true=>
   have e1:(!decide (Tl x=0))=true:=hb
   rw [e1,Wn hb]; rfl
  | false=>
   have e1:(!decide (Tl x=0))=false:=hb
   rw [e1]; rfl
 ·show Ex.l1 l (l.length:Int)=_
  unfold Ex.l1
  rw [De,qR l (by omega),aAc,hr1,aAc,hc1,aAc,aBv (by omega)]
  rfl
theorem yN (l:List Aa) (h4:l.length<=400) (hf:∀ f∈l,Jz f):C6 l=some (Qv l):=by
 have l2:∀ (m p acc:List Aa),p ++ m=l->wF dJ acc->acc.length + m.length<=400->B2 (fun q'=>C6.l2 l q'.1 q'.2) ((p.length:Int),acc)=some (m.foldl (R4 dJ) acc,0):=by
  intro m
  induction m with
  | nil=>
   intro p acc hp hs hl
   have:l.length=p.length:=by rw [<- hp]; simp
   refine Eo (x:=some (acc,0)) ?_
   show C6.l2 l (p.length:Int) acc=_
   unfold C6.l2
   rw [aBv (by omega),aCv]
  | cons y m ih=>
   intro p acc hp hs hl
   rw [aLg] at hl
   have hy:l[p.length]?=some y:=by rw [<- hp]; simp
   have hlen:=Il hy
   have hq:=aT dJ y acc
   have e1:C6.l2 l (p.length:Int) acc=some (.next ((((p ++ [y]).length:Nat):Int),R4 dJ acc y)):=by
    unfold C6.l2
    rw [aBe (by omega),aDb,Dr,hy,aAc,aBq acc y (by omega) hs,aAc,aBv (by omega),aCv,Dz (by omega)]
    simp
   rw [Fi (body:=fun q'=>C6.l2 l q'.1 q'.2) e1,ih (p ++ [y]) _ (by simp [hp]) (Sg V7 hs) (by omega)]
   rfl
 unfold C6 Qv
 refine M2 l Rp (([]:List Aa),(24:Int)) (Sf dJ l,(0:Int)) (by unfold Lo; omega) (fun i x hx=>?_) ?_
 ·show C6.l1 l (i:Int)=_
  unfold C6.l1
  rw [Er hx,Za (hf x (Dv hx)),aAc]
  cases hb:Rp x with
  | true=>
   have e1:(!decide (Tl x=0))=true:=hb
   rw [e1,Wn hb]; rfl
  | false=>
   have e1:(!decide (Tl x=0))=false:=hb
   rw [e1]; rfl
 ·show C6.l1 l (l.length:Int)=_
  unfold C6.l1
  have:=l2 l [] [] rfl .nil (by simpa using h4)
  rw [show ((([]:List Aa).length:Nat):Int)=0 from rfl] at this
  rw [De,this]
  rfl
end
section
open Go
def Rw (l:List Aa):Prop:=∀ f∈l,Jz f/\Tl f=0
theorem Rw.fit {l:List Aa} (h:Rw l):∀ f∈l,Jz f:=fun f hf=>(h f hf).1
theorem Rw.norm {l:List Aa} (h:Rw l):Qv l=(Sf dJ l,0):=by
 have:l.any Rp=false:=by
  rw [<- aTb,aK8]
  rintro⟨f,hf,hb⟩
  unfold Rp at hb
  rw [(h f hf).2] at hb
  cases hb
 unfold Qv
 rw [this]; rfl
theorem Rw.app {a b:List Aa} (ha:Rw a) (hb:Rw b):Rw (a ++ b):=fun f hf=>by
 rcases aHz.1 hf with h | h
 ·exact ha f h
 ·exact hb f h
theorem Rw.sort {l:List Aa} (h:Rw l):Rw (Sf dJ l):=fun f hf=>h f ((X4 V7).1 hf)
theorem aCb {f:Aa} (h:FOK f):Jz f/\Tl f=0:=by
 refine⟨h.2,?_⟩
 have:=(We h.2).symm.trans h.1
 injection this
theorem Yq {d:Ab} (hd:Jw d) {n:Nat} (hn:n<=100):Ok (Fy d (n:Int)) (fun y=>(y.1.length<=n/\Rw y.1)/\Jw y.2):=by
 unfold Fy
 rw [Dz (by omega)]
 refine Ok.bind (Ej hd _ (by omega) (by omega)) fun y hy=>?_
 have hy1:=hy.1
 refine Ok.loop (fun s:Int×Ab×List Aa=>(0<=s.1/\s.1 + (s.2.2.length:Int)<=n)/\Jw s.2.1/\∀ f∈s.2.2,FOK f) (fun s=>s.1.toNat) ?_ ⟨⟨hy1.1,by show y.1 + ((([]:List Aa).length:Nat):Int)<=n; simp; omega⟩,hy.2,fun f hf=>by cases hf⟩
 rintro⟨i,d1,l⟩ ⟨⟨h1,h2⟩,h3,h4⟩
 dsimp only at h1 h2 h3 h4
 show Ok (Fy.l1 i d1 l) _
 unfold Fy.l1
 refine Ok.cond (fun hb=>?_) (fun hb=>?_)
 ·have hb:=aCm hb
  refine Ok.bind (Zn h3) fun y2 h5=>?_
  refine Ok.bind (Ho (by rw [aDc]; omega)) fun l' hl'=>?_
  subst hl'
  rw [Dz (by omega)]
  refine Ok.ret ⟨⟨⟨by show 0<=i - 1; omega,?_⟩,h5.2,fun f hf=>?_⟩,by show (i - 1).toNat < i.toNat; omega⟩
  ·show i - 1 + ((l ++ [y2.1]).length:Int)<=n
   rw [aDd,aDc]; omega
  ·rcases aHz.1 hf with hf | hf
   ·exact h4 f hf
   ·rw [aDi.1 hf]; exact h5.1
 ·have G:Rw l:=fun f hf=>aCb (h4 f hf)
  rw [yN l (by omega) G.fit,G.norm,aAc]
  have:=Xw dJ l
  exact Ok.up (Ok.ret ⟨⟨by show (Sf dJ l).length<=n; omega,G.sort⟩,h3⟩)
end
end Go.Proofs.YtbpchmikjiinpaaGreat
