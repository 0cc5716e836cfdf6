/- Plain texts, joined. No program is in sight here. -/
import Derived.Test.YtobamahlipiakaaGreatM2
import Derived.Test.YtobamahlipiakaaGreatD7
import Derived.Test.YtobamahlipiakaaGreatSO5api_Way
import Derived.Test.YtobamahlipiakaaGreatK4
set_option linter.unusedVariables false
set_option linter.unusedSimpArgs false
set_option maxRecDepth 100000
namespace Go.Proofs.YtobamahlipiakaaGreat
section
open Go
theorem rW {n:Nat} (h:n < 65536):(Wy n).length<=3:=by
 by_cases h1:n < 128
 ·rw [aMk h1]; simp
 ·by_cases h2:n < 256
  ·rw [aJ7 (by omega) h2]; simp
  ·rw [aK5 (by omega) h]; simp
mutual
theorem oQ:∀ v:Ab,v.sz < 16000->v.put.length<=4 * v.sz
 | .mk t b n es,h=>by
  rw [Ab.sz] at h ⊢
  have h1:=gJ es (by omega)
  rw [Ab.put]
  cases n
  ·have h2:=rW (n:=b.length) (by omega)
   simp; omega
  ·have h2:=rW (n:=(Gp es).length) (by omega)
   simp; omega
theorem gJ:∀ es:List Ab,Th es < 16000->(Gp es).length<=4 * Th es
 | [],_=>by simp [Gp]
 | v :: vs,h=>by
  rw [Th] at h ⊢
  have h1:=oQ v (by omega)
  have h2:=gJ vs (by omega)
  rw [Gp,aF3]; omega
end
theorem vC (n:Int):(Po n).formed=true:=by rw [N3]; rfl
theorem rA (s:ByteArray):(Nf s).formed=true:=by rw [N3]; rfl
theorem tS (l:List Ab):(R6 l).formed=Ks l:=by rw [N3]; rfl
theorem aAp (n:Int):(Po n).depth=1:=by rw [U4]; rfl
theorem vB (s:ByteArray):(Nf s).depth=1:=by rw [U4]; rfl
theorem wJ (l:List Ab):(R6 l).depth=Gr l + 1:=by rw [U4]; rfl
theorem aEn {v:Ab} (h1:v.formed=true) (h2:v.depth<=16) (h3:v.sz<=1024):qG v=(v.put,0):=by
 have:=oQ v (by omega)
 unfold qG
 rw [if_pos h1,if_neg (by omega),if_neg (by omega)]
def Xj (x:Ah):List Ab:=[Po x.Use.Alg,Po x.Use.Bits,Po x.Purpose,Nf x.Endpoint,Po x.Days.From,Po x.Days.To]
def Ik (x:Ah):List UInt8:=(R6 (Xj x)).put
theorem eD {x:Ah} (h:x.Endpoint.size<=32):Th (Xj x)<=100:=by
 have h1:=Ni x.Use.Alg
 have h2:=Ni x.Use.Bits
 have h3:=Ni x.Purpose
 have h4:=pB x.Endpoint
 have h5:=Ni x.Days.From
 have h6:=Ni x.Days.To
 unfold Xj
 simp only [Th]
 omega
theorem xQ {x:Ah} (h:x.Endpoint.size<=32):Jr (R6 (Xj x))=some (Ik x,0):=by
 have hs:=eD h
 have hz:=T8 (Xj x)
 rw [Xl _ (by omega),aEn ?_ ?_ (by omega)]
 ·rfl
 ·rw [tS]
  unfold Xj
  simp only [Ks,vC,rA,Bool.and_self]
 ·rw [wJ]
  unfold Xj
  simp only [Gr,aAp,vB]
  omega
theorem lD {x:Ah} (hc:A7 x=some 0) (h:x.Endpoint.size<=32):Hu x=some (Ik x,0):=by
 have hs:=eD h
 unfold Hu
 rw [hc,aAg,aA4 rfl,aHl,aDb,Rs,aAg,Rs,aAg,Rs,aAg,show Lh x.Endpoint=some (Nf x.Endpoint) from rfl,aAg,Rs,aAg,Rs,aAg]
 show ((Nd (Xj x)).bind _)=_
 rw [oM _ (by omega),aAg]
 show (Jr (R6 (Xj x))).bind _=_
 rw [xQ h]
 rfl
theorem qF {x:Ah} (h:x.Endpoint.size<=32):(Ik x).length<=1000:=by
 have hs:=eD h
 have hz:=T8 (Xj x)
 have:=oQ (R6 (Xj x)) (by omega)
 unfold Ik
 omega
end
section
open Go
theorem aD7 {α:Type} {l:List α} {a b:Int} (h:0<=a/\a<=b/\b<=l.length):Zz l a b=some ((l.drop a.toNat).take (b.toNat - a.toNat)):=if_pos h
def kp (k:Int) (e:Be):Bool:=!decide (e.Key=k)
def web:ByteArray:=⟨#[119,101,98]⟩
structure aJx (x:Ah):Prop where
 use:decide (0 < H8 x.Use)=true
 pur:x.Purpose=1
 nam:x.Endpoint=web
 day:x.Days.From=3/\3 < x.Days.To/\x.Days.To<=1000
def Zn (S:List Be):Prop:=S.Pairwise fun a b=>a.Key < b.Key
theorem aA0 {x:Ah} (h:aJx x) (hl:x.Seals.length<=8) (hs:∀ s∈x.Seals,(0<=s.Key/\s.Key<=1000)/\0<=s.Sum/\s.Sum < 4294967296) (ha:Zn x.Seals):A7 x=some 0:=by
 obtain⟨d1,d2,d3⟩:=h.day
 unfold A7
 rw [Sw,h.use,aAg,aHl,aDb,aAw (by rw [h.pur]; omega),aDb,aAw (by rw [h.pur]; omega),aDb,h.nam,S4 _ (by decide),aAg,show Ha web=true by decide +kernel,aHl]
 unfold A7.j1
 rw [aDb,aAw (by omega),aDb,aAw (by omega),aDb,aAw (by omega),aDb,aAw (by omega)]
 unfold A7.j2
 rw [aDb]
 refine (M7 x.Seals (fun _=>false) (26:Int) (0:Int) (by unfold Lo; omega) (fun i s hx=>?_) ?_).trans ?_
 ·show A7.l3 x (i:Int)=_
  obtain⟨⟨k1,k2⟩,s1,s2⟩:=hs s (Fr hx)
  have hi:=G3 hx
  unfold A7.l3
  have hk:Eg s.Key=some true:=by
   unfold Eg
   rw [aA4 k1,aEa,aA4 (by omega)]
  rw [Dz hx,hk,aAg,aHl,aDb,aAw (by omega),aDb,aAw (by omega),aDb]
  cases i with
  | zero=>rfl
  | succ i=>
   obtain⟨q,hq⟩:∃ q,x.Seals[i]?=some q:=⟨_,aCv (by omega)⟩
   have hlt:q.Key < s.Key:=by
    have h1:=aV6.1 ha i (i + 1) (by omega) hi (by omega)
    rw [aCv (by omega)] at hq hx
    injection hq with hq
    injection hx with hx
    rw [hq,hx] at h1
    exact h1
   rw [aA4 (by omega),aEa,Ej (by omega),show ((i + 1:Nat):Int) - 1=(i:Int) by omega,Ef,hq,aAg,aAw (by omega)]
   rfl
 ·show A7.l3 x (x.Seals.length:Int)=_
  unfold A7.l3
  rw [Cy]; rfl
 ·have:x.Seals.any (fun _=>false)=false:=by simp
  rw [this]; rfl
structure dV (sg:Int) (S:List Be):Prop where
 all:∀ s∈S,s.Sum=sg/\50<=s.Key/\s.Key<=54
 asc:Zn S
theorem dQ:∀ (S:List Be) (a b:Int),(∀ s∈S,a<=s.Key/\s.Key<=b)->Zn S->(S.length:Int)<=max 0 (b - a + 1)
 | [],a,b,_,_=>by simp; omega
 | s :: S,a,b,h,hp=>by
  have h1:=h s (aI4 ..)
  obtain⟨p1,p2⟩:=aOn.1 hp
  have:=dQ S (s.Key + 1) b (fun q hq=>⟨by have:=p1 q hq; omega,(h q (aHu _ hq)).2⟩) p2
  rw [aJw]
  omega
theorem dV.len {sg:Int} {S:List Be} (h:dV sg S):S.length<=5:=by
 have:=dQ S 50 54 (fun s hs=>(h.all s hs).2) h.asc
 omega
theorem dV.check {x:Ah} {b:List UInt8} (hx:aJx x) (h:dV (Ih b) x.Seals):A7 x=some 0:=by
 have:=h.len
 have hr:=Xz b
 refine aA0 hx (by omega) (fun s hs=>?_) h.asc
 obtain⟨q1,q2,q3⟩:=h.all s hs
 rw [q1]
 exact⟨by omega,hr⟩
end
section
open Go
theorem tX {κ ν:Type} [DecidableEq κ] {l:List (κ×ν)} {x:κ} {v:ν} (h:∀ p∈l,p.1≠x):Oc l x v=l ++ [(x,v)]:=by
 unfold Oc
 have:l.findIdx? (fun p=>decide (p.1=x))=none:=aYm.2 fun p hp=>aAw (h p hp)
 rw [this]
def okP (o:Cc) (sg:Int) (p:Int×Int):Bool:=decide (p.2=sg) && decide (p.1∈o.Keys)
def vZ (o:Cc) (sg:Int) (s:Be):Bool:=decide (s.Sum=sg) && decide (s.Key∈o.Keys)
theorem mF (o:Cc) (b:List UInt8) (e:Int) (hb:b.length<=1000) (ho:o.Keys.length<=1000):∀ (l:List (Int×Int)) (c:Nat),c + l.length<=1000->Z4 (fun p' q'=>Bc.l3 o (b,e) p' q') (fun q'=>Bc.e3 o q') l (c:Int)=some (decide (o.Need<=((c + (l.filter (okP o (Ih b))).length:Nat):Int)))
 | [],c,_=>rfl
 | p :: l,c,h=>by
  rw [aJw] at h
  have ih:=mF o b e hb ho l
  show ((Bc.l3 o (b,e) p (c:Int)).bind (R4 (Z4 _ _ l)))=_
  have step:Bc.l3 o (b,e) p (c:Int)=some (.next ((c + (bif okP o (Ih b) p then 1 else 0):Nat):Int)):=by
   unfold Bc.l3
   show ((D7 b).bind _)=_
   rw [xI b (by unfold Lo; omega),aAg,Mz _ _ (by omega),aAg]
   unfold okP Bc.j4
   cases decide (p.2=Ih b) with
   | false=>rfl
   | true=>
    cases decide (p.1∈o.Keys) with
    | false=>rfl
    | true=>
     show (some (Lp.next (W ((c:Int) + 1))):Option (Lp Int Bool))=_
     rw [Ej (by omega)]
     rfl
  rw [step,aAg]
  show Z4 _ _ l ((c + (bif okP o (Ih b) p then 1 else 0):Nat):Int)=_
  rw [ih _ (by cases okP o (Ih b) p <;> simp <;> omega)]
  cases hp:okP o (Ih b) p with
  | true=>
   rw [bAj hp,aJw]
   show some (decide (o.Need<=((c + 1 + _:Nat):Int)))=_
   rw [bBl,Nat.add_comm 1]
  | false=>rw [bAk (by rw [hp]; decide)]; rfl
theorem aDs {x:Ah} {o:Cc} (hc:A7 x=some 0) (hsz:x.Endpoint.size<=32) (hn:1<=o.Need) (hk:o.Keys.length<=1000) (hl:x.Seals.length<=100) (ha:Zn x.Seals):Bc x o=some (decide (o.Need<=((x.Seals.filter (vZ o (Ih (Ik x)))).length:Int))):=by
 unfold Bc
 have hblen:=qF hsz
 rw [lD hc hsz,aAg,aA4 rfl,aHl,aDb,aAw (by omega)]
 unfold Bc.j1
 rw [aDb]
 have key:∀ (m p:List Be),p ++ m=x.Seals->Bz (fun q'=>Bc.l2 x o (Ik x,0) q'.1 q'.2) ((p.length:Int),p.map fun s=>(s.Key,s.Sum))=some (decide (o.Need<=((x.Seals.filter (vZ o (Ih (Ik x)))).length:Int))):=by
  intro m
  induction m with
  | nil=>
   intro p hp
   rw [aVv] at hp
   subst hp
   refine D4 ?_
   show Bc.l2 x o (Ik x,0) (x.Seals.length:Int) _=_
   unfold Bc.l2
   rw [aAw (by omega),aDb]
   refine congrArg up (aBc fun l' hp'=>?_)
   have:=mF o (Ik x) 0 hblen hk l' 0 (by rw [hp'.length_eq,aYw]; omega)
   have e:(l'.filter (okP o (Ih (Ik x)))).length=(x.Seals.filter (vZ o (Ih (Ik x)))).length:=by
    rw [(hp'.filter _).length_eq,List.filter_map,aYw]
    rfl
   rw [aR3,e] at this
   exact this
  | cons s m ih=>
   intro p hp
   have hs:x.Seals[p.length]?=some s:=by rw [<- hp]; simp
   have hlt:=G3 hs
   have hnew:Oc (p.map fun s=>(s.Key,s.Sum)) s.Key s.Sum=(p ++ [s]).map fun s=>(s.Key,s.Sum):=by
    rw [tX,aXg]
    ·rfl
    ·intro q hq
     obtain⟨z,hz,rfl⟩:=aOq.1 hq
     have ha':=ha
     unfold Zn at ha'
     rw [<- hp] at ha'
     have:=(aZy.1 ha').2.2 z hz s (aI4 ..)
     show z.Key≠s.Key
     omega
   have e1:Bc.l2 x o (Ik x,0) (p.length:Int) (p.map fun s=>(s.Key,s.Sum))=some (.next ((((p ++ [s]).length:Nat):Int),(p ++ [s]).map fun s=>(s.Key,s.Sum))):=by
    unfold Bc.l2
    rw [aA4 (by omega),aEa,Ef,hs,aAg,hnew,Ej (by omega)]
    simp
   rw [E0 (body:=fun q'=>Bc.l2 x o (Ik x,0) q'.1 q'.2) e1,ih (p ++ [s]) (by simp [hp])]
 exact key x.Seals [] rfl
end
section
open Go
theorem fQ {t:List Int} (h:t.length<=400):Ok (K8 t) L5:=Ok.ret ⟨by unfold Lo; show t.length < _; omega,aXi _,by show (0:Int)<=(t.length:Int); omega⟩
end
end Go.Proofs.YtobamahlipiakaaGreat
