/- Plain texts, joined. No program is in sight here. -/
import Derived.Test.YtobamahlipiakaaGreatX4
import Derived.Test.YtobamahlipiakaaGreatM2
import Derived.Test.YtobamahlipiakaaGreatCO
import Derived.Test.YtobamahlipiakaaGreatOW
import Derived.Test.YtobamahlipiakaaGreatT1
set_option linter.unusedVariables false
set_option linter.unusedSimpArgs false
namespace Go.Proofs.YtobamahlipiakaaGreat
section
open Go
structure SmX (n:Nat) (x:Ah):Prop where
 nam:x.Endpoint.size<=32
 len:x.Seals.length<=n
 alg:0<=x.Use.Alg/\x.Use.Alg<=100000
 bits:0<=x.Use.Bits/\x.Use.Bits<=100000
 pur:0<=x.Purpose/\x.Purpose<=100000
 frm:0<=x.Days.From/\x.Days.From<=100000
 to:0<=x.Days.To/\x.Days.To<=100000
theorem SmX.le {n m:Nat} {x:Ah} (h:SmX n x) (hm:n<=m):SmX m x:=⟨h.nam,aOt h.len hm,h.alg,h.bits,h.pur,h.frm,h.to⟩
theorem aJd (b x:Bool):cond b (some x) (some false)=some (b && x):=by cases b <;> rfl
def aDt (u:Ao) (p:Int) (e:ByteArray) (x:Ah):Bool:=decide (x.Use=u) && (decide (x.Purpose=p) && decide (x.Endpoint=e))
def yU (u:Ao) (p:Int) (e:ByteArray) (x:Ah) (day:Int):Bool:=aDt u p e x && (decide (x.Days.From<=day) && decide (day < x.Days.To))
theorem lL (u:Ao) (p:Int) (e:ByteArray) (x:Ah) (day:Int):I8 x u p e day=some (yU u p e x day):=by
 unfold I8 yU aDt
 simp only [aJd,Bool.and_assoc]
end
section
open Go
section
variable {l:List Ah} {o:Cc} {u:Ao} {p:Int} {e:ByteArray}
end
end
section
open Go
structure Qf (x:Ah):Prop where
 nam:x.Endpoint.size<=200
 len:x.Seals.length<=60
 alg:-9223372036854775808<=x.Use.Alg/\x.Use.Alg<=9223372036854775807
 bits:-9223372036854775808<=x.Use.Bits/\x.Use.Bits<=9223372036854775807
 pur:-9223372036854775808<=x.Purpose/\x.Purpose<=9223372036854775807
 frm:-9223372036854775808<=x.Days.From/\x.Days.From<=9223372036854775807
 to:-9223372036854775808<=x.Days.To/\x.Days.To<=9223372036854775807
theorem aBv (a b:Int):decide (a < b)=!decide (b<=a):=by
 by_cases h:a < b
 ·rw [aA4 h,aAw (by omega)]; rfl
 ·rw [aAw h,aA4 (by omega)]; rfl
def vJ (e:Be):Bool:=!(decide (0<=e.Key) && decide (e.Key<=2147483648)) || (!decide (0<=e.Sum) || decide (4294967296<=e.Sum))
def Uv (S:List Be) (i:Nat):Bool:=vJ (S.getD i ⟨0,0⟩) || (decide (0 < i) && decide ((S.getD i ⟨0,0⟩).Key<=(S.getD (i - 1) ⟨0,0⟩).Key))
def cW (x:Ah):Bool:=decide (0 < H8 x.Use) && (decide (1<=x.Purpose) && (decide (x.Purpose<=4) && (Ha x.Endpoint && (decide (0<=x.Days.From) && (!decide (x.Days.To<=x.Days.From) && (decide (x.Days.To<=40001) && decide ((x.Seals.length:Int)<=8)))))))
def N6 (x:Ah):Int:=bif cW x && !(List.range x.Seals.length).any (Uv x.Seals) then 0 else 26
theorem R1 {α:Type} {l:List α} {i:Nat} {x y:α} (h:l[i]?=some x):l.getD i y=x:=by
 rw [aR6,h]; rfl
theorem aQp (x:Ah) (hl:x.Seals.length<=1000):Bz (fun q'=>A7.l3 x q') 0=some (bif (List.range x.Seals.length).any (Uv x.Seals) then 26 else 0):=by
 have ej:∀ (i:Int) b,A7.j4 i b=some (bif b then .done 26 else .next (W (i + 1))):=fun i b=>by cases b <;> rfl
 refine V6 x.Seals.length (Uv x.Seals) (26:Int) (0:Int) (by omega) (fun i hi=>?_) ?_
 ·show A7.l3 x (i:Int)=_
  obtain⟨e,he⟩:∃ e,x.Seals[i]?=some e:=⟨_,aCv hi⟩
  unfold A7.l3
  have hk:Eg e.Key=some (decide (0<=e.Key) && decide (e.Key<=2147483648)):=by
   unfold Eg
   exact aJd _ _
  rw [Dz he,hk,aAg]
  unfold Uv vJ
  rw [R1 he]
  simp only [ej,aBv]
  cases i with
  | zero=>
   generalize (decide (0<=e.Key) && decide (e.Key<=2147483648))=a1
   generalize decide (0<=e.Sum)=a2
   generalize decide (4294967296<=e.Sum)=a3
   cases a1 <;> cases a2 <;> cases a3 <;> rfl
  | succ i=>
   obtain⟨q,hq⟩:∃ q,x.Seals[i]?=some q:=⟨_,aCv (by omega)⟩
   have e1:(!decide (((i + 1:Nat):Int)<=0))=true:=by rw [aAw (by omega)]; rfl
   have e2:decide (0 < i + 1)=true:=aA4 (by omega)
   rw [e1,e2,aEa,aP5,Nat.add_sub_cancel,R1 hq,Ej (x:=((i + 1:Nat):Int) - 1) (by omega),show ((i + 1:Nat):Int) - 1=(i:Int) by omega,Ef,hq,aAg]
   generalize (decide (0<=e.Key) && decide (e.Key<=2147483648))=a1
   generalize decide (0<=e.Sum)=a2
   generalize decide (4294967296<=e.Sum)=a3
   generalize decide (e.Key<=q.Key)=a4
   cases a1 <;> cases a2 <;> cases a3 <;> cases a4 <;> rfl
 ·show A7.l3 x (x.Seals.length:Int)=_
  unfold A7.l3
  rw [Cy]; rfl
theorem aRz (x:Ah) (hl:x.Seals.length<=1000):Bz (fun q'=>Ce.l2 x q') 0=some (bif (List.range x.Seals.length).any (Uv x.Seals) then 26 else 0):=by
 have ej:∀ (i:Int) b,Ce.j3 i b=some (bif b then .done 26 else .next (W (i + 1))):=fun i b=>by cases b <;> rfl
 refine V6 x.Seals.length (Uv x.Seals) (26:Int) (0:Int) (by omega) (fun i hi=>?_) ?_
 ·show Ce.l2 x (i:Int)=_
  obtain⟨e,he⟩:∃ e,x.Seals[i]?=some e:=⟨_,aCv hi⟩
  unfold Ce.l2
  rw [Dz he]
  unfold Uv vJ
  rw [R1 he]
  simp only [ej,aBv]
  cases i with
  | zero=>
   generalize decide (0<=e.Key)=a0
   generalize decide (e.Key<=2147483648)=a1
   generalize decide (0<=e.Sum)=a2
   generalize decide (4294967296<=e.Sum)=a3
   cases a0 <;> cases a1 <;> cases a2 <;> cases a3 <;> rfl
  | succ i=>
   obtain⟨q,hq⟩:∃ q,x.Seals[i]?=some q:=⟨_,aCv (by omega)⟩
   have e1:(!decide (((i + 1:Nat):Int)<=0))=true:=by rw [aAw (by omega)]; rfl
   have e2:decide (0 < i + 1)=true:=aA4 (by omega)
   rw [e1,e2,aEa,aP5,Nat.add_sub_cancel,R1 hq,Ej (x:=((i + 1:Nat):Int) - 1) (by omega),show ((i + 1:Nat):Int) - 1=(i:Int) by omega,Ef,hq,aAg]
   generalize decide (0<=e.Key)=a0
   generalize decide (e.Key<=2147483648)=a1
   generalize decide (0<=e.Sum)=a2
   generalize decide (4294967296<=e.Sum)=a3
   generalize decide (e.Key<=q.Key)=a4
   cases a0 <;> cases a1 <;> cases a2 <;> cases a3 <;> cases a4 <;> rfl
 ·show Ce.l2 x (x.Seals.length:Int)=_
  unfold Ce.l2
  rw [Cy]; rfl
theorem aCn (x:Ah):N6 x=bif !decide (H8 x.Use<=0) && (decide (1<=x.Purpose) && (decide (x.Purpose<=4) && (Ha x.Endpoint && (decide (0<=x.Days.From) && (!decide (x.Days.To<=x.Days.From) && (decide (x.Days.To<=40001) && decide ((x.Seals.length:Int)<=8))))))) && !(List.range x.Seals.length).any (Uv x.Seals) then 0 else 26:=by
 unfold N6 cW
 rw [aBv 0 (H8 x.Use)]
theorem pT {x:Ah} (h:Qf x):A7 x=some (N6 x):=by
 have hl:=h.len
 unfold A7 A7.j1 A7.j2
 simp only [Sw,S4 _ (show x.Endpoint.size<=9223372036854775807 by have:=h.nam; omega),aAg,aQp x (by omega),aBv]
 rw [aCn]
 generalize decide (H8 x.Use<=0)=b0
 generalize decide (1<=x.Purpose)=b1
 generalize decide (x.Purpose<=4)=b2
 generalize Ha x.Endpoint=b3
 generalize decide (0<=x.Days.From)=b4
 generalize decide (x.Days.To<=x.Days.From)=b5
 generalize decide (x.Days.To<=40001)=b6
 generalize decide ((x.Seals.length:Int)<=8)=b7
 generalize (List.range x.Seals.length).any (Uv x.Seals)=b8
 cases b0 <;> try rfl
 cases b1 <;> try rfl
 cases b2 <;> try rfl
 cases b3 <;> try rfl
 cases b4 <;> try rfl
 cases b5 <;> try rfl
 cases b6 <;> try rfl
 cases b7 <;> try rfl
 cases b8 <;> rfl
theorem aEw {x:Ah} (h:Qf x):Ce x=some (N6 x):=by
 have hl:=h.len
 unfold Ce Ce.j1
 simp only [V4,Za _ (show x.Endpoint.size<=9223372036854775807 by have:=h.nam; omega),aAg,aRz x (by omega),aBv]
 rw [aCn]
 generalize decide (H8 x.Use<=0)=b0
 generalize decide (1<=x.Purpose)=b1
 generalize decide (x.Purpose<=4)=b2
 generalize Ha x.Endpoint=b3
 generalize decide (0<=x.Days.From)=b4
 generalize decide (x.Days.To<=x.Days.From)=b5
 generalize decide (x.Days.To<=40001)=b6
 generalize decide ((x.Seals.length:Int)<=8)=b7
 generalize (List.range x.Seals.length).any (Uv x.Seals)=b8
 cases b0 <;> try rfl
 cases b1 <;> try rfl
 cases b2 <;> try rfl
 cases b3 <;> try rfl
 cases b4 <;> try rfl
 cases b5 <;> try rfl
 cases b6 <;> try rfl
 cases b7 <;> try rfl
 cases b8 <;> rfl
end
section
open Go
structure aQ8 (x:Ah):Prop where
 nam:x.Endpoint.size<=32
 len:x.Seals.length<=8
 key:∀ s∈x.Seals,0<=s.Key/\s.Key<=2147483648
 asc:Zn x.Seals
theorem bL {α:Type} {R:α->α->Prop} (htr:∀ a b c,R a b->R b c->R a c):∀ {l:List α},(∀ i,i + 1 < l.length->∀ a b,l[i]?=some a->l[i + 1]?=some b->R a b)->l.Pairwise R
 | [],_=>.nil
 | [a],_=>bA7 _ _
 | a :: b :: l,h=>by
  have ih:(b :: l).Pairwise R:=bL htr fun i hi x y hx hy=>h (i + 1) (by simpa using hi) x y (by simpa using hx) (by simpa using hy)
  have hab:R a b:=h 0 (by simp) a b rfl rfl
  refine aOn.2 ⟨fun z hz=>?_,ih⟩
  rcases aF2.1 hz with rfl | hz
  ·exact hab
  ·exact htr _ _ _ hab ((aOn.1 ih).1 z hz)
theorem Ss {x:Ah} (h:N6 x=0):aQ8 x:=by
 unfold N6 at h
 cases hp:cW x && !(List.range x.Seals.length).any (Uv x.Seals) with
 | false=>rw [hp] at h; cases h
 | true=>
  rw [aF1,aR1] at hp
  obtain⟨h1,h2⟩:=hp
  unfold cW at h1
  simp only [aF1] at h1
  have h3:∀ i,i < x.Seals.length->Uv x.Seals i=false:=fun i hi=>by
   have:=aR8.1 h2 i (aSn.2 hi)
   cases hb:Uv x.Seals i with
   | false=>rfl
   | true=>exact absurd hb this
  have h4:∀ i e,x.Seals[i]?=some e->vJ e=false/\(0 < i->∀ q,x.Seals[i - 1]?=some q->q.Key < e.Key):=fun i e he=>by
   have:=h3 i (G3 he)
   unfold Uv at this
   rw [R1 he,bAe] at this
   refine⟨this.1,fun hi q hq=>?_⟩
   have h5:=this.2
   rw [aA4 hi,aP5,R1 hq] at h5
   have:=aJb h5
   omega
  refine⟨?_,?_,fun s hs=>?_,?_⟩
  ·have:=h1.2.2.2.1
   unfold Ha at this
   simp only [aF1] at this
   have:=aEk this.1.2
   omega
  ·have:=aEk h1.2.2.2.2.2.2.2
   omega
  ·obtain⟨i,hi⟩:=List.getElem?_of_mem hs
   have:=(h4 i s hi).1
   unfold vJ at this
   rw [bAe] at this
   have:=this.1
   rw [bA8,aF1] at this
   exact⟨aEk this.1,aEk this.2⟩
  ·refine bL (R:=fun a b:Be=>a.Key < b.Key) (fun a b c h h'=>Int.lt_trans h h') fun i hi a b ha hb=>?_
   exact (h4 (i + 1) b hb).2 (by omega) a (by rw [Nat.add_sub_cancel]; exact ha)
theorem Wi (x:Ah):N6 x=0\/N6 x=26:=by
 unfold N6
 cases cW x && !(List.range x.Seals.length).any (Uv x.Seals)
 ·exact .inr rfl
 ·exact .inl rfl
def vN (x:Ah):List UInt8×Int:=if N6 x=0 then (Ik x,0) else ([],26)
theorem aOg {x:Ah} (h:Qf x):Hu x=some (vN x):=by
 unfold vN
 rcases Wi x with e | e
 ·rw [if_pos e]
  exact lD (by rw [pT h,e]) (Ss e).nam
 ·rw [if_neg (by rw [e]; decide)]
  unfold Hu
  rw [pT h,e]
  rfl
theorem aEf {x:Ah} (h:Qf x):Lz x=some (vN x):=by
 unfold vN Lz
 rw [aEw h,aAg]
 rcases Wi x with e | e
 ·rw [if_pos e,e]
  have hn:=(Ss e).nam
  have hs:=eD hn
  have hz:=T8 (Xj x)
  have h1:=h.alg
  have h2:=h.bits
  have h3:=h.pur
  have h4:=h.frm
  have h5:=h.to
  show (Cr x.Use.Alg).bind _=_
  rw [Jk _ (by omega) (by omega),aAg,Jk _ (by omega) (by omega),aAg,Jk _ (by omega) (by omega),aAg,show Ir x.Endpoint=some (Nf x.Endpoint) from rfl,aAg,Jk _ (by omega) (by omega),aAg,Jk _ (by omega) (by omega),aAg]
  show (H2 (Xj x)).bind _=_
  rw [Tr _ (by omega),aAg]
  show (H4 (R6 (Xj x))).bind _=_
  have he:H4 (R6 (Xj x))=some (Ik x,0):=by
   have:=xQ hn
   rw [Xl _ (by omega)] at this
   rw [Zo _ (by omega)]
   exact this
  rw [he]
  rfl
 ·rw [if_neg (by rw [e]; decide),e]
  rfl
theorem aBr (k:Int):∀ {S:List Be},Zn S->∃ A B,S=A ++ B/\(∀ a∈A,a.Key < k)/\(B=[]\/∃ b B',B=b :: B'/\k<=b.Key/\∀ c∈B',b.Key < c.Key)
 | [],_=>⟨[],[],rfl,fun a h=>(by cases h),.inl rfl⟩
 | s :: S,h=>by
  obtain⟨h1,h2⟩:=aOn.1 h
  by_cases hk:s.Key < k
  ·obtain⟨A,B,e,hA,hB⟩:=aBr k h2
   refine⟨s :: A,B,by rw [e]; rfl,fun a ha=>?_,hB⟩
   rcases aF2.1 ha with rfl | ha
   ·exact hk
   ·exact hA a ha
  ·exact⟨[],s :: S,rfl,fun a h=>(by cases h),.inr ⟨s,S,rfl,by omega,h1⟩⟩
def mB (k:Int) (B:List Be):List Be:=match B with | []=>[] | b :: B'=>if b.Key=k then B' else b :: B'
def iY:Ah:=⟨⟨0,0⟩,0,⟨#[]⟩,⟨0,0⟩,[]⟩
def Yl (S:List Be) (k sg:Int):List Be:=S.filter (fun s=>decide (s.Key < k)) ++ ⟨k,sg⟩ :: S.filter fun s=>decide (k < s.Key)
def bV (x:Ah) (k:Int):Ah×Int:=
 if N6 x=0 then if 0<=k/\k<=2147483648 then if (x.Seals.filter (kp k)).length=8 then (iY,3) else (⟨x.Use,x.Purpose,x.Endpoint,x.Days,Yl x.Seals k (Ih (Ik x))⟩,0) else (iY,2) else (iY,26)
theorem Tu {α:Type} {p:α->Bool} {l:List α} (h:∀ a∈l,p a=true):l.filter p=l:=List.filter_eq_self.2 h
theorem kZ {α:Type} {p:α->Bool} {l:List α} (h:∀ a∈l,p a=false):l.filter p=[]:=bA9.2 fun a ha hp=>by rw [h a ha] at hp; cases hp
theorem jS {S A B:List Be} {k:Int} (e:S=A ++ B) (hA:∀ a∈A,a.Key < k) (hB:B=[]\/∃ b B',B=b :: B'/\k<=b.Key/\∀ c∈B',b.Key < c.Key):S.filter (fun s=>decide (s.Key < k))=A/\S.filter (fun s=>decide (k < s.Key))=mB k B/\S.filter (kp k)=A ++ mB k B:=by
 subst e
 rw [aZr,aZr,aZr]
 have hA1:A.filter (fun s=>decide (s.Key < k))=A:=Tu fun a ha=>aA4 (hA a ha)
 have hA2:A.filter (fun s=>decide (k < s.Key))=[]:=kZ fun a ha=>aAw (by have:=hA a ha; omega)
 have hA3:A.filter (kp k)=A:=Tu fun a ha=>by unfold kp; rw [aAw (by have:=hA a ha; omega)]; rfl
 rw [hA1,hA2,hA3]
 rcases hB with rfl | ⟨b,B',rfl,hb,hB'⟩
 ·exact⟨aVv _,rfl,rfl⟩
 ·have hB1:(b :: B').filter (fun s=>decide (s.Key < k))=[]:=kZ fun a ha=>by
   refine aAw ?_
   rcases aF2.1 ha with rfl | ha
   ·omega
   ·have:=hB' a ha; omega
  have c1:B'.filter (fun s=>decide (k < s.Key))=B':=Tu fun a ha=>aA4 (by have:=hB' a ha; omega)
  have c2:B'.filter (kp k)=B':=Tu fun a ha=>by unfold kp; rw [aAw (by have:=hB' a ha; omega)]; rfl
  rw [hB1]
  unfold mB
  by_cases he:b.Key=k
  ·have k1:¬ (decide (k < b.Key)=true):=by rw [aAw (by omega)]; decide
   have k2:¬ (kp k b=true):=by unfold kp; rw [aA4 he]; decide
   rw [bAk (p:=fun s:Be=>decide (k < s.Key)) k1,bAk k2,c1,c2]
   dsimp only
   rw [if_pos he]
   exact⟨aVv _,rfl,rfl⟩
  ·have k1:decide (k < b.Key)=true:=aA4 (by omega)
   have k2:kp k b=true:=by unfold kp; rw [aAw he]; rfl
   rw [bAj (p:=fun s:Be=>decide (k < s.Key)) k1,bAj k2,c1,c2]
   dsimp only
   rw [if_neg he]
   exact⟨aVv _,rfl,rfl⟩
theorem aGu {S:List Be} (h:Zn S) (k sg:Int):Zn (Yl S k sg):=by
 unfold Yl
 refine aZy.2 ⟨h.sublist bBo,aOn.2 ⟨fun b hb=>?_,h.sublist bBo⟩,fun a ha b hb=>?_⟩
 ·exact aEk (aVk.1 hb).2
 ·have h1:=aEk (aVk.1 ha).2
  rcases aF2.1 hb with rfl | hb
  ·exact h1
  ·have h2:=aEk (aVk.1 hb).2
   omega
theorem aI2 {S:List Be} {k sg:Int} {s:Be}:s∈Yl S k sg↔s=⟨k,sg⟩\/s∈S.filter (kp k):=by
 unfold Yl kp
 simp only [aHs,aF2,aVk,aJc,aR1,aXr]
 constructor
 ·rintro (⟨h1,h2⟩ | h | ⟨h1,h2⟩)
  ·exact .inr ⟨h1,by omega⟩
  ·exact .inl h
  ·exact .inr ⟨h1,by omega⟩
 ·rintro (h | ⟨h1,h2⟩)
  ·exact .inr (.inl h)
  ·by_cases h3:s.Key < k
   ·exact .inl ⟨h1,h3⟩
   ·exact .inr (.inr ⟨h1,by omega⟩)
theorem aRb {x:Ah} (h:Qf x) (k:Int):B4 x k=some (bV x k):=by
 unfold B4 bV
 rw [aEf h,aAg]
 unfold vN
 rcases Wi x with e | e
 ·rw [if_pos e,if_pos e]
  have G:=Ss e
  have hlen:=G.len
  have hblen:=qF G.nam
  rw [aA4 rfl,aHl,aDb]
  by_cases hk:0<=k/\k<=2147483648
  ·rw [if_pos hk,aAw (by omega),aDb,aAw (by omega)]
   unfold B4.j1
   rw [aDb,dM (Ik x) (by unfold Lo; omega),aAg]
   obtain⟨A,B,hS,hA,hB⟩:=aBr k G.asc
   obtain⟨f1,f2,f3⟩:=jS hS hA hB
   have hAl:A.length + B.length<=8:=by rw [hS,aF3] at hlen; exact hlen
   refine Gs (body:=fun q'=>B4.l2 x k (Ih (Ik x)) q') A.length (fun i=>(i:Int)) _ (fun i hi=>?_) ?_
   ·show B4.l2 x k (Ih (Ik x)) (i:Int)=_
    unfold B4.l2
    obtain⟨a,ha⟩:∃ a,A[i]?=some a:=⟨_,aCv hi⟩
    have ha':x.Seals[i]?=some a:=by rw [hS,aNt hi,ha]
    rw [Dz ha',aA4 (hA a (aJz ha))]
    unfold B4.j3
    rw [aEa,Ej (by omega)]
    rfl
   ·show B4.l2 x k (Ih (Ik x)) (A.length:Int)=_
    have hSl:x.Seals.length=A.length + B.length:=by rw [hS,aF3]
    have hdrop:Zz x.Seals (A.length:Int) (x.Seals.length:Int)=some B:=by
     rw [aD7 (by omega),aMr,aMr,hS,bBs,aJ0 (by rw [aF3]; omega)]
    have htake:Zz x.Seals 0 (A.length:Int)=some A:=by
     rw [aD7 (by omega),hS]
     show some (((A ++ B).drop 0).take (A.length - 0))=_
     rw [bBe,Nat.sub_zero,List.take_left]
    have J5:∀ r:List Be,r.length<=8->r=mB k B->B4.j5 x k (Ih (Ik x)) (A.length:Int) r=some (if (x.Seals.filter (kp k)).length=8 then (iY,3) else (⟨x.Use,x.Purpose,x.Endpoint,x.Days,Yl x.Seals k (Ih (Ik x))⟩,0)):=fun r hr hrr=>by
     unfold B4.j5
     rw [htake,aAg]
     obtain⟨l4,e4,h4⟩:=Ky (k:=32) (l:=([]:List Be)) (m:=A) (by simp; omega)
     rw [e4,aAg]
     obtain⟨l5,e5,h5⟩:=Ky (k:=32) (l:=l4) (m:=[(⟨k,Ih (Ik x)⟩:Be)]) (by rw [h4]; simp; omega)
     rw [e5,aAg]
     obtain⟨l6,e6,h6⟩:=Ky (k:=32) (l:=l5) (m:=r) (by rw [h5,h4]; simp; omega)
     rw [e6,aAg]
     have e7:l6=Yl x.Seals k (Ih (Ik x)):=by
      unfold Yl
      rw [f1,f2,h6,h5,h4,hrr]
      simp
     have e8:l6.length=(x.Seals.filter (kp k)).length + 1:=by
      rw [f3,h6,h5,h4,hrr]
      simp
      omega
     have e9:(x.Seals.filter (kp k)).length<=x.Seals.length:=aUn _ _
     by_cases h8:(x.Seals.filter (kp k)).length=8
     ·rw [if_pos h8,aA4 (by omega)]; rfl
     ·rw [if_neg h8,aAw (by omega),aDb,e7]
    have J3:B4.j3 x k (Ih (Ik x)) (A.length:Int) false=some (.done (if (x.Seals.filter (kp k)).length=8 then (iY,3) else (⟨x.Use,x.Purpose,x.Endpoint,x.Days,Yl x.Seals k (Ih (Ik x))⟩,0))):=by
     unfold B4.j3
     rw [aDb,hdrop,aAg]
     rcases hB with rfl | ⟨b,B',rfl,hb,hB'⟩
     ·rw [aAw (by decide),aDb]
      unfold B4.j4
      rw [aDb,J5 [] (by decide) rfl]
      rfl
     ·rw [aA4 (by rw [aJw]; omega),aEa]
      show up ((Bm (b :: B') ((0:Nat):Int)).bind _)=_
      rw [Ef]
      show up (B4.j4 x k (Ih (Ik x)) (A.length:Int) (b :: B') (decide (b.Key=k)))=_
      unfold B4.j4
      rw [aJw] at hAl
      by_cases hbk:b.Key=k
      ·rw [aA4 hbk,aEa,aD7 (by rw [aJw]; omega),aAg]
       have:((b :: B').drop (1:Int).toNat).take (((b :: B').length:Int).toNat - (1:Int).toNat)=B':=by
        show B'.take (((b :: B').length:Int).toNat - 1)=B'
        rw [aJ0 (by rw [aJw]; omega)]
       rw [this,J5 B' (by omega) (by unfold mB; dsimp only; rw [if_pos hbk])]
       rfl
      ·rw [aAw hbk,aDb,J5 (b :: B') (by rw [aJw]; omega) (by unfold mB; dsimp only; rw [if_neg hbk])]
       rfl
    unfold B4.l2
    rcases hB with hB | ⟨b,B',hB,hb,hB'⟩
    ·rw [aAw (by rw [hSl,hB,bAt]; omega),aDb]
     exact J3
    ·have ha':x.Seals[A.length]?=some b:=by rw [hS,aOr (aJf _),hB,Nat.sub_self]; rfl
     rw [Dz ha',aAw (by omega)]
     exact J3
  ·rw [if_neg hk]
   have J1:B4.j1 x k (Ik x,0) true=some (iY,2):=rfl
   by_cases h0:k < 0
   ·rw [aA4 h0,aEa,J1]
   ·rw [aAw h0,aDb,aA4 (by omega),J1]
 ·rw [if_neg (by rw [e]; decide),if_neg (by rw [e]; decide)]
  rfl
def vaS (x:Ah) (o:Cc):Bool:=decide (N6 x=0) && (decide (1<=o.Need) && decide (o.Need<=((x.Seals.filter (vZ o (Ih (Ik x)))).length:Int)))
theorem aMf {x:Ah} (h:Qf x) {o:Cc} (ho:o.Keys.length<=1000):Bc x o=some (vaS x o):=by
 have hb:=aOg h
 unfold vN at hb
 unfold vaS
 rcases Wi x with e | e
 ·rw [if_pos e] at hb
  have G:=Ss e
  have hlen:=G.len
  rw [aA4 e,aP5]
  by_cases hn:1<=o.Need
  ·rw [aA4 hn,aP5]
   exact aDs (by rw [pT h,e]) G.nam hn ho (by omega) G.asc
  ·rw [aAw hn,aR5]
   unfold Bc
   rw [hb,aAg,aA4 rfl,aHl,aDb,aA4 (show o.Need < 1 by omega)]
   rfl
 ·rw [if_neg (by rw [e]; decide)] at hb
  rw [aAw (by rw [e]; decide),aR5]
  unfold Bc
  rw [hb]
  rfl
theorem aKh {x:Ah} (h:Qf x) {o:Cc} (ho:o.Keys.length<=1000):Cq x o=some (vaS x o):=by
 have hb:=aEf h
 unfold vN at hb
 unfold vaS Cq
 rcases Wi x with e | e
 ·rw [if_pos e] at hb
  have G:=Ss e
  have hlen:=G.len
  have hblen:=qF G.nam
  rw [aA4 (p:=N6 x=0) e,aP5,hb,aAg,aA4 rfl,aHl,aDb]
  by_cases hn:1<=o.Need
  ·rw [aA4 hn,aP5,aAw (by omega)]
   unfold Cq.j1
   rw [aDb]
   have key:∀ (m p:List Be),p ++ m=x.Seals->Bz (fun q'=>Cq.l2 x o (Ik x,0) q'.1 q'.2) (((p.filter (vZ o (Ih (Ik x)))).length:Int),(p.length:Int))=some (decide (o.Need<=((x.Seals.filter (vZ o (Ih (Ik x)))).length:Int))):=by
    intro m
    induction m with
    | nil=>
     intro p hp
     rw [aVv] at hp
     subst hp
     refine D4 ?_
     show Cq.l2 x o (Ik x,0) _ (x.Seals.length:Int)=_
     unfold Cq.l2
     rw [Cy]
    | cons s m ih=>
     intro p hp
     have hs:x.Seals[p.length]?=some s:=by rw [<- hp]; simp
     have hlt:=G3 hs
     have hfl:=aUn (vZ o (Ih (Ik x))) p
     have hnew:((p ++ [s]).filter (vZ o (Ih (Ik x)))).length=(p.filter (vZ o (Ih (Ik x)))).length + (bif vZ o (Ih (Ik x)) s then 1 else 0):=by
      rw [aZr,aF3]
      cases hq:vZ o (Ih (Ik x)) s with
      | true=>rw [bAj hq]; rfl
      | false=>rw [bAk (by rw [hq]; decide)]; rfl
     have e1:Cq.l2 x o (Ik x,0) ((p.filter (vZ o (Ih (Ik x)))).length:Int) (p.length:Int)=some (.next ((((p ++ [s]).filter (vZ o (Ih (Ik x)))).length:Int),((p ++ [s]).length:Int))):=by
      unfold Cq.l2
      rw [Dz hs]
      show (F7 (Ik x)).bind _=_
      rw [dM (Ik x) (by unfold Lo; omega),aAg,nL _ _ (by unfold Lo; omega),aAg,hnew,aF3,aF7]
      generalize (p.filter (vZ o (Ih (Ik x)))).length=n at hfl ⊢
      have hany:(o.Keys.any fun e=>decide (s.Key=e))=decide (s.Key∈o.Keys):=by
       rw [Bool.eq_iff_iff,aL5,aJc]
       constructor
       ·rintro⟨z,hz,hz2⟩
        rw [aEk hz2]; exact hz
       ·intro hz
        exact⟨_,hz,aA4 rfl⟩
      rw [hany]
      unfold vZ Cq.j3 Cq.j4
      rw [Ej (x:=(p.length:Int) + 1) (by omega)]
      cases decide (s.Sum=Ih (Ik x)) with
      | false=>rfl
      | true=>
       cases decide (s.Key∈o.Keys) with
       | false=>rfl
       | true=>
        rw [aEa,aEa,Bool.and_self,aEa,Ej (by omega)]
        rfl
     rw [E0 (body:=fun q'=>Cq.l2 x o (Ik x,0) q'.1 q'.2) e1,ih (p ++ [s]) (by simp [hp])]
   exact key x.Seals [] rfl
  ·rw [aAw hn,aR5,aA4 (show o.Need < 1 by omega)]
   rfl
 ·rw [if_neg (by rw [e]; decide)] at hb
  rw [aAw (p:=N6 x=0) (by rw [e]; decide),aR5,hb]
  rfl
theorem aHj (u:Ao) (p:Int) (e:ByteArray) (x:Ah) (day:Int):Om x u p e day=some (yU u p e x day):=lL u p e x day
end
section
open Go
theorem iH:Qf iY:=⟨by show (0:Nat)<=200; omega,by show (0:Nat)<=60; omega,by show _<=(0:Int)/\(0:Int)<=_; omega,by show _<=(0:Int)/\(0:Int)<=_; omega,by show _<=(0:Int)/\(0:Int)<=_; omega,by show _<=(0:Int)/\(0:Int)<=_; omega,by show _<=(0:Int)/\(0:Int)<=_; omega⟩
theorem aBa {x:Ah} (h:Qf x) (k:Int):Qf (bV x k).1:=by
 unfold bV
 by_cases e:N6 x=0
 ·rw [if_pos e]
  split
  ·split
   ·exact iH
   ·have hl:=(Ss e).len
    refine⟨h.nam,?_,h.alg,h.bits,h.pur,h.frm,h.to⟩
    show (Yl x.Seals k (Ih (Ik x))).length<=60
    unfold Yl
    have h1:=aUn (fun s:Be=>decide (s.Key < k)) x.Seals
    have h2:=aUn (fun s:Be=>decide (k < s.Key)) x.Seals
    rw [aF3,aJw]
    omega
  ·exact iH
 ·rw [if_neg e]
  exact iH
end
end Go.Proofs.YtobamahlipiakaaGreat
