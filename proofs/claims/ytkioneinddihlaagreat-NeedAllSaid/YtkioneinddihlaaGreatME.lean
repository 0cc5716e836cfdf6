import Derived.Test.YtkioneinddihlaaGreatES
import Derived.Test.YtkioneinddihlaaGreatM2
set_option autoImplicit false
set_option linter.unusedVariables false
set_option linter.unusedSimpArgs false
namespace Go.Proofs.YtkioneinddihlaaGreat
open Go
theorem S2 (n:Int):Ok (Hw n) (fun _=>True):=by
 unfold Hw
 refine Ok.bind (Ve n) fun y _=>Ok.cond (fun _=>Ok.ret trivial) fun _=>?_
 rw [T4,aAc]
 exact Ok.ret trivial
theorem tX {l:List Int} (hl:l.length<=1000):Ok (Dp l) (fun r=>r.Perm l):=by
 unfold Dp
 refine Ok.loop (fun s:Int×List Int=>∃ i:Nat,s.1=(i:Int)/\i<=l.length/\s.2.Perm (l.take i)) (fun s=>l.length - s.1.toNat) ?_ ⟨0,rfl,aFf _,by simp⟩
 rintro⟨_,out⟩ ⟨i,rfl,hi,hp⟩
 dsimp only at hp
 have hol:out.length=i:=by have:=hp.length_eq; rw [aGn] at this; omega
 show Ok (Dp.l1 l (i:Int) out) _
 unfold Dp.l1
 refine Ok.cond (fun hb=>?_) fun hb=>?_
 ·have hil:i < l.length:=by have:=aCe hb; omega
  obtain⟨x,hx⟩:∃ x,l[i]?=some x:=⟨_,aAy hil⟩
  refine Ok.loop (fun k:Int=>0<=k/\k<=(out.length:Int)) (fun k=>k.toNat) ?_ ⟨by omega,by omega⟩
  rintro k ⟨hk1,hk2⟩
  show Ok (Dp.l2 l (i:Int) out k) _
  generalize hT:(S6 (fun s':Int=>(0<=s'/\s'<=(out.length:Int))/\s'.toNat < k.toNat) (S6 (fun s':Int×List Int=>(∃ i:Nat,s'.1=(i:Int)/\i<=l.length/\s'.2.Perm (l.take i))/\l.length - s'.1.toNat < l.length - ((i:Nat):Int).toNat) (fun r:List Int=>r.Perm l)))=T
  have J:∀ b,(b=true->0 < k)->Ok (Dp.j3 l (i:Int) out k b) T:=by
   intro b hb
   unfold Dp.j3
   rw [<- hT]
   refine Ok.cond (fun h=>?_) fun _=>?_
   ·have:=hb h
    rw [Db (by omega)]
    exact Ok.ret ⟨by omega,by omega⟩
   ·refine Ok.up ?_
    refine Ok.bind (Ro (by omega)) fun _ _=>?_
    have ht:(out.drop (0:Int).toNat).take (k.toNat - (0:Int).toNat)=out.take k.toNat:=by simp
    have hd:(out.drop k.toNat).take ((out.length:Int).toNat - k.toNat)=out.drop k.toNat:=by
     rw [aHx]; rw [aH1]; omega
    rw [ht,hd]
    refine Ok.bind (E6 (by simp; omega)) fun l3 h3=>?_
    subst h3
    rw [Cr,hx,aAc]
    refine Ok.bind (E6 (by simp; omega)) fun l4 h4=>?_
    subst h4
    refine Ok.bind (Ro (by omega)) fun _ _=>?_
    refine Ok.bind (E6 (by simp; omega)) fun l6 h6=>?_
    subst h6
    rw [Db (by omega)]
    refine Ok.ret ⟨⟨i + 1,by show (i:Int) + 1=_; omega,hil,?_⟩,by show l.length - ((i:Int) + 1).toNat < l.length - ((i:Nat):Int).toNat; omega⟩
    show ([] ++ out.take k.toNat ++ [x] ++ out.drop k.toNat).Perm _
    rw [Hf hx,aOl,aJb]
    refine List.Perm.trans ?_ (hp.append_right [x])
    refine List.Perm.trans (List.Perm.append_left _ List.perm_append_comm) ?_
    rw [<- aJb,aNv]
  unfold Dp.l2
  refine Ok.cond (fun hk=>?_) fun hk=>J false fun h=>by cases h
  have hk:=aCe hk
  rw [Db (by omega)]
  refine Ok.bind (Gr (by omega) (by omega)) fun e _=>?_
  refine Ok.bind (S2 e) fun y _=>?_
  rw [Cr,hx,aAc]
  exact Ok.bind (S2 x) fun y2 _=>J _ fun _=>hk
 ·have hil:i=l.length:=by have:=aDs hb; omega
  subst hil
  rw [aKf] at hp
  exact Ok.up (Ok.ret hp)
theorem cR {l:List Int} (h:l.Nodup) (hr:∀ x∈l,yN x) (i:Nat):nG l i:=fun x hx=>by
 refine⟨hr x (Eg hx),fun hm=>?_⟩
 obtain⟨j,hj,he⟩:=List.mem_take_iff_getElem.1 hm
 rw [List.nodup_iff_pairwise_ne,aOi] at h
 have hi:=I9 hx
 have:=h j i (by omega) hi (by omega)
 rw [aAy hi] at hx
 exact this (by rw [he]; exact (oi_ hx).symm)
theorem nQ {d:Ab} (h:Hj d):Ok (Ec d) (fun y=>(y.1.length<=10/\∀ i,nG y.1 i)/\Hj y.2):=by
 unfold Ec
 refine Ok.bind (D4 h 9 (by omega) (by omega)) fun y hy=>?_
 have hy1:=hy.1
 rw [Db (x:=2 + y.1) (by omega)]
 refine Ok.loop (fun s:Int×Ab×List Int=>(0<=s.1/\(s.2.2.length:Int) + s.1<=10)/\Hj s.2.1/\s.2.2.Nodup/\∀ x∈s.2.2,yN x) (fun s=>s.1.toNat) ?_ ⟨⟨by show 0<=2 + y.1; omega,by show (0:Int) + (2 + y.1)<=10; omega⟩,hy.2,List.nodup_nil,fun x hx=>by cases hx⟩
 rintro⟨i,d,l⟩ ⟨⟨h1,h2⟩,hd,hn,hr⟩
 dsimp only at h1 h2 hd hn hr
 show Ok (Ec.l1 i d l) _
 unfold Ec.l1
 refine Ok.cond (fun hb=>?_) fun hb=>?_
 ·have hb:=aCe hb
  refine Ok.bind (D4 hd 16 (by omega) (by omega)) fun z hz=>?_
  have hz1:=hz.1
  rw [Db (x:=1 + z.1) (by omega),Yi _ _ (by unfold Lo; omega),aAc]
  refine Ok.cond (fun hc=>?_) fun hc=>?_
  ·refine Ok.bind (E6 (by simp; omega)) fun l' hl'=>?_
   subst hl'
   unfold Ec.j2
   rw [Db (by omega)]
   have hni:(1 + z.1)∉l:=by simpa using hc
   refine Ok.ret ⟨⟨⟨by show 0<=i - 1; omega,?_⟩,hz.2,?_,fun x hx=>?_⟩,by show (i - 1).toNat < i.toNat; omega⟩
   ·show (((l ++ [1 + z.1]).length:Nat):Int) + (i - 1)<=10
    rw [aEq,aF2]; omega
   ·show (l ++ [1 + z.1]).Nodup
    rw [List.nodup_append]
    exact⟨hn,by simp,fun a ha b hb e=>by rw [aEp] at hb; subst hb; subst e; exact hni ha⟩
   ·rcases aH5.1 hx with hx | hx
    ·exact hr x hx
    ·rw [aEp] at hx
     subst hx
     exact⟨by omega,by omega⟩
  ·unfold Ec.j2
   rw [Db (by omega)]
   exact Ok.ret ⟨⟨⟨by show 0<=i - 1; omega,by show (l.length:Int) + (i - 1)<=10; omega⟩,hz.2,hn,hr⟩,by show (i - 1).toNat < i.toNat; omega⟩
 ·refine Ok.up ?_
  refine Ok.bind (O7 hd 4 (by omega) (by omega)) fun z hz=>?_
  refine Ok.cond (fun _=>?_) fun _=>Ok.ret ⟨⟨by show l.length<=10; omega,cR hn hr⟩,hz⟩
  refine Ok.bind (tX (by omega)) fun r hp=>Ok.ret ⟨⟨by show r.length<=10; have:=hp.length_eq; omega,cR (hp.nodup_iff.2 hn) fun x hx=>hr x (hp.mem_iff.1 hx)⟩,hz⟩
structure IdM (x:A4):Prop where
 key:Xp x.Key
 id:0<=x.KeyId/\x.KeyId<=1000
 len:x.Chain.length<=3
 chain:∀ c∈x.Chain,Ge c=true/\Px c
 head:U3 x.Key x.KeyId x.Chain=true
def aGy:List (List Int):=[[1,2],[1,2],[1],[2,11],[]]
def aGc:List (List Int):=[[1,2,3,4],[2,3,4],[3,4]]
structure EpM (name:ByteArray) (e:Al):Prop where
 name:e.Name=name
 least:1<=e.Least
 most:e.Least<=e.Most
 most4:e.Most<=4
 sn:e.Suites.length<=10
 suites:∀ i,nG e.Suites i
 idn:e.Identities.length<=3
 ids:∀ x∈e.Identities,IdM x
 anchors:e.Anchors∈aGy
 hashes:e.Hashes∈aGc
theorem EpM.fit {name:ByteArray} (hn:name.size<=32) {e:Al} (h:EpM name e):iL e:=by
 have h1:=h.sn
 have h2:=h.idn
 refine⟨by rw [h.name]; omega,by unfold Lo; omega,by unfold Lo; omega,?_,?_,fun x hx c hc=>((h.ids x hx).chain c hc).2.w⟩
 ·have:=h.anchors
  unfold aGy at this
  simp only [aE7,aHp,aLl] at this
  rcases this with e | e | e | e | e <;> rw [e] <;> (unfold Lo; decide)
 ·have:=h.hashes
  unfold aGc at this
  simp only [aE7,aHp,aLl] at this
  rcases this with e | e | e <;> rw [e] <;> (unfold Lo; decide)
theorem nO {n:Int} (h:0<=n/\n<=100000):Sm n:=h
theorem qO {d:Ab} (h:Hj d) {a:Int} (ha:a∈([5,7]:List Int)):Ok (Cy d a) (fun y=>Xp ⟨a,y.1⟩/\Hj y.2):=by
 have h5:∀ b∈([2048,1024,512,3072,1023,4096,16384]:List Int),Xp ⟨5,b⟩:=fun b hb=>⟨⟨nO ⟨by show (0:Int)<=5; omega,by show (5:Int)<=100000; omega⟩,Wz (by decide) hb⟩,Zn (by decide +kernel) hb⟩
 have h7:∀ b∈([256,160,224,384,521]:List Int),Xp ⟨7,b⟩:=fun b hb=>⟨⟨nO ⟨by show (0:Int)<=7; omega,by show (7:Int)<=100000; omega⟩,Wz (by decide) hb⟩,Zn (by decide +kernel) hb⟩
 simp only [aE7,aHp,aLl] at ha
 rcases ha with rfl | rfl
 ·unfold Cy
  exact Ok.bind (Ks h _ (by decide) (by decide)) fun y hy=>Ok.ret ⟨h5 _ hy.1,hy.2⟩
 ·unfold Cy
  exact Ok.bind (Ks h _ (by decide) (by decide)) fun y hy=>Ok.ret ⟨h7 _ hy.1,hy.2⟩
theorem Um {d:Ab} (h:Hj d):Hj (Ab.mk d.L d.At):=h
theorem gK {d:Ab} (h:Hj d) {name:ByteArray} (hn:Fm name=true) (hn31:name.size<=31):Ok (B8 d name) (fun y=>EpM name y.1/\Hj y.2):=by
 unfold B8
 refine Ok.bind (Ks h _ (by decide) (by decide)) fun y hy=>?_
 have b1:1<=y.1/\y.1<=3:=by
  have:=hy.1
  simp only [aE7,aHp,aLl] at this
  omega
 refine Ok.bind (nQ hy.2) fun y2 h2=>?_
 refine Ok.bind (O7 h2.2 2 (by omega) (by omega)) fun y3 h3=>?_
 refine Ok.bind (O7 h3 2 (by omega) (by omega)) fun y4 h4=>?_
 rw [Db (x:=5 - y.1) (by omega)]
 refine Ok.bind (D4 h4 (5 - y.1) (by omega) (by omega)) fun y5 h5=>?_
 have b5:=h5.1
 refine Ok.bind (D4 h5.2 3 (by omega) (by omega)) fun y6 h6=>?_
 have J:∀ (d:Ab) (a b:Int),Hj d->1<=a->a<=b->b<=4->Ok (B8.j1 name y2 y3 y4 d.L d.At a b) (fun y=>EpM name y.1/\Hj y.2):=by
  intro d a b hd ha hab hb
  unfold B8.j1
  refine Ok.bind (Ks (Um hd) _ (by decide) (by decide)) fun y8 h8=>?_
  have b8:0<=y8.1/\y8.1<=3:=by
   have:=h8.1
   simp only [aE7,aHp,aLl] at this
   omega
  refine Ok.loop (fun s:Int×List Int×Int×List A4=>0<=s.1/\s.1 + (s.2.2.2.length:Int)<=3/\Hj (Ab.mk s.2.1 s.2.2.1)/\∀ x∈s.2.2.2,IdM x) (fun s=>s.1.toNat) ?_ ⟨b8.1,by show y8.1 + ((([]:List A4).length:Nat):Int)<=3; simp; omega,Um h8.2,fun x hx=>by cases hx⟩
  rintro⟨i,dl,da,l⟩ ⟨k1,k2,kd,kl⟩
  dsimp only at k1 k2 kd kl
  show Ok (B8.l2 name y2 y3 y4 a b i dl da l) _
  unfold B8.l2
  refine Ok.cond (fun hb=>?_) fun hb=>?_
  ·have hb:=aCe hb
   refine Ok.bind (yV kd) fun y9 h9=>?_
   refine Ok.bind (D4 h9.2 3 (by omega) (by omega)) fun y10 h10=>?_
   generalize hT:(S6 (fun s':Int×List Int×Int×List A4=>(0<=s'.1/\s'.1 + (s'.2.2.2.length:Int)<=3/\Hj (Ab.mk s'.2.1 s'.2.2.1)/\∀ x∈s'.2.2.2,IdM x)/\s'.1.toNat < i.toNat) (fun y:Al×Ab=>EpM name y.1/\Hj y.2))=T
   have K:∀ (d:Ab) (u v:Int),Hj d->Xp ⟨u,v⟩->Ok (B8.j3 name i l d.L d.At u v) T:=by
    intro d u v hd hk
    unfold B8.j3
    refine Ok.bind (D4 (Um hd) 20 (by omega) (by omega)) fun y13 h13=>?_
    have b13:=h13.1
    refine Ok.bind (O7 h13.2 9 (by omega) (by omega)) fun y14 h14=>?_
    rw [Db (x:=100 + y13.1) (by omega)]
    have L:∀ (dl:List Int) (da:Int) (ch:List Ah),Hj (Ab.mk dl da)->IdM ⟨⟨u,v⟩,100 + y13.1,ch⟩->Ok (B8.j4 i l u v y13 dl da ch) T:=by
     intro dl da ch hd hi
     unfold B8.j4
     refine Ok.bind (E6 (by simp; omega)) fun l' hl'=>?_
     subst hl'
     rw [<- hT,Db (x:=i - 1) (by omega),Db (x:=100 + y13.1) (by omega)]
     refine Ok.ret ⟨⟨by show 0<=i - 1; omega,?_,hd,fun x hx=>?_⟩,by show (i - 1).toNat < i.toNat; omega⟩
     ·show i - 1 + (((l ++ [A4.mk (Av.mk u v) (100 + y13.1) ch]).length:Nat):Int)<=3
      rw [aEq,aF2]; omega
     ·rcases aH5.1 hx with hx | hx
      ·exact kl x hx
      ·rw [aEp] at hx
       subst hx
       exact hi
    refine Ok.cond (fun _=>?_) fun _=>L _ _ _ (Um h14) ⟨hk,⟨by show 0<=100 + y13.1; omega,by show 100 + y13.1<=1000; omega⟩,aFf _,fun c hc=>(by cases hc),rfl⟩
    refine Ok.bind (oS h14 hn hn31 hk (by omega)) fun y15 h15=>?_
    exact L _ _ _ (Um h15.2) ⟨hk,⟨by show 0<=100 + y13.1; omega,by show 100 + y13.1<=1000; omega⟩,h15.1.1,h15.1.2.1,h15.1.2.2⟩
   refine Ok.cond (fun _=>?_) fun _=>K _ _ _ h10.2 h9.1
   refine Ok.bind (Ks h10.2 _ (by decide) (by decide)) fun y11 h11=>?_
   refine Ok.bind (qO h11.2 h11.1) fun y12 h12=>?_
   exact K _ _ _ h12.2 h12.1
  ·refine Ok.up ?_
   refine Ok.bind (D4 kd 5 (by omega) (by omega)) fun y16 h16=>?_
   refine Ok.bind (Gr h16.1.1 (by show y16.1 < (5:Int); exact h16.1.2)) fun e he=>?_
   refine Ok.bind (D4 h16.2 3 (by omega) (by omega)) fun y17 h17=>?_
   refine Ok.bind (Gr h17.1.1 (by show y17.1 < (3:Int); exact h17.1.2)) fun e2 he2=>?_
   exact Ok.ret ⟨⟨rfl,ha,hab,by assumption,h2.1.1,h2.1.2,by show l.length<=3; omega,kl,he,he2⟩,h17.2⟩
 refine Ok.cond (fun _=>?_) fun _=>?_
 ·refine Ok.bind (Ks h6.2 _ (by decide) (by decide)) fun y7 h7=>?_
  have b7:2<=y7.1/\y7.1<=4:=by
   have:=h7.1
   simp only [aE7,aHp,aLl] at this
   omega
  exact J _ _ _ h7.2 (by omega) (by omega) (by omega)
 ·rw [Db (x:=y.1 + y5.1) (by omega)]
  exact J _ _ _ h6.2 (by omega) (by omega) (by omega)
theorem LkV.snoc {l:List Dy} {a:Dy} (h:∀ i,LkV l i) (hr:0 < Q1 a.Use/\0<=a.Day/\a.Day<=40000) (hd:∀ b∈l,b.Day < a.Day) (i:Nat):LkV (l ++ [a]) i:=by
 refine⟨fun x y h0 hx hy=>?_,fun b hb=>?_⟩
 ·have hi:=I9 hy
  rw [aEq,aF2] at hi
  rw [aFm (by omega)] at hx
  by_cases hl:i < l.length
  ·rw [aFm hl] at hy
   exact (h i).1 x y h0 hx hy
  ·rw [aF4 (by omega),show i - l.length=0 by omega] at hy
   cases hy
   exact hd x (Eg hx)
 ·by_cases hl:i < l.length
  ·rw [aFm hl] at hb
   exact (h i).2 b hb
  ·rw [aF4 (by omega)] at hb
   have:=aG3 hb
   rw [aEp] at this
   subst this
   exact hr
structure ItM (x:Bp):Prop where
 ok:wW x
 fit:lT x
theorem iV {d:Ab} (h:Hj d) {name:ByteArray} (hn:Fm name=true):Ok (G6 d name) (fun y=>ItM y.1/\Hj y.2):=by
 have hns:=L7 hn
 unfold G6
 refine Ok.bind (D4 h 2 (by omega) (by omega)) fun y1 h1=>?_
 refine Ok.bind (D4 h1.2 4 (by omega) (by omega)) fun y2 h2=>?_
 refine Ok.bind (D4 h2.2 20 (by omega) (by omega)) fun y3 h3=>?_
 refine Ok.bind (D4 h3.2 3 (by omega) (by omega)) fun y4 h4=>?_
 have b1:=h1.1
 have b2:=h2.1
 have b3:=h3.1
 have b4:=h4.1
 rw [Db (x:=1 + y4.1) (by omega)]
 refine Ok.loop (fun s:Int×Int×Ab×List Dy=>0<=s.2.1/\s.2.1 + (s.2.2.2.length:Int)=1 + y4.1/\Hj s.2.2.1/\(0<=s.1/\s.1<=20 + 101 * (s.2.2.2.length:Int))/\(∀ i,LkV s.2.2.2 i)/\∀ b∈s.2.2.2,b.Day < s.1/\b.Day<=1000) (fun s=>s.2.1.toNat) ?_ ⟨by show 0<=1 + y4.1; omega,by show 1 + y4.1 + ((([]:List Dy).length:Nat):Int)=_; simp,h4.2,⟨b3.1,by show y3.1<=20 + 101 * ((([]:List Dy).length:Nat):Int); simp; omega⟩,fun i=>⟨fun x y _ hx=>(by cases hx),fun a ha=>(by cases ha)⟩,fun b hb=>(by cases hb)⟩
 rintro⟨day,i,d1,l⟩ ⟨a1,a2,a3,a4,a5,a6⟩
 dsimp only at a1 a2 a3 a4 a5 a6
 show Ok (G6.l1 name y1 y2 day i d1 l) _
 unfold G6.l1
 refine Ok.cond (fun hb=>?_) fun hb=>?_
 ·have hb:=aCe hb
  refine Ok.bind (D4 a3 6 (by omega) (by omega)) fun y5 h5=>?_
  have b5:=h5.1
  refine Ok.bind (Gr (by omega) (by show y5.1 < (6:Int); omega)) fun e he=>?_
  refine Ok.bind (E6 (by rw [aF2]; omega)) fun l' hl'=>?_
  subst hl'
  refine Ok.bind (Ks h5.2 _ (by decide) (by decide)) fun y6 h6=>?_
  have b6:0<=y6.1/\y6.1<=100:=by
   have:=h6.1
   simp only [aE7,aHp,aLl] at this
   omega
  have he0:0 < Q1 e:=by
   simp only [aE7,aHp,aLl] at he
   rcases he with rfl | rfl | rfl | rfl | rfl | rfl <;> decide +kernel
  rw [Db (x:=day + 1) (by omega),Db (x:=day + 1 + y6.1) (by omega),Db (x:=i - 1) (by omega)]
  refine Ok.ret ⟨⟨by show 0<=i - 1; omega,?_,h6.2,⟨by show 0<=day + 1 + y6.1; omega,?_⟩,LkV.snoc a5 ⟨he0,by show 0<=day; omega,by show day<=40000; omega⟩ fun b hb=>(a6 b hb).1,fun b hb=>?_⟩,by show (i - 1).toNat < i.toNat; omega⟩
  ·show i - 1 + ((l ++ [Dy.mk e day]).length:Int)=1 + y4.1
   rw [aEq,aF2]; omega
  ·show day + 1 + y6.1<=20 + 101 * ((l ++ [Dy.mk e day]).length:Int)
   rw [aEq,aF2]; omega
  ·show b.Day < day + 1 + y6.1/\_
   rcases aH5.1 hb with hb | hb
   ·have:=a6 b hb
    omega
   ·rw [aEp] at hb
    subst hb
    show day < day + 1 + y6.1/\day<=1000
    omega
 ·have hb:=aDs hb
  have hl1:1<=l.length:=by omega
  obtain⟨a,ha⟩:∃ a,l[0]?=some a:=⟨_,aAy (by omega)⟩
  refine Ok.up ?_
  rw [kG,ha,aAc]
  refine Ok.bind (Ks a3 _ (by decide) (by decide)) fun y7 h7=>?_
  have b7:0<=y7.1/\y7.1<=3000:=by
   have:=h7.1
   simp only [aE7,aHp,aLl] at this
   omega
  have hd:=a6 a (Eg ha)
  have hd0:=((a5 0).2 a ha).2
  rw [Db (x:=1 + y1.1) (by omega),Db (x:=1 + y2.1) (by omega),Db (x:=a.Day + y7.1) (by omega)]
  refine Ok.ret ⟨⟨⟨hn,by show 1 + y1.1=1\/1 + y1.1=2; omega,by show 1<=1 + y2.1/\1 + y2.1<=4; omega,by show 1<=l.length/\l.length<=8; omega,fun i=>(a5 i).1,fun b hb=>?_,fun b hb=>?_,by show a.Day + y7.1<=40000; omega,fun b hb=>?_⟩,⟨by show name.size<=_; omega,by show l.length < _; omega⟩⟩,h7.2⟩
  ·obtain⟨j,hj⟩:=aOn.1 hb
   exact ((a5 j).2 b hj).1
  ·obtain⟨j,hj⟩:=aOn.1 hb
   exact ((a5 j).2 b hj).2
  ·have hb:l[0]?=some b:=hb
   rw [ha] at hb
   cases hb
   show a.Day<=a.Day + y7.1
   omega
def nmE:List ByteArray:=[⟨#[97,112,112]⟩,⟨#[100,98]⟩,⟨#[109,97,105,108]⟩,⟨#[119,101,98]⟩]
theorem rF {n:ByteArray} (h:n∈nmE):Fm n=true/\n.size<=31/\Zl n=true:=by
 unfold nmE at h
 simp only [aE7,aHp,aLl] at h
 rcases h with rfl | rfl | rfl | rfl <;> exact⟨by decide +kernel,by decide,by decide +kernel⟩
structure EsM (e:An):Prop where
 n:2<=e.Endpoints.length/\e.Endpoints.length<=4
 ep:∀ (i:Nat) x,e.Endpoints[i]?=some x->EpM (nmE.getD i ⟨#[]⟩) x
 edges:e.Edges.length<=16/\∀ i,cC (e.Endpoints.length:Int) e.Edges i
 items:e.Items.length<=2/\∀ x∈e.Items,ItM x
theorem mS {i:Nat} (h:i < 4):nmE.getD i ⟨#[]⟩∈nmE:=by
 rcases i with _ | _ | _ | _ | i
 ·exact .head _
 ·exact .tail _ (.head _)
 ·exact .tail _ (.tail _ (.head _))
 ·exact .tail _ (.tail _ (.tail _ (.head _)))
 ·omega
theorem EsM.fit {e:An} (h:EsM e):Wu e:=by
 have h1:=h.n
 have h2:=h.edges.1
 have h3:=h.items.1
 refine⟨by unfold Lo; omega,by unfold Lo; omega,by unfold Lo; omega,fun x hx=>?_,fun x hx=>(h.items.2 x hx).fit⟩
 obtain⟨i,hi⟩:=aOn.1 hx
 have:=rF (mS (i:=i) (by have:=I9 hi; omega))
 exact (h.ep i x hi).fit (by omega)
theorem lK {d:Ab} (h:Hj d):Ok (B5 d) (fun y=>EsM y.1/\Hj y.2):=by
 unfold B5
 refine Ok.bind (D4 h 3 (by omega) (by omega)) fun y hy=>?_
 have b:=hy.1
 obtain⟨n,hn⟩:∃ n:Nat,2 + y.1=(n:Int):=⟨(2 + y.1).toNat,by omega⟩
 have hW:W (2 + y.1)=(n:Int):=by rw [Db (by omega)]; exact hn
 rw [hW]
 refine Ok.bind (Ro ⟨aO5 _,by omega,by show (n:Int)<=4; omega⟩) fun _ _=>?_
 have hlen:((((W (2 + y.1):Int).toNat - (0:Int).toNat):Nat):Int)=(n:Int):=by rw [hW]; simp
 refine Ok.loop (fun s:Int×Ab×List Al=>∃ i:Nat,s.1=(i:Int)/\i<=n/\Hj s.2.1/\s.2.2.length=i/\∀ (j:Nat) x,s.2.2[j]?=some x->EpM (nmE.getD j ⟨#[]⟩) x) (fun s=>n - s.1.toNat) ?_ ⟨0,rfl,aFf _,hy.2,rfl,fun j x hx=>by cases hx⟩
 rintro⟨_,d1,l1⟩ ⟨i,rfl,hi,hd1,hl1,he1⟩
 dsimp only at hd1 hl1 he1
 show Ok (B5.l1 y (i:Int) d1 l1) _
 unfold B5.l1
 rw [hlen]
 refine Ok.cond (fun hb=>?_) fun hb=>?_
 ·have hb:=aCe hb
  have hnm:Bo ((([(⟨#[97,112,112]⟩:ByteArray),(⟨#[100,98]⟩:ByteArray),(⟨#[109,97,105,108]⟩:ByteArray),(⟨#[119,101,98]⟩:ByteArray)]:List ByteArray).drop ((0:Int).toNat)).take ((W (2 + y.1):Int).toNat - (0:Int).toNat)) (i:Int)=some (nmE.getD i ⟨#[]⟩):=by
   rw [hW,Cr]
   show (nmE.take ((n:Int).toNat - 0))[i]?=_
   rw [List.getElem?_take_of_lt (by omega)]
   rcases i with _ | _ | _ | _ | i
   ·rfl
   ·rfl
   ·rfl
   ·rfl
   ·omega
  rw [hnm,aAc]
  obtain⟨k1,k2,k3⟩:=rF (mS (i:=i) (by omega))
  refine Ok.bind (gK hd1 k1 k2) fun y2 h2=>?_
  refine Ok.bind (E6 (by simp; omega)) fun l' hl'=>?_
  subst hl'
  rw [Db (x:=(i:Int) + 1) (by omega)]
  refine Ok.ret ⟨⟨i + 1,by show (i:Int) + 1=_; omega,by omega,h2.2,by show (l1 ++ [y2.1]).length=i + 1; rw [aEq,aF2]; omega,fun j x hx=>?_⟩,by show n - ((i:Int) + 1).toNat < n - ((i:Nat):Int).toNat; omega⟩
  have hx:(l1 ++ [y2.1])[j]?=some x:=hx
  have hj:=I9 hx
  rw [aEq,aF2] at hj
  by_cases hjl:j < l1.length
  ·rw [aFm hjl] at hx
   exact he1 j x hx
  ·obtain rfl:j=i:=by omega
   rw [aF4 (by omega),show j - l1.length=0 by omega] at hx
   cases hx
   exact h2.1
 ·have hb:=aDs hb
  obtain rfl:i=n:=by omega
  refine Ok.up ?_
  refine Ok.loop (fun s:Int×Ab×List Aw=>∃ a:Nat,s.1=(a:Int)/\a<=i/\Hj s.2.1/\s.2.2.length<=4 * a/\(∀ j,cC (i:Int) s.2.2 j)/\∀ e∈s.2.2,e.Client < (a:Int)) (fun s=>i - s.1.toNat) ?_ ⟨0,rfl,aFf _,hd1,aHy _,fun j=>⟨fun x y _ hx=>(by cases hx),fun x hx=>(by cases hx)⟩,fun e he=>by cases he⟩
  rintro⟨_,d2,l2⟩ ⟨a,rfl,ha,hd2,hl2,hv2,hc2⟩
  dsimp only at hd2 hl2 hv2 hc2
  show Ok (B5.l2 y l1 (a:Int) d2 l2) _
  unfold B5.l2
  rw [hlen]
  refine Ok.cond (fun hb=>?_) fun hb=>?_
  ·have hb:=aCe hb
   refine Ok.loop (fun s:Int×Ab×List Aw=>∃ k:Nat,s.1=(k:Int)/\k<=i/\Hj s.2.1/\s.2.2.length<=4 * a + k/\(∀ j,cC (i:Int) s.2.2 j)/\∀ e∈s.2.2,e.Client < (a:Int)\/(e.Client=(a:Int)/\e.Server < (k:Int))) (fun s=>i - s.1.toNat) ?_ ⟨0,rfl,aFf _,hd2,by omega,hv2,fun e he=>.inl (hc2 e he)⟩
   rintro⟨_,d3,l3⟩ ⟨k,rfl,hk,hd3,hl3,hv3,hc3⟩
   dsimp only at hd3 hl3 hv3 hc3
   show Ok (B5.l3 y (a:Int) (k:Int) d3 l3) _
   unfold B5.l3
   rw [hlen]
   refine Ok.cond (fun hb=>?_) fun hb=>?_
   ·have hb:=aCe hb
    generalize hT:(S6 (fun s':Int×Ab×List Aw=>(∃ k:Nat,s'.1=(k:Int)/\k<=i/\Hj s'.2.1/\s'.2.2.length<=4 * a + k/\(∀ j,cC (i:Int) s'.2.2 j)/\∀ e∈s'.2.2,e.Client < (a:Int)\/(e.Client=(a:Int)/\e.Server < (k:Int)))/\i - s'.1.toNat < i - ((k:Nat):Int).toNat) (S6 (fun s':Int×Ab×List Aw=>(∃ a:Nat,s'.1=(a:Int)/\a<=i/\Hj s'.2.1/\s'.2.2.length<=4 * a/\(∀ j,cC (i:Int) s'.2.2 j)/\∀ e∈s'.2.2,e.Client < (a:Int))/\i - s'.1.toNat < i - ((a:Nat):Int).toNat) (fun y:An×Ab=>EsM y.1/\Hj y.2)))=T
    have J5:∀ d l,Hj d->l.length<=4 * a + (k + 1)->(∀ j,cC (i:Int) l j)->(∀ e∈l,e.Client < (a:Int)\/(e.Client=(a:Int)/\e.Server < ((k + 1:Nat):Int)))->Ok (B5.j5 (k:Int) d l) T:=by
     intro d l hd hl hv hc
     unfold B5.j5
     rw [<- hT,Db (by omega)]
     exact Ok.ret ⟨⟨k + 1,by show (k:Int) + 1=_; omega,by omega,hd,hl,hv,hc⟩,by show i - ((k:Int) + 1).toNat < i - ((k:Nat):Int).toNat; omega⟩
    have hc3':∀ e∈l3,e.Client < (a:Int)\/(e.Client=(a:Int)/\e.Server < ((k + 1:Nat):Int)):=fun e he=>by rcases hc3 e he with h | h <;> omega
    refine Ok.cond (fun hne=>?_) fun _=>J5 _ _ hd3 (by omega) hv3 hc3'
    have hne:(a:Int)≠(k:Int):=by simpa using hne
    refine Ok.bind (D4 hd3 3 (by omega) (by omega)) fun y3 h3=>?_
    unfold B5.j4
    refine Ok.cond (fun _=>?_) fun _=>J5 _ _ h3.2 (by omega) hv3 hc3'
    refine Ok.bind (E6 (by simp; omega)) fun l' hl'=>?_
    subst hl'
    refine J5 _ _ h3.2 (by rw [aEq,aF2]; omega) (fun j=>⟨fun x y h0 hx hy=>?_,fun x hx=>?_⟩) fun e he=>?_
    ·have hj:=I9 hy
     rw [aEq,aF2] at hj
     rw [aFm (by omega)] at hx
     by_cases hl:j < l3.length
     ·rw [aFm hl] at hy
      exact (hv3 j).1 x y h0 hx hy
     ·rw [aF4 (by omega),show j - l3.length=0 by omega] at hy
      cases hy
      have:=hc3 x (Eg hx)
      show x.Client < (a:Int)\/(x.Client=(a:Int)/\x.Server < (k:Int))
      exact this
    ·by_cases hl:j < l3.length
     ·rw [aFm hl] at hx
      exact (hv3 j).2 x hx
     ·rw [aF4 (by omega)] at hx
      have:=aG3 hx
      rw [aEp] at this
      subst this
      exact⟨⟨by show (0:Int)<=(a:Int); omega,by show (a:Int) < (i:Int); assumption⟩,⟨by show (0:Int)<=(k:Int); omega,hb⟩,hne⟩
    ·rcases aH5.1 he with he | he
     ·exact hc3' e he
     ·rw [aEp] at he
      subst he
      exact .inr ⟨rfl,by show (k:Int) < ((k + 1:Nat):Int); omega⟩
   ·have hb:=aDs hb
    refine Ok.up (Ok.ret ⟨⟨a + 1,by show W ((a:Int) + 1)=_; rw [Db (by omega)]; omega,by omega,hd3,by show l3.length<=_; omega,hv3,fun e he=>?_⟩,by show i - (W ((a:Int) + 1)).toNat < i - ((a:Nat):Int).toNat; rw [Db (by omega)]; omega⟩)
    rcases hc3 e he with h | h <;> omega
  ·have hb:=aDs hb
   refine Ok.up ?_
   refine Ok.bind (D4 hd2 3 (by omega) (by omega)) fun y4 h4=>?_
   have b4:=h4.1
   refine Ok.loop (fun s:Int×Ab×List Bp=>0<=s.1/\s.1 + (s.2.2.length:Int)<=2/\Hj s.2.1/\∀ x∈s.2.2,ItM x) (fun s=>s.1.toNat) ?_ ⟨b4.1,by show y4.1 + ((([]:List Bp).length:Nat):Int)<=2; simp; omega,h4.2,fun x hx=>by cases hx⟩
   rintro⟨k,d6,l6⟩ ⟨k1,k2,kd,kl⟩
   dsimp only at k1 k2 kd kl
   show Ok (B5.l6 l1 l2 k d6 l6) _
   unfold B5.l6
   refine Ok.cond (fun hb=>?_) fun hb=>?_
   ·have hb:=aCe hb
    refine Ok.bind (nF kd _ (by decide) (by decide)) fun y5 h5=>?_
    have hnm:Fm y5.1=true:=by
     have:=h5.1
     simp only [aE7,aHp,aLl] at this
     rcases this with e | e <;> rw [e] <;> decide +kernel
    refine Ok.bind (iV h5.2 hnm) fun y6 h6=>?_
    refine Ok.bind (E6 (by simp; omega)) fun l' hl'=>?_
    subst hl'
    rw [Db (x:=k - 1) (by omega)]
    refine Ok.ret ⟨⟨by show 0<=k - 1; omega,by show k - 1 + (((l6 ++ [y6.1]).length:Nat):Int)<=2; rw [aEq,aF2]; omega,h6.2,fun x hx=>?_⟩,by show (k - 1).toNat < k.toNat; omega⟩
    rcases aH5.1 hx with hx | hx
    ·exact kl x hx
    ·rw [aEp] at hx
     subst hx
     exact h6.1
   ·have hb:=aDs hb
    exact Ok.up (Ok.ret ⟨⟨by show 2<=l1.length/\l1.length<=4; omega,he1,⟨by show l2.length<=16; omega,by show ∀ j,cC (l1.length:Int) l2 j; rw [hl1]; exact hv2⟩,⟨by show l6.length<=2; omega,kl⟩⟩,kd⟩)
end Go.Proofs.YtkioneinddihlaaGreat
