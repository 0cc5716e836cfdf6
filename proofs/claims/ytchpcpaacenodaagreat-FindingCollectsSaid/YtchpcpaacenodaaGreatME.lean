import Derived.Test.YtchpcpaacenodaaGreatES
import Derived.Test.YtchpcpaacenodaaGreatCH
set_option autoImplicit false
set_option linter.unusedVariables false
set_option linter.unusedSimpArgs false
namespace Go.Proofs.YtchpcpaacenodaaGreat
open Go
theorem Vk (n:Int):Ok (If n) (fun _=>True):=by
 unfold If
 refine Ok.bind (Ws n) fun y _=>Ok.cond (fun _=>Ok.ret trivial) fun _=>?_
 rw [Wk,aAc]
 exact Ok.ret trivial
theorem sV {l:List Int} (hl:l.length<=1000):Ok (Dl l) (fun r=>r.Perm l):=by
 unfold Dl
 refine Ok.loop (fun s:Int×List Int=>∃ i:Nat,s.1=(i:Int)/\i<=l.length/\s.2.Perm (l.take i)) (fun s=>l.length - s.1.toNat) ?_ ⟨0,rfl,aHc _,by simp⟩
 rintro⟨_,out⟩ ⟨i,rfl,hi,hp⟩
 dsimp only at hp
 have hol:out.length=i:=by have:=hp.length_eq; rw [aGe] at this; omega
 show Ok (Dl.l1 l (i:Int) out) _
 unfold Dl.l1
 refine Ok.cond (fun hb=>?_) fun hb=>?_
 ·have hil:i < l.length:=by have:=aCl hb; omega
  obtain⟨x,hx⟩:∃ x,l[i]?=some x:=⟨_,aBo hil⟩
  refine Ok.loop (fun k:Int=>0<=k/\k<=(out.length:Int)) (fun k=>k.toNat) ?_ ⟨by omega,by omega⟩
  rintro k ⟨hk1,hk2⟩
  show Ok (Dl.l2 l (i:Int) out k) _
  generalize hT:(xS (fun s':Int=>(0<=s'/\s'<=(out.length:Int))/\s'.toNat < k.toNat) (xS (fun s':Int×List Int=>(∃ i:Nat,s'.1=(i:Int)/\i<=l.length/\s'.2.Perm (l.take i))/\l.length - s'.1.toNat < l.length - ((i:Nat):Int).toNat) (fun r:List Int=>r.Perm l)))=T
  have J:∀ b,(b=true->0 < k)->Ok (Dl.j3 l (i:Int) out k b) T:=by
   intro b hb
   unfold Dl.j3
   rw [<- hT]
   refine Ok.cond (fun h=>?_) fun _=>?_
   ·have:=hb h
    rw [Es (by omega)]
    exact Ok.ret ⟨by omega,by omega⟩
   ·refine Ok.up ?_
    refine Ok.bind (aD (by omega)) fun _ _=>?_
    have ht:(out.drop (0:Int).toNat).take (k.toNat - (0:Int).toNat)=out.take k.toNat:=by simp
    have hd:(out.drop k.toNat).take ((out.length:Int).toNat - k.toNat)=out.drop k.toNat:=by
     rw [aHa]; rw [aGx]; omega
    rw [ht,hd]
    refine Ok.bind (J5 (by simp; omega)) fun l3 h3=>?_
    subst h3
    rw [D6,hx,aAc]
    refine Ok.bind (J5 (by simp; omega)) fun l4 h4=>?_
    subst h4
    refine Ok.bind (aD (by omega)) fun _ _=>?_
    refine Ok.bind (J5 (by simp; omega)) fun l6 h6=>?_
    subst h6
    rw [Es (by omega)]
    refine Ok.ret ⟨⟨i + 1,by show (i:Int) + 1=_; omega,hil,?_⟩,by show l.length - ((i:Int) + 1).toNat < l.length - ((i:Nat):Int).toNat; omega⟩
    show ([] ++ out.take k.toNat ++ [x] ++ out.drop k.toNat).Perm _
    rw [I9 hx,aIu,aH4]
    refine List.Perm.trans ?_ (hp.append_right [x])
    refine List.Perm.trans (List.Perm.append_left _ List.perm_append_comm) ?_
    rw [<- aH4,aIo]
  unfold Dl.l2
  refine Ok.cond (fun hk=>?_) fun hk=>J false fun h=>by cases h
  have hk:=aCl hk
  rw [Es (by omega)]
  refine Ok.bind (K8 (by omega) (by omega)) fun e _=>?_
  refine Ok.bind (Vk e) fun y _=>?_
  rw [D6,hx,aAc]
  exact Ok.bind (Vk x) fun y2 _=>J _ fun _=>hk
 ·have hil:i=l.length:=by have:=aD7 hb; omega
  subst hil
  rw [aIc] at hp
  exact Ok.up (Ok.ret hp)
theorem dC {l:List Int} (h:l.Nodup) (hr:∀ x∈l,zR x) (i:Nat):nS l i:=fun x hx=>by
 refine⟨hr x (Ia hx),fun hm=>?_⟩
 obtain⟨j,hj,he⟩:=List.mem_take_iff_getElem.1 hm
 rw [List.nodup_iff_pairwise_ne,aIs] at h
 have hi:=Lb hx
 have:=h j i (by omega) hi (by omega)
 rw [aBo hi] at hx
 exact this (by rw [he]; exact (oi_ hx).symm)
theorem eC {d:Ac} (h:Lj d):Ok (Dx d) (fun y=>(y.1.length<=10/\∀ i,nS y.1 i)/\Lj y.2):=by
 unfold Dx
 refine Ok.bind (Fq h 9 (by omega) (by omega)) fun y hy=>?_
 have hy1:=hy.1
 rw [Es (x:=2 + y.1) (by omega)]
 refine Ok.loop (fun s:Int×Ac×List Int=>(0<=s.1/\(s.2.2.length:Int) + s.1<=10)/\Lj s.2.1/\s.2.2.Nodup/\∀ x∈s.2.2,zR x) (fun s=>s.1.toNat) ?_ ⟨⟨by show 0<=2 + y.1; omega,by show (0:Int) + (2 + y.1)<=10; omega⟩,hy.2,List.nodup_nil,fun x hx=>by cases hx⟩
 rintro⟨i,d,l⟩ ⟨⟨h1,h2⟩,hd,hn,hr⟩
 dsimp only at h1 h2 hd hn hr
 show Ok (Dx.l1 i d l) _
 unfold Dx.l1
 refine Ok.cond (fun hb=>?_) fun hb=>?_
 ·have hb:=aCl hb
  refine Ok.bind (Fq hd 16 (by omega) (by omega)) fun z hz=>?_
  have hz1:=hz.1
  rw [Es (x:=1 + z.1) (by omega),Vx _ _ (by unfold Lo; omega),aAc]
  refine Ok.cond (fun hc=>?_) fun hc=>?_
  ·refine Ok.bind (J5 (by simp; omega)) fun l' hl'=>?_
   subst hl'
   unfold Dx.j2
   rw [Es (by omega)]
   have hni:(1 + z.1)∉l:=by simpa using hc
   refine Ok.ret ⟨⟨⟨by show 0<=i - 1; omega,?_⟩,hz.2,?_,fun x hx=>?_⟩,by show (i - 1).toNat < i.toNat; omega⟩
   ·show (((l ++ [1 + z.1]).length:Nat):Int) + (i - 1)<=10
    rw [aGd,aGs]; omega
   ·show (l ++ [1 + z.1]).Nodup
    rw [List.nodup_append]
    exact⟨hn,by simp,fun a ha b hb e=>by rw [aGh] at hb; subst hb; subst e; exact hni ha⟩
   ·rcases aHv.1 hx with hx | hx
    ·exact hr x hx
    ·rw [aGh] at hx
     subst hx
     exact⟨by omega,by omega⟩
  ·unfold Dx.j2
   rw [Es (by omega)]
   exact Ok.ret ⟨⟨⟨by show 0<=i - 1; omega,by show (l.length:Int) + (i - 1)<=10; omega⟩,hz.2,hn,hr⟩,by show (i - 1).toNat < i.toNat; omega⟩
 ·refine Ok.up ?_
  refine Ok.bind (Vs hd 4 (by omega) (by omega)) fun z hz=>?_
  refine Ok.cond (fun _=>?_) fun _=>Ok.ret ⟨⟨by show l.length<=10; omega,dC hn hr⟩,hz⟩
  refine Ok.bind (sV (by omega)) fun r hp=>Ok.ret ⟨⟨by show r.length<=10; have:=hp.length_eq; omega,dC (hp.nodup_iff.2 hn) fun x hx=>hr x (hp.mem_iff.1 hx)⟩,hz⟩
structure IdM (x:A9):Prop where
 key:gC x.Key
 id:0<=x.KeyId/\x.KeyId<=1000
 len:x.Chain.length<=3
 chain:∀ c∈x.Chain,Fx c=true/\P7 c
 head:V3 x.Key x.KeyId x.Chain=true
def aBu:List (List Int):=[[1,2],[1,2],[1],[2,11],[]]
def aDb:List (List Int):=[[1,2,3,4],[2,3,4],[3,4]]
structure zY (name:ByteArray) (e:Av):Prop where
 name:e.Name=name
 least:1<=e.Least
 most:e.Least<=e.Most
 most4:e.Most<=4
 sn:e.Suites.length<=10
 suites:∀ i,nS e.Suites i
 idn:e.Identities.length<=3
 ids:∀ x∈e.Identities,IdM x
 anchors:e.Anchors∈aBu
 hashes:e.Hashes∈aDb
theorem zY.fit {name:ByteArray} (hn:name.size<=32) {e:Av} (h:zY name e):Vc e:=by
 have h1:=h.sn
 have h2:=h.idn
 refine⟨by rw [h.name]; omega,by unfold Lo; omega,by unfold Lo; omega,?_,?_,fun x hx c hc=>((h.ids x hx).chain c hc).2.w⟩
 ·have:=h.anchors
  unfold aBu at this
  simp only [aFt,aGi,aIe] at this
  rcases this with e | e | e | e | e <;> rw [e] <;> (unfold Lo; decide)
 ·have:=h.hashes
  unfold aDb at this
  simp only [aFt,aGi,aIe] at this
  rcases this with e | e | e <;> rw [e] <;> (unfold Lo; decide)
theorem aEa {n:Int} (h:0<=n/\n<=100000):Sm n:=h
theorem tI {d:Ac} (h:Lj d) {a:Int} (ha:a∈([5,7]:List Int)):Ok (Cn d a) (fun y=>gC ⟨a,y.1⟩/\Lj y.2):=by
 have h5:∀ b∈([2048,1024,512,3072,1023,4096,16384]:List Int),gC ⟨5,b⟩:=fun b hb=>⟨⟨aEa ⟨by show (0:Int)<=5; omega,by show (5:Int)<=100000; omega⟩,Yq (by decide) hb⟩,bK (by decide +kernel) hb⟩
 have h7:∀ b∈([256,160,224,384,521]:List Int),gC ⟨7,b⟩:=fun b hb=>⟨⟨aEa ⟨by show (0:Int)<=7; omega,by show (7:Int)<=100000; omega⟩,Yq (by decide) hb⟩,bK (by decide +kernel) hb⟩
 simp only [aFt,aGi,aIe] at ha
 rcases ha with rfl | rfl
 ·unfold Cn
  exact Ok.bind (Iw h _ (by decide) (by decide)) fun y hy=>Ok.ret ⟨h5 _ hy.1,hy.2⟩
 ·unfold Cn
  exact Ok.bind (Iw h _ (by decide) (by decide)) fun y hy=>Ok.ret ⟨h7 _ hy.1,hy.2⟩
theorem Wn {d:Ac} (h:Lj d):Lj (Ac.mk d.L d.At):=h
theorem kB {d:Ac} (h:Lj d) {name:ByteArray} (hn:Ev name=true) (hn31:name.size<=31):Ok (Bu d name) (fun y=>zY name y.1/\Lj y.2):=by
 unfold Bu
 refine Ok.bind (Iw h _ (by decide) (by decide)) fun y hy=>?_
 have b1:1<=y.1/\y.1<=3:=by
  have:=hy.1
  simp only [aFt,aGi,aIe] at this
  omega
 refine Ok.bind (eC hy.2) fun y2 h2=>?_
 refine Ok.bind (Vs h2.2 2 (by omega) (by omega)) fun y3 h3=>?_
 refine Ok.bind (Vs h3 2 (by omega) (by omega)) fun y4 h4=>?_
 rw [Es (x:=5 - y.1) (by omega)]
 refine Ok.bind (Fq h4 (5 - y.1) (by omega) (by omega)) fun y5 h5=>?_
 have b5:=h5.1
 refine Ok.bind (Fq h5.2 3 (by omega) (by omega)) fun y6 h6=>?_
 have J:∀ (d:Ac) (a b:Int),Lj d->1<=a->a<=b->b<=4->Ok (Bu.j1 name y2 y3 y4 d.L d.At a b) (fun y=>zY name y.1/\Lj y.2):=by
  intro d a b hd ha hab hb
  unfold Bu.j1
  refine Ok.bind (Iw (Wn hd) _ (by decide) (by decide)) fun y8 h8=>?_
  have b8:0<=y8.1/\y8.1<=3:=by
   have:=h8.1
   simp only [aFt,aGi,aIe] at this
   omega
  refine Ok.loop (fun s:Int×List Int×Int×List A9=>0<=s.1/\s.1 + (s.2.2.2.length:Int)<=3/\Lj (Ac.mk s.2.1 s.2.2.1)/\∀ x∈s.2.2.2,IdM x) (fun s=>s.1.toNat) ?_ ⟨b8.1,by show y8.1 + ((([]:List A9).length:Nat):Int)<=3; simp; omega,Wn h8.2,fun x hx=>by cases hx⟩
  rintro⟨i,dl,da,l⟩ ⟨k1,k2,kd,kl⟩
  dsimp only at k1 k2 kd kl
  show Ok (Bu.l2 name y2 y3 y4 a b i dl da l) _
  unfold Bu.l2
  refine Ok.cond (fun hb=>?_) fun hb=>?_
  ·have hb:=aCl hb
   refine Ok.bind (oA kd) fun y9 h9=>?_
   refine Ok.bind (Fq h9.2 3 (by omega) (by omega)) fun y10 h10=>?_
   generalize hT:(xS (fun s':Int×List Int×Int×List A9=>(0<=s'.1/\s'.1 + (s'.2.2.2.length:Int)<=3/\Lj (Ac.mk s'.2.1 s'.2.2.1)/\∀ x∈s'.2.2.2,IdM x)/\s'.1.toNat < i.toNat) (fun y:Av×Ac=>zY name y.1/\Lj y.2))=T
   have K:∀ (d:Ac) (u v:Int),Lj d->gC ⟨u,v⟩->Ok (Bu.j3 name i l d.L d.At u v) T:=by
    intro d u v hd hk
    unfold Bu.j3
    refine Ok.bind (Fq (Wn hd) 20 (by omega) (by omega)) fun y13 h13=>?_
    have b13:=h13.1
    refine Ok.bind (Vs h13.2 9 (by omega) (by omega)) fun y14 h14=>?_
    rw [Es (x:=100 + y13.1) (by omega)]
    have L:∀ (dl:List Int) (da:Int) (ch:List Af),Lj (Ac.mk dl da)->IdM ⟨⟨u,v⟩,100 + y13.1,ch⟩->Ok (Bu.j4 i l u v y13 dl da ch) T:=by
     intro dl da ch hd hi
     unfold Bu.j4
     refine Ok.bind (J5 (by simp; omega)) fun l' hl'=>?_
     subst hl'
     rw [<- hT,Es (x:=i - 1) (by omega),Es (x:=100 + y13.1) (by omega)]
     refine Ok.ret ⟨⟨by show 0<=i - 1; omega,?_,hd,fun x hx=>?_⟩,by show (i - 1).toNat < i.toNat; omega⟩
     ·show i - 1 + (((l ++ [A9.mk (Am.mk u v) (100 + y13.1) ch]).length:Nat):Int)<=3
      rw [aGd,aGs]; omega
     ·rcases aHv.1 hx with hx | hx
      ·exact kl x hx
      ·rw [aGh] at hx
       subst hx
       exact hi
    refine Ok.cond (fun _=>?_) fun _=>L _ _ _ (Wn h14) ⟨hk,⟨by show 0<=100 + y13.1; omega,by show 100 + y13.1<=1000; omega⟩,aHc _,fun c hc=>(by cases hc),rfl⟩
    refine Ok.bind (X3 h14 hn hn31 hk (by omega)) fun y15 h15=>?_
    exact L _ _ _ (Wn h15.2) ⟨hk,⟨by show 0<=100 + y13.1; omega,by show 100 + y13.1<=1000; omega⟩,h15.1.1,h15.1.2.1,h15.1.2.2⟩
   refine Ok.cond (fun _=>?_) fun _=>K _ _ _ h10.2 h9.1
   refine Ok.bind (Iw h10.2 _ (by decide) (by decide)) fun y11 h11=>?_
   refine Ok.bind (tI h11.2 h11.1) fun y12 h12=>?_
   exact K _ _ _ h12.2 h12.1
  ·refine Ok.up ?_
   refine Ok.bind (Fq kd 5 (by omega) (by omega)) fun y16 h16=>?_
   refine Ok.bind (K8 h16.1.1 (by show y16.1 < (5:Int); exact h16.1.2)) fun e he=>?_
   refine Ok.bind (Fq h16.2 3 (by omega) (by omega)) fun y17 h17=>?_
   refine Ok.bind (K8 h17.1.1 (by show y17.1 < (3:Int); exact h17.1.2)) fun e2 he2=>?_
   exact Ok.ret ⟨⟨rfl,ha,hab,by assumption,h2.1.1,h2.1.2,by show l.length<=3; omega,kl,he,he2⟩,h17.2⟩
 refine Ok.cond (fun _=>?_) fun _=>?_
 ·refine Ok.bind (Iw h6.2 _ (by decide) (by decide)) fun y7 h7=>?_
  have b7:2<=y7.1/\y7.1<=4:=by
   have:=h7.1
   simp only [aFt,aGi,aIe] at this
   omega
  exact J _ _ _ h7.2 (by omega) (by omega) (by omega)
 ·rw [Es (x:=y.1 + y5.1) (by omega)]
  exact J _ _ _ h6.2 (by omega) (by omega) (by omega)
end Go.Proofs.YtchpcpaacenodaaGreat
