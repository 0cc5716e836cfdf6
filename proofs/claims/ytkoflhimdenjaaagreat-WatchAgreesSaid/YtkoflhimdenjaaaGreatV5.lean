/- Plain texts, joined. No program is in sight here. -/
import Derived.Test.YtkoflhimdenjaaaGreatG3
import Derived.Test.YtkoflhimdenjaaaGreatSD
set_option autoImplicit false
set_option linter.unusedVariables false
set_option linter.unusedSimpArgs false
namespace Go.Proofs.YtkoflhimdenjaaaGreat
section
open Go
section
variable {κ ν:Type} [DecidableEq κ]
theorem Mx (p:κ×ν) (l:List (κ×ν)) (x:κ) (z:ν):G7 (p :: l) x z=if p.1=x then p.2 else G7 l x z:=by
 unfold G7
 by_cases h:p.1=x <;> simp [h]
theorem iZ (p:κ×ν) (l:List (κ×ν)) (x:κ) (v:ν):K5 (p :: l) x v=if p.1=x then (x,v) :: l else p :: K5 l x v:=by
 unfold K5
 by_cases h:p.1=x
 ·rw [List.findIdx?_cons,aAv h,if_pos h]; rfl
 ·rw [List.findIdx?_cons,aAy h,if_neg h]
  cases hf:l.findIdx? (fun p=>decide (p.1=x)) <;> simp
theorem Zm (x:κ) (v:ν) (y:κ) (z:ν):∀ l:List (κ×ν),G7 (K5 l x v) y z=if x=y then v else G7 l y z
 | []=>by
  show G7 [(x,v)] y z=_
  rw [Mx]
 | p :: l=>by
  rw [iZ]
  by_cases h:p.1=x
  ·rw [if_pos h,Mx,Mx]
   by_cases e:x=y
   ·rw [if_pos e,if_pos e]
   ·rw [if_neg e,if_neg e,if_neg (by rw [h]; exact e)]
  ·rw [if_neg h,Mx,Zm x v y z l,Mx]
   by_cases e:x=y
   ·rw [if_pos e,if_pos e,if_neg (by rw [<- e]; exact h)]
   ·rw [if_neg e,if_neg e]
end
theorem Zs (s:List Aa) (f:Aa->Option Bool) (p:Aa->Bool) (h:Lo s) (hp:∀ x∈s,f x=some (p x)):Bf s f=some (Ni s p):=by
 unfold Bf
 refine Rk s _ h (fun i x hx=>?_) ?_
 ·show Bf.l1 s _ (i:Int)=_
  unfold Bf.l1
  rw [Gt hx,hp x (Ff hx),aAf]
  cases p x <;> rfl
 ·show Bf.l1 s _ (s.length:Int)=_
  unfold Bf.l1
  rw [E4]; rfl
theorem aW {α:Type} {l:List α} {a b:Int} (h:0<=a/\a<=b/\b<=l.length):U0 l a b=some ((l.drop a.toNat).take (b.toNat - a.toNat)):=if_pos h
theorem xV (s:List Aa) (f:Aa->Option Bool) (p:Aa->Bool) (h:s.length < 100000) (hp:∀ x∈s,f x=some (p x)):Ok (Bc s f) (fun r=>r=s.filter fun x=>!p x):=by
 unfold Bc
 rw [Zs s f p (by unfold Lo; omega) hp,aAf]
 unfold Ni
 cases hf:s.findIdx? p with
 | none=>
  have hn:=aJ8.1 hf
  refine⟨s,rfl,?_⟩
  rw [List.filter_eq_self.2]
  intro a ha
  rw [hn a ha]; rfl
 | some i0=>
  obtain⟨hi0,hp0,hlt0⟩:=aH6.1 hf
  show Ok (cond (decide ((i0:Int)=-1)) _ _) _
  rw [aAy (by omega),aDk,Ex (x:=(i0:Int) + 1) (by omega)]
  have h0:s.take i0=((s.take (i0 + 1)).filter fun x=>!p x):=by
   rw [aJq hi0,List.filter_append,List.filter_eq_self.2 (fun a ha=>?_)]
   ·have:(!p s[i0])=false:=by rw [hp0]; rfl
    rw [List.filter_cons_of_neg (by rw [this]; decide)]
    simp
   ·obtain⟨q,hq,rfl⟩:=aJs ha
    rw [aEl] at hq
    rw [List.getElem_take]
    have:=hlt0 q (by omega)
    simp only [Bool.not_eq_true] at this
    rw [this]; rfl
  refine Ok.loop (fun st:Int×Int×List Aa=>∃ i j:Nat,st.1=(i:Int)/\st.2.1=(j:Int)/\i < j/\j<=s.length/\st.2.2.length=s.length/\st.2.2.take i=((s.take j).filter fun x=>!p x)/\st.2.2.drop j=s.drop j) (fun st=>s.length - st.2.1.toNat) ?_ ⟨i0,i0 + 1,rfl,by show (i0:Int) + 1=_; omega,by omega,hi0,rfl,h0,rfl⟩
  rintro⟨_,_,t⟩ ⟨i,j,rfl,rfl,hij,hj,hlen,htk,hdr⟩
  dsimp only at hlen htk hdr
  show Ok (Bc.l1 _ (i:Int) (j:Int) t) _
  unfold Bc.l1
  refine Ok.cond (fun hb=>?_) (fun hb=>?_)
  ·have hjl:j < s.length:=by have:=aBs hb; omega
   obtain⟨e,he⟩:∃ e,s[j]?=some e:=⟨_,aA9 hjl⟩
   have hte:t[j]?=some e:=by
    have:=congrArg (fun l=>l[0]?) hdr
    simpa [he] using this
   have hdr1:t.drop (j + 1)=s.drop (j + 1):=by
    have:=congrArg (List.drop 1) hdr
    rwa [aKg,aKg] at this
   obtain⟨q,hq⟩:∃ q,t[i]?=some q:=⟨_,aA9 (by omega)⟩
   rw [Hx,hte,aAf]
   unfold Bc.j2
   rw [hp e (Ff he),aAf,Ex (x:=(j:Int) + 1) (by omega)]
   cases hd:p e with
   | false=>
    rw [aKf,aEn,Hx,hq,aAf,Ex (x:=(i:Int) + 1) (by omega)]
    refine Ok.ret ⟨⟨i + 1,j + 1,by show (i:Int) + 1=_; omega,by show (j:Int) + 1=_; omega,by omega,hjl,?_,?_,?_⟩,by show s.length - ((j:Int) + 1).toNat < s.length - ((j:Int)).toNat; omega⟩
    ·show (C2 t _ e).length=_
     unfold C2
     rw [List.length_set]; exact hlen
    ·show (C2 t (i:Int).toNat e).take (i + 1)=_
     unfold C2
     rw [aId,List.set_eq_take_append_cons_drop,if_pos (by omega),Fw he,List.filter_append,<- htk]
     have hl:(t.take i).length=i:=by rw [aEl]; omega
     have:([e].filter fun x=>!p x)=[e]:=by
      rw [List.filter_cons,hd]; rfl
     rw [this]
     have e2:(t.take i ++ e :: t.drop (i + 1)).take (i + 1)=t.take i ++ (e :: t.drop (i + 1)).take 1:=by
      have:=List.take_length_add_append (l₁:=t.take i) (l₂:=e :: t.drop (i + 1)) 1
      rwa [hl] at this
     rw [e2]; rfl
    ·show (C2 t (i:Int).toNat e).drop (j + 1)=_
     unfold C2
     rw [aId,List.drop_set_of_lt (by omega)]; exact hdr1
   | true=>
    rw [aI6,aDk]
    refine Ok.ret ⟨⟨i,j + 1,rfl,by show (j:Int) + 1=_; omega,by omega,hjl,hlen,?_,hdr1⟩,by show s.length - ((j:Int) + 1).toNat < s.length - ((j:Int)).toNat; omega⟩
    show t.take i=_
    have:([e].filter fun x=>!p x)=[]:=by
     rw [List.filter_cons,hd]; rfl
    rw [Fw he,List.filter_append,this,aLg]
    exact htk
  ·have hjl:j=s.length:=by have:=aDm hb; omega
   subst hjl
   rw [aI7] at htk
   refine Ok.up ?_
   rw [aW (by omega),aAf]
   unfold lO
   rw [if_pos (by omega),aAf,aW (by simp; omega),aAf]
   refine Ok.ret ?_
   show ((t.take i ++ _) ++ _).take (i - 0)=_
   have hl:(t.take i).length=i:=by rw [aEl]; omega
   rw [Nat.sub_zero,aJj,aJm (by omega),aHj (by omega)]
   exact htk
def vX (f:Aa):Dq:=⟨f.Host,f.Day,f.Kind,f.Use,f.Number,f.Text⟩
theorem aAh (f:Aa):O1 f=some (vX f):=rfl
def Th (S:List Aa) (f:Aa):Bool:=S.any fun x=>decide (vX x=vX f)
theorem jB {e:Af} {at':Aa} {want S:List Aa} (hx:Fk e at'=some (want,0)) (hw:want.length < 100000) (hS:S.length < 100000):Dz e at' S=some (want.filter (fun f=>!Th S f),0):=by
 unfold Dz
 rw [hx,aAf]
 show cond (!decide ((0:Int)=0)) _ _=_
 rw [aAv rfl,aI6,aDk]
 have:Ok (Cp (fun q'=>Dz.l1 S (want,0) q'.1 q'.2) (0,([]:List (Dq×Bool)))) (fun r=>r=(want.filter (fun f=>!Th S f),0)):=by
  refine Ok.loop (fun s:Int×List (Dq×Bool)=>∃ i:Nat,s.1=(i:Int)/\i<=S.length/\∀ f,G7 s.2 (vX f) false=Th (S.take i) f) (fun s=>S.length - s.1.toNat) ?_ ⟨0,rfl,aI3 _,fun f=>rfl⟩
  rintro⟨_,m⟩ ⟨i,rfl,hi,hm⟩
  dsimp only at hm
  show Ok (Dz.l1 S (want,0) (i:Int) m) _
  unfold Dz.l1
  rcases aJv i S.length with hl | hl
  ·obtain⟨x,hx⟩:∃ x,S[i]?=some x:=⟨_,aA9 hl⟩
   rw [Gt hx,aAh,aAf,H6 (by omega)]
   refine Ok.ret ⟨⟨i + 1,rfl,hl,fun f=>?_⟩,by show S.length - (((i + 1:Nat)):Int).toNat < S.length - ((i:Int)).toNat; omega⟩
   show G7 (K5 m (vX x) true) (vX f) false=_
   rw [Zm,hm f]
   unfold Th
   rw [Fw hx,List.any_append,aJ7,aLi,Bool.or_false]
   by_cases e:vX x=vX f
   ·rw [if_pos e,aAv e,Bool.or_true]
   ·rw [if_neg e,aAy e,Bool.or_false]
  ·have hil:i=S.length:=by omega
   subst hil
   rw [aI7] at hm
   rw [E4]
   refine Ok.up ?_
   refine Ok.bind (xV want (fun x0=>Gz x0 m) (fun f=>Th S f) hw (fun x _=>?_)) fun r hr=>?_
   ·unfold Gz
    rw [aAh,aAf,hm x]
   ·subst hr
    exact Ok.ret rfl
 obtain⟨r,hr,rfl⟩:=this
 exact hr
end
section
open Go
def La:Aa:=⟨3,Sr 0,1,4,90,4,⟨#[116,108,115]⟩,⟨0,0⟩,1,⟨#[]⟩⟩
theorem Kd:Vw La:=⟨by decide,by decide,by decide⟩
theorem Lb:Ur La=0:=by decide +kernel
theorem M3.few {e:Af} (h:M3 0 e):X8 e:=by
 obtain⟨c,hc,own,fall,x,hx,rfl⟩:=h
 have:=(M4 hc).2.1
 exact⟨by show c.2.length<=50; omega,by show (1:Nat)<=50; omega,by show (1:Nat)<=50; omega,by show (2:Nat)<=50; omega⟩
theorem M3.good {e:Af} (h:M3 0 e):Ux (bL La e):=by
 obtain⟨c,hc,own,fall,x,hx,rfl⟩:=h
 obtain⟨h1,-,-,-,h5⟩:=M4 hc
 intro f hff
 unfold bL at hff
 simp only [aHm,aDv,aFr,aJh,aIm] at hff
 rcases hff with (((((rfl | rfl) | ⟨n,hn,rfl⟩) | ⟨y,rfl,rfl⟩) | ⟨n,hn,rfl⟩) | ⟨n,hn,rfl⟩)
 ·exact Lc Kd Lb (mD La (.inr rfl) (by omega))
 ·exact Lc Kd Lb (mD La (.inl rfl) (by omega))
 ·have:=h5 n hn
  unfold vK at this
  exact Lc Kd Lb (aFt La (by omega))
 ·rw [hx.key_,hx.id_]
  exact Lc Kd Lb (aG9 La yQ.2 (by omega))
 ·exact Lc Kd Lb (aGj La (by omega))
 ·refine Lc Kd Lb (aG0 La ?_)
  rcases hn with rfl | rfl <;> decide +kernel
noncomputable def Fi (e:Af):List Aa:=S0 xN (bL La e)
theorem Xy {e:Af} (h:M3 0 e):Fk e La=some (Fi e,0):=by
 unfold Fk
 have h1:Xr (gQ La)=false:=by decide +kernel
 have h2:Br e=some 0:=Dc.zero (Lq (fM (by omega) h)) (Z4 (by omega) h)
 have:Be La e=some (Fi e,0):=by
  rw [cT Kd (fM (by omega) h) h.few]
  unfold Y5
  rw [h1,aDk,aAv h2,aEn,h.good.norm]
  rfl
 rw [this]; rfl
theorem Rb {e:Af} {f:Aa}:f∈Fi e↔f∈bL La e:=dG aC3
theorem yM {e:Af} {f:Aa} (h:f∈Fi e):∃ k u n,f=Ps La k u n:=by
 have hf:=Rb.1 h
 unfold bL at hf
 simp only [aHm,aDv,aFr,aJh,aIm] at hf
 rcases hf with (((((rfl | rfl) | ⟨_,-,rfl⟩) | ⟨_,-,rfl⟩) | ⟨_,-,rfl⟩) | ⟨_,-,rfl⟩) <;> exact⟨_,_,_,rfl⟩
theorem aP {e:Af} (h:M3 0 e):0 < (Fi e).length/\(Fi e).length<=202:=by
 refine⟨List.length_pos_iff.2 fun q=>?_,aIp (W6 xN (bL La e)) (fV La h.few)⟩
 have:Ps La 5 ⟨0,0⟩ e.Least∈Fi e:=Rb.2 (by unfold bL; simp)
 rw [q] at this; cases this
theorem iN (s:List Am) (f:Am->Option Bool) (p:Am->Bool) (h:Lo s) (hp:∀ x∈s,f x=some (p x)):Bm s f=some (Ni s p):=by
 unfold Bm
 refine Rk s _ h (fun i x hx=>?_) ?_
 ·show Bm.l1 s _ (i:Int)=_
  unfold Bm.l1
  rw [Gt hx,hp x (Ff hx),aAf]
  cases p x <;> rfl
 ·show Bm.l1 s _ (s.length:Int)=_
  unfold Bm.l1
  rw [E4]; rfl
theorem uA {e:Af} (h:M3 0 e) {f g:Aa} (hf:f∈Fi e) (h1:g.Host=f.Host) (h2:g.Kind=f.Kind) (h3:g.Use=f.Use) (h4:g.Number=f.Number):Ef e g=some false:=by
 have hf:=Rb.1 hf
 obtain⟨c,hc,own,fall,x,hx,rfl⟩:=h
 have hl:=(M4 hc).2.1
 obtain⟨a1,a2,a3,a4,a5,a6,a7,a8,a9,a10⟩:=g
 dsimp only at h1 h2 h3 h4
 subst h1 h2 h3 h4
 unfold bL at hf
 simp only [aHm,aDv,aFr,aJh,aIm] at hf
 unfold Ef
 rcases hf with (((((rfl | rfl) | ⟨n,hn,rfl⟩) | ⟨y,rfl,rfl⟩) | ⟨n,hn,rfl⟩) | ⟨n,hn,rfl⟩)
 ·show cond (!decide (Sr 0=Sr 0)) _ (cond (decide ((5:Int)=2)) _ (cond (decide ((5:Int)=3)) _ (cond (decide ((5:Int)=4)) _ (cond (decide ((5:Int)=5)) (some (!decide ((1:Int)=1))) _))))=_
  rfl
 ·show cond (!decide (Sr 0=Sr 0)) _ (cond (decide ((4:Int)=2)) _ (cond (decide ((4:Int)=3)) _ (cond (decide ((4:Int)=4)) (some (!decide (c.1=c.1))) _)))=_
  rw [aAv (rfl:c.1=c.1),aAv (rfl:Sr 0=Sr 0)]
  rfl
 ·show cond (!decide (Sr 0=Sr 0)) _ (cond (decide ((2:Int)=2)) ((C5 c.2 n).bind fun y=>some (!y)) _)=_
  rw [H3 _ _ (by omega),aAv hn,aAv (rfl:Sr 0=Sr 0)]
  rfl
 ·show cond (!decide (Sr 0=Sr 0)) _ (cond (decide ((3:Int)=2)) _ (cond (decide ((3:Int)=3)) (((Bm [y] _).bind fun y=>some (decide (0<=y))).bind fun y=>some (!y)) _))=_
  rw [iN [y] _ (fun _=>true) (by unfold Lo; show (1:Nat) < _; omega) (fun z hz=>by
   rw [aEo.1 hz]
   show Ei y _=_
   unfold Ei
   show cond (decide (y.Key=y.Key)) (some (decide (y.KeyId=y.KeyId))) _=_
   rw [aAv rfl,aAv rfl]; rfl),aAv (rfl:Sr 0=Sr 0)]
  rfl
 ·show cond (!decide (Sr 0=Sr 0)) _ (cond (decide ((6:Int)=2)) _ (cond (decide ((6:Int)=3)) _ (cond (decide ((6:Int)=4)) _ (cond (decide ((6:Int)=5)) _ (cond (decide ((6:Int)=6)) ((C5 [1] n).bind fun y=>some (!y)) _)))))=_
  rw [H3 [1] n (by show (1:Nat) < _; omega),aAv (show n∈[(1:Int)] by rw [hn]; simp),aAv (rfl:Sr 0=Sr 0)]
  rfl
 ·show cond (!decide (Sr 0=Sr 0)) _ (cond (decide ((1:Int)=2)) _ (cond (decide ((1:Int)=3)) _ (cond (decide ((1:Int)=4)) _ (cond (decide ((1:Int)=5)) _ (cond (decide ((1:Int)=6)) _ _)))))=_
  rw [aAv (rfl:Sr 0=Sr 0)]
  rfl
theorem fI:H8=some true:=by
 unfold H8 Mh
 rw [aAf]
 have c1:C5 [10] 2=some false:=by rw [H3 _ _ (by decide)]; rfl
 have c2:C5 [10] 10=some true:=by rw [H3 _ _ (by decide)]; rfl
 unfold Ef
 dsimp only
 rw [c1,c2,aAv (rfl:(⟨#[97,112,112]⟩:ByteArray)=⟨#[97,112,112]⟩)]
 rfl
end
section
open Go
theorem iT {s:List Aa} {f:Aa->Option Bool} (h:s.length<=1000) (hp:∀ x∈s,f x=some false):C8 s f=some false:=by
 unfold C8
 rw [Zs s f (fun _=>false) (by unfold Lo; omega) hp,aAf,Oz]
 congr 1
 rw [<- Bool.not_eq_true]
 intro q
 obtain⟨x,-,hq⟩:=aIc.1 q
 cases hq
theorem aG4 {t:List Int} (h:t.length<=400):Ok (P3 t) V9:=Ok.ret ⟨by unfold Lo; show t.length < _; omega,aK0 _,by show (0:Int)<=(t.length:Int); omega⟩
theorem rV {T S R:Type} {body:T->Option (Lp T R)} (G:Int->S->T) (n:Nat) (Inv:Nat->S->Prop) {Q:R->Prop} (h1:∀ (i:Nat) (s:S),i < n->Inv i s->Ok (body (G (i:Int) s)) (pY (fun t=>∃ s',t=G ((i + 1:Nat):Int) s'/\Inv (i + 1) s') Q))
  (h2:∀ s,Inv n s->Ok (body (G (n:Int) s)) (pY (fun _=>False) Q)) {s:S} (hs:Inv 0 s):Ok (Cp body (G 0 s)) Q:=by
 have key:∀ (k i:Nat) (s:S),i + k=n->Inv i s->Ok (Cp body (G (i:Int) s)) Q:=by
  intro k
  induction k with
  | zero=>
   intro i s hi hs
   have:i=n:=by omega
   subst this
   obtain⟨y,e,hy⟩:=h2 s hs
   cases y with
   | next t=>exact hy.elim
   | done r=>exact⟨r,T0 e,hy⟩
  | succ k ih=>
   intro i s hi hs
   obtain⟨y,e,hy⟩:=h1 i s (by omega) hs
   cases y with
   | next t=>
    obtain⟨s',rfl,h⟩:=hy
    obtain⟨r,e2,hr⟩:=ih (i + 1) s' (by omega) h
    exact⟨r,(Fl e).trans e2,hr⟩
   | done r=>exact⟨r,T0 e,hy⟩
 exact key n 0 s (by omega) hs
theorem aB1 {α:Type} {x:Option α} {c:α} (h:Ok x (fun y=>y=c)):x=some c:=by
 obtain⟨y,h,rfl⟩:=h
 exact h
structure bT (x:Am):Prop where
 len:x.Chain.length<=1000
 chain:∀ c∈x.Chain,S3 c
theorem LfM.fitI {name:ByteArray} {key:Ar} {id:Int} {x:Am} (h:LfM name key id x):bT x:=⟨by rw [h.len]; omega,fun c hc=>(h.chain c hc).2⟩
theorem Sc {x:Am} (h:bT x):De x=some x:=by
 have hl:=h.len
 unfold De
 refine aB1 (rV (fun i (q:List Ae)=>(i,q)) x.Chain.length (fun i q=>q=x.Chain.take i) (fun i q hi hq=>?_) (fun q hq=>?_) rfl)
 ·obtain⟨c,hc⟩:∃ c,x.Chain[i]?=some c:=⟨_,aA9 hi⟩
  have hn:=(h.chain c (Ff hc)).names
  have hql:q.length<=1000:=by rw [hq,aEl]; omega
  show Ok (De.l1 x (i:Int) q) _
  unfold De.l1
  rw [Gt hc,Ek (by simp; omega),aAf,Ek (by rw [aEz]; omega),aAf,H6 (by omega)]
  exact Ok.ret ⟨_,rfl,by rw [hq,Fw hc]; rfl⟩
 ·show Ok (De.l1 x (x.Chain.length:Int) q) _
  unfold De.l1
  rw [E4,hq,aI7]
  exact Ok.up (Ok.ret rfl)
structure wX (e:Af):Prop where
 few:X8 e
 ids:∀ x∈e.Identities,bT x
theorem dB {e:Af} (h:wX e):E8 e=some e:=by
 have h1:=h.few.suites
 have h2:=h.few.ids
 have h3:=h.few.anchors
 have h4:=h.few.hashes
 unfold E8
 rw [Ek (by simp; omega),aAf,Ek (by simp; omega),aAf,Ek (by simp; omega),aAf]
 refine aB1 (rV (fun i (q:List Am)=>(i,q)) e.Identities.length (fun i q=>q=e.Identities.take i) (fun i q hi hq=>?_) (fun q hq=>?_) rfl)
 ·obtain⟨c,hc⟩:∃ c,e.Identities[i]?=some c:=⟨_,aA9 hi⟩
  have hql:q.length<=50:=by rw [hq,aEl]; omega
  show Ok (E8.l1 e ([] ++ e.Suites) ([] ++ e.Anchors) ([] ++ e.Hashes) (i:Int) q) _
  unfold E8.l1
  rw [Gt hc,Sc (h.ids c (Ff hc)),aAf,Ek (by rw [aEz]; omega),aAf,H6 (by omega)]
  exact Ok.ret ⟨_,rfl,by rw [hq,Fw hc]⟩
 ·show Ok (E8.l1 e ([] ++ e.Suites) ([] ++ e.Anchors) ([] ++ e.Hashes) (e.Identities.length:Int) q) _
  unfold E8.l1
  rw [E4,hq,aI7]
  exact Ok.up (Ok.ret rfl)
theorem M3.fitE {i:Nat} {e:Af} (h:M3 i e):wX e:=by
 obtain⟨c,hc,own,fall,x,hx,rfl⟩:=h
 have:=(M4 hc).2.1
 exact⟨⟨by show c.2.length<=50; omega,by show (1:Nat)<=50; omega,by show (1:Nat)<=50; omega,by show (2:Nat)<=50; omega⟩,fun y hy=>by rw [aEo.1 hy]; exact hx.fitI⟩
theorem pA {s:Bb} (h:Rl s):Dw s=some s:=by
 have h1:=h.n2
 have h2:=h.edges.len
 have h3:=h.items.1
 unfold Dw
 rw [Ek (by simp; omega),aAf]
 refine aB1 (rV (fun i (q:List Af)=>(i,q)) s.Endpoints.length (fun i q=>q=s.Endpoints.take i) (fun i q hi hq=>?_) (fun q hq=>?_) rfl)
 ·obtain⟨c,hc⟩:∃ c,s.Endpoints[i]?=some c:=⟨_,aA9 hi⟩
  have hql:q.length<=50:=by rw [hq,aEl]; omega
  show Ok (Dw.l1 s ([] ++ s.Edges) (i:Int) q) _
  unfold Dw.l1
  rw [Gt hc,dB (h.eps i c hc).fitE,aAf,Ek (by rw [aEz]; omega),aAf,H6 (by omega)]
  exact Ok.ret ⟨_,rfl,by rw [hq,Fw hc]⟩
 ·show Ok (Dw.l1 s ([] ++ s.Edges) (s.Endpoints.length:Int) q) _
  unfold Dw.l1
  rw [E4,hq,aI7]
  refine Ok.up ?_
  refine rV (fun i (q:List Cf)=>(i,q)) s.Items.length (fun i q=>q=s.Items.take i) (fun i q hi hq=>?_) (fun q hq=>?_) rfl
  ·obtain⟨c,hc⟩:∃ c,s.Items[i]?=some c:=⟨_,aA9 hi⟩
   have hql:q.length<=50:=by rw [hq,aEl]; omega
   have hlk:=(h.items.2 c (Ff hc)).ok.len
   show Ok (Dw.l2 s ([] ++ s.Edges) s.Endpoints (i:Int) q) _
   unfold Dw.l2
   rw [Gt hc,Ek (by simp; omega),aAf,Ek (by rw [aEz]; omega),aAf,H6 (by omega)]
   exact Ok.ret ⟨_,rfl,by rw [hq,Fw hc]; rfl⟩
  ·show Ok (Dw.l2 s ([] ++ s.Edges) s.Endpoints (s.Items.length:Int) q) _
   unfold Dw.l2
   rw [E4,hq,aI7]
   exact Ok.up (Ok.ret rfl)
theorem Wi (l:List Int) (n:Int) (hl:l.length<=1000):Dg l n=some (Ni l fun x=>decide (x=n)):=by
 unfold Dg
 refine Rk l _ (by unfold Lo; omega) (fun i x hx=>?_) ?_
 ·show Dg.l1 l n (i:Int)=_
  unfold Dg.l1
  rw [Gt hx]
  cases decide (x=n) <;> rfl
 ·show Dg.l1 l n (l.length:Int)=_
  unfold Dg.l1
  rw [E4]; rfl
theorem aCn {l:List Int} {n:Int}:(l.any fun x=>decide (x=n))=decide (n∈l):=by
 cases ha:l.any fun x=>decide (x=n) with
 | true=>
  obtain⟨y,h1,h2⟩:=aIc.1 ha
  have:=aBs h2
  subst this
  exact (aAv h1).symm
 | false=>exact (aAy fun hm=>aKr.1 ha n hm (aAv rfl)).symm
theorem rX {l:List Int} {n:Int}:decide (0<=Ni l fun x=>decide (x=n))=decide (n∈l):=(Oz l _).trans aCn
theorem eV {l:List Int} (hl:l.length<=1000) {at':Int} (h0:0<=at') (h1:at'<=l.length) (n:Int):∃ r,Ky l at' n=some r/\n∈r/\r.length<=l.length + 1:=by
 unfold Ky
 have q1:(l.take at'.toNat).length<=l.length:=by rw [aEl]; omega
 have q2:(l.drop at'.toNat).length=l.length - at'.toNat:=aHh
 have q3:(l.take at'.toNat).length=min at'.toNat l.length:=aEl
 rw [aW (by omega),aAf]
 have e1:(l.drop (0:Int).toNat).take (at'.toNat - (0:Int).toNat)=l.take at'.toNat:=by simp
 rw [e1,Ek (by simp only [aLh]; omega),aAf,Ek (by simp only [aIz,aEz]; omega),aAf,aW (by omega),aAf]
 have e2:(l.drop at'.toNat).take ((l.length:Int).toNat - at'.toNat)=l.drop at'.toNat:=aHj (by rw [q2]; omega)
 rw [e2,Ek (by simp only [aIz,aEm,aEz]; omega),aAf]
 refine⟨_,rfl,by simp,?_⟩
 simp only [aIz,aEm,aEz]
 omega
theorem Vf {l:List Int} (hl:l.length<=1000) {n:Int} (hn:n∈l) (hd:l.Nodup):∃ r,Hq l (Ni l fun x=>decide (x=n))=some r/\n∉r/\r.length<=l.length:=by
 obtain⟨i,hi,hx,hfi⟩:∃ i,∃ hi:i < l.length,l[i]=n/\Ni l (fun x=>decide (x=n))=(i:Int):=by
  unfold Ni
  cases hf:l.findIdx? (fun x=>decide (x=n)) with
  | none=>
   have:=aJ8.1 hf n hn
   rw [aAv rfl] at this; cases this
  | some i=>
   obtain⟨h1,h2,-⟩:=aH6.1 hf
   exact⟨i,h1,aBs h2,rfl⟩
 rw [hfi]
 unfold Hq
 have q1:(l.take i).length<=l.length:=by rw [aEl]; omega
 have q2:(l.drop (i + 1)).length=l.length - (i + 1):=aHh
 have q3:(l.take i).length=min i l.length:=aEl
 rw [aW (by omega),aAf]
 have e1:(l.drop (0:Int).toNat).take ((i:Int).toNat - (0:Int).toNat)=l.take i:=by simp
 rw [e1,Ek (by simp only [aLh]; omega),aAf,H6 (by omega),aW (by omega),aAf]
 have e2:(l.drop ((i + 1:Nat):Int).toNat).take ((l.length:Int).toNat - ((i + 1:Nat):Int).toNat)=l.drop (i + 1):=aHj (by rw [aHh]; omega)
 rw [e2,Ek (by simp only [aIz]; omega),aAf]
 refine⟨_,rfl,fun hm=>?_,by simp only [aIz,aEm]; omega⟩
 have hp:=aJ9.1 hd
 rw [aIz] at hm
 rcases aHm.1 hm with hm | hm
 ·obtain⟨j,hj,e⟩:=aKv.1 hm
  exact hp j i (by omega) hi (by omega) (e.trans hx.symm)
 ·obtain⟨j,hj,e⟩:=List.mem_drop_iff_getElem.1 hm
  exact hp i (i + 1 + j) hi (by omega) (by omega) (hx.trans e.symm)
theorem dH {l:List Int} (hl:l.length<=1000) (n:Int):∃ r,Ct l n=some r/\n∈r/\r.length<=l.length + 1:=by
 have key:Ok (Ct l n) (fun r=>n∈r/\r.length<=l.length + 1):=by
  unfold Ct
  have fin:∀ i:Nat,i<=l.length->Ok (Ct.j2 l n (i:Int) false) (pY (fun t=>∃ s':Unit,t=((i + 1:Nat):Int)/\True) (fun r=>n∈r/\r.length<=l.length + 1)):=fun i hi=>by
   obtain⟨r,r1,r2,r3⟩:=eV hl (at':=(i:Int)) (by omega) (by omega) n
   unfold Ct.j2
   rw [aDk,r1]
   exact Ok.up (Ok.ret ⟨r2,r3⟩)
  refine rV (fun i (q:Unit)=>i) l.length (fun _ _=>True) (fun i q hi _=>?_) (fun q _=>?_) (s:=()) trivial
  ·obtain⟨x,hx⟩:∃ x,l[i]?=some x:=⟨_,aA9 hi⟩
   show Ok (Ct.l1 l n (i:Int)) _
   unfold Ct.l1
   rw [Gt hx]
   cases decide (x < n) with
   | false=>exact fin i (by omega)
   | true=>
    unfold Ct.j2
    rw [aEn,H6 (by omega)]
    exact Ok.ret ⟨(),rfl,trivial⟩
  ·show Ok (Ct.l1 l n (l.length:Int)) _
   unfold Ct.l1
   rw [E4]
   obtain⟨r,r1,r2,r3⟩:=eV hl (at':=(l.length:Int)) (by omega) (by omega) n
   unfold Ct.j2
   rw [aDk,r1]
   exact Ok.up (Ok.ret ⟨r2,r3⟩)
 obtain⟨r,h1,h2⟩:=key
 exact⟨r,h1,h2⟩
theorem fO {e:Af} {x:Am} (h:e.Identities=[x]) (id:Int):Cu e id=some (bif decide (x.KeyId=id) then (1,0) else (0,-1)):=by
 have e1:Cu.l1 e id 0 (-1) 0=some (.next (bif decide (x.KeyId=id) then (1,0,1) else (0,-1,1))):=by
  unfold Cu.l1
  rw [h]
  show cond (decide (x.KeyId=id)) _ _=_
  cases decide (x.KeyId=id) <;> rfl
 unfold Cu
 rw [Fl (body:=fun q'=>Cu.l1 e id q'.1 q'.2.1 q'.2.2) e1]
 have e2:∀ a b:Int,Cu.l1 e id a b 1=up (some (a,b)):=fun a b=>by
  unfold Cu.l1
  rw [h]; rfl
 cases decide (x.KeyId=id) with
 | true=>exact Et (body:=fun q'=>Cu.l1 e id q'.1 q'.2.1 q'.2.2) (e2 1 0)
 | false=>exact Et (body:=fun q'=>Cu.l1 e id q'.1 q'.2.1 q'.2.2) (e2 0 (-1))
theorem oB (x:Am):∃ b,Cd x (Am.mk (Ar.mk 0 0) 0 [])=some b:=by
 have j:∀ b:Bool,(b=false->x.Chain.length=0)->∃ r,Cd.j1 x (Am.mk (Ar.mk 0 0) 0 []) b=some r:=fun b hb=>by
  unfold Cd.j1
  cases b with
  | true=>exact⟨_,rfl⟩
  | false=>
   refine⟨true,?_⟩
   rw [aDk]
   refine Et (body:=fun q'=>Cd.l2 x _ q') (x:=some true) ?_
   unfold Cd.l2
   rw [hb rfl]; rfl
 unfold Cd
 cases decide (x.Key=Ar.mk 0 0) with
 | false=>exact j true (fun h=>by cases h)
 | true=>
  rw [aI6,aDk]
  cases decide (x.KeyId=0) with
  | false=>exact j true (fun h=>by cases h)
  | true=>
   rw [aI6,aDk]
   refine j _ fun h=>?_
   have h:(!decide ((x.Chain.length:Int)=((0:Nat):Int)))=false:=h
   rw [Bool.not_eq_false',decide_eq_true_iff] at h
   omega
structure Alw (e:Af) (x:Am) (c:A7):Prop where
 a1:c.Kind=1->(0<=c.At/\c.At<=e.Suites.length)/\c.Number∉e.Suites
 a2:c.Kind=2->c.Number∈e.Suites
 a3:c.Kind=3->e.Most≠c.Number
 a4:c.Kind=4->e.Least≠c.Number
 a5:c.Kind=5->(0<=c.At/\c.At<=e.Identities.length)/\x.KeyId≠c.Identity.KeyId
 a6:c.Kind=6->x.KeyId=c.Number
 a7:c.Kind=7->c.Number∉e.Anchors
 a8:c.Kind=8->c.Number∈e.Anchors
 a10:c.Kind=10->c.Number∈e.Hashes
section
variable {e:Af} {x:Am} (he:e.Identities=[x]) (c:A7)
include he
theorem al8:Ok (Ax.j8 e c) (fun y=>y=0->(c.Kind=6->x.KeyId=c.Number)):=by
 unfold Ax.j8
 refine Ok.cond (fun h=>?_) (fun h=>Ok.ret fun _ h6=>absurd h6 (aDm h))
 rw [fO he,aAf]
 cases hd:decide (x.KeyId=c.Number) with
 | true=>exact Ok.ret fun _ _=>aBs hd
 | false=>exact Ok.ret fun h0=>by cases h0
theorem al7 (b:Bool):Ok (Ax.j7 e c b) (fun y=>y=0->b=false/\(c.Kind=5->x.KeyId≠c.Identity.KeyId)/\(c.Kind=6->x.KeyId=c.Number)):=by
 unfold Ax.j7
 cases b with
 | true=>exact Ok.ret fun h0=>by cases h0
 | false=>
  rw [aDk]
  refine Ok.cond (fun h=>?_) (fun h=>(al8 he c).mono fun y hy h0=>⟨rfl,fun h5=>absurd h5 (aDm h),hy h0⟩)
  rw [fO he,aAf]
  cases hd:decide (x.KeyId=c.Identity.KeyId) with
  | true=>exact Ok.ret fun h0=>by cases h0
  | false=>exact (al8 he c).mono fun y hy h0=>⟨rfl,fun _=>aDm hd,hy h0⟩
theorem al6 (b:Bool):Ok (Ax.j6 e c b) (fun y=>y=0->b=false/\(c.Kind=3->e.Most≠c.Number)/\(c.Kind=4->e.Least≠c.Number)/\(c.Kind=5->x.KeyId≠c.Identity.KeyId)/\(c.Kind=6->x.KeyId=c.Number)):=by
 unfold Ax.j6
 cases b with
 | true=>exact Ok.ret fun h0=>by cases h0
 | false=>
  rw [aDk]
  unfold Mq
  by_cases k3:c.Kind=3
  ·rw [k3]
   show Ok (Ax.j7 e c (decide (e.Most=c.Number))) _
   exact (al7 he c _).mono fun y hy h0=>⟨rfl,fun _=>aDm (hy h0).1,fun h=>by omega,fun h=>by omega,fun h=>by omega⟩
  ·rw [aAy k3,aDk]
   by_cases k4:c.Kind=4
   ·rw [k4]
    show Ok (Ax.j7 e c (decide (e.Least=c.Number))) _
    exact (al7 he c _).mono fun y hy h0=>⟨rfl,fun h=>by omega,fun _=>aDm (hy h0).1,fun h=>by omega,fun h=>by omega⟩
   ·rw [aAy k4,aDk]
    have go:∀ b,Ok (Ax.j7 e c b) (fun y=>y=0->false=false/\(c.Kind=3->e.Most≠c.Number)/\(c.Kind=4->e.Least≠c.Number)/\(c.Kind=5->x.KeyId≠c.Identity.KeyId)/\(c.Kind=6->x.KeyId=c.Number)):=fun b=>(al7 he c b).mono fun y hy h0=>⟨rfl,fun h=>absurd h k3,fun h=>absurd h k4,(hy h0).2⟩
    unfold M8
    cases decide (c.Kind=11) with
    | true=>cases e.Fallback <;> exact go _
    | false=>
     cases decide (c.Kind=12) with
     | true=>cases e.OwnOrder <;> exact go _
     | false=>exact go false
structure Alr (e:Af) (x:Am) (c:A7):Prop where
 a1:c.Kind=1->c.Number∉e.Suites
 a2:c.Kind=2->c.Number∈e.Suites
 a3:c.Kind=3->e.Most≠c.Number
 a4:c.Kind=4->e.Least≠c.Number
 a5:c.Kind=5->x.KeyId≠c.Identity.KeyId
 a6:c.Kind=6->x.KeyId=c.Number
 a7:c.Kind=7->c.Number∉e.Anchors
 a8:c.Kind=8->c.Number∈e.Anchors
 a10:c.Kind=10->c.Number∈e.Hashes
theorem al5 (hf:X8 e):Ok (Ax.j5 e c) (fun y=>y=0->Alr e x c):=by
 have h1:=hf.suites
 have h3:=hf.anchors
 have h4:=hf.hashes
 have add:∀ l:List Int,l.length<=50->∀ ad:Bool,(Dg l c.Number).bind (fun y_4=>Ax.j6 e c (decide ((decide (0<=y_4))=ad)))=Ax.j6 e c (decide (decide (c.Number∈l)=ad)):=fun l hl ad=>by
  rw [Wi _ _ (by omega),aAf,rX]
 unfold Ax.j5
 by_cases k1:c.Kind=1
 ·have:B8 e c.Kind=some (e.Suites,true,true):=by rw [k1]; rfl
  rw [this,aAf]
  show Ok ((Dg e.Suites c.Number).bind _) _
  rw [add _ h1]
  exact (al6 he c _).mono fun y hy h0=>⟨fun _ hm=>(by have:=(hy h0).1; rw [aAv hm] at this; cases this),fun h=>by omega,fun h=>by omega,fun h=>by omega,fun h=>by omega,fun h=>by omega,fun h=>by omega,fun h=>by omega,fun h=>by omega⟩
 by_cases k2:c.Kind=2
 ·have:B8 e c.Kind=some (e.Suites,false,true):=by rw [k2]; rfl
  rw [this,aAf]
  show Ok ((Dg e.Suites c.Number).bind _) _
  rw [add _ h1]
  exact (al6 he c _).mono fun y hy h0=>⟨fun h=>by omega,fun _=>aKw fun hm=>(by have:=(hy h0).1; rw [aAy hm] at this; cases this),fun h=>by omega,fun h=>by omega,fun h=>by omega,fun h=>by omega,fun h=>by omega,fun h=>by omega,fun h=>by omega⟩
 by_cases k7:c.Kind=7
 ·have:B8 e c.Kind=some (e.Anchors,true,true):=by rw [k7]; rfl
  rw [this,aAf]
  show Ok ((Dg e.Anchors c.Number).bind _) _
  rw [add _ h3]
  exact (al6 he c _).mono fun y hy h0=>⟨fun h=>by omega,fun h=>by omega,fun h=>by omega,fun h=>by omega,fun h=>by omega,fun h=>by omega,fun _ hm=>(by have:=(hy h0).1; rw [aAv hm] at this; cases this),fun h=>by omega,fun h=>by omega⟩
 by_cases k8:c.Kind=8
 ·have:B8 e c.Kind=some (e.Anchors,false,true):=by rw [k8]; rfl
  rw [this,aAf]
  show Ok ((Dg e.Anchors c.Number).bind _) _
  rw [add _ h3]
  exact (al6 he c _).mono fun y hy h0=>⟨fun h=>by omega,fun h=>by omega,fun h=>by omega,fun h=>by omega,fun h=>by omega,fun h=>by omega,fun h=>by omega,fun _=>aKw fun hm=>(by have:=(hy h0).1; rw [aAy hm] at this; cases this),fun h=>by omega⟩
 by_cases k9:c.Kind=9
 ·have:B8 e c.Kind=some (e.Hashes,true,true):=by rw [k9]; rfl
  rw [this,aAf]
  show Ok ((Dg e.Hashes c.Number).bind _) _
  rw [add _ h4]
  exact (al6 he c _).mono fun y hy h0=>⟨fun h=>by omega,fun h=>by omega,fun h=>by omega,fun h=>by omega,fun h=>by omega,fun h=>by omega,fun h=>by omega,fun h=>by omega,fun h=>by omega⟩
 by_cases k10:c.Kind=10
 ·have:B8 e c.Kind=some (e.Hashes,false,true):=by rw [k10]; rfl
  rw [this,aAf]
  show Ok ((Dg e.Hashes c.Number).bind _) _
  rw [add _ h4]
  exact (al6 he c _).mono fun y hy h0=>⟨fun h=>by omega,fun h=>by omega,fun h=>by omega,fun h=>by omega,fun h=>by omega,fun h=>by omega,fun h=>by omega,fun h=>by omega,fun _=>aKw fun hm=>(by have:=(hy h0).1; rw [aAy hm] at this; cases this)⟩
 have:B8 e c.Kind=some ([],false,false):=by
  unfold B8 B8.j1 B8.j2 B8.j3
  rw [aAy k1,aDk,aAy k2,aDk,aAy k7,aDk,aAy k8,aDk,aAy k9,aDk,aAy k10,aDk]
 rw [this,aAf]
 show Ok (Ax.j6 e c false) _
 exact (al6 he c _).mono fun y hy h0=>⟨fun h=>absurd h k1,fun h=>absurd h k2,(hy h0).2.1,(hy h0).2.2.1,(hy h0).2.2.2.1,(hy h0).2.2.2.2,fun h=>absurd h k7,fun h=>absurd h k8,fun h=>absurd h k10⟩
theorem lT (hf:X8 e) (hc:A5 e=some 0):Ok (Ax e c) (fun y=>y=0->Alw e x c):=by
 have fin:(c.Kind=1->0<=c.At/\c.At<=e.Suites.length)->(c.Kind=5->0<=c.At/\c.At<=e.Identities.length)->Ok (Ax.j5 e c) (fun y=>y=0->Alw e x c):=fun h1 h5=>(al5 he c hf).mono fun y hy h0=>by
  have a:=hy h0
  exact⟨fun k=>⟨h1 k,a.a1 k⟩,a.a2,a.a3,a.a4,fun k=>⟨h5 k,a.a5 k⟩,a.a6,a.a7,a.a8,a.a10⟩
 obtain⟨b,hb⟩:=oB c.Identity
 unfold Ax Ax.j1 Ax.j2 Ax.j3 Ax.j4
 rw [hc,aAf]
 show Ok ((Kw c).bind _) _
 have hfm:∃ z,Kw c=some z:=by
  unfold Kw
  rw [hb,aAf]
  cases decide (c.Kind=1)
  ·cases decide (c.Kind=5)
   ·cases decide (1<=c.Kind)
    ·exact⟨_,rfl⟩
    ·cases decide (c.Kind<=12)
     ·exact⟨_,rfl⟩
     ·cases b <;> exact⟨_,rfl⟩
   ·exact⟨_,rfl⟩
  ·exact⟨_,rfl⟩
 obtain⟨z,hz⟩:=hfm
 rw [hz,aAf]
 cases z with
 | false=>exact Ok.ret fun h0=>by cases h0
 | true=>
  rw [aI6,aDk]
  by_cases k1:c.Kind=1
  ·rw [aAv k1,aEn]
   by_cases g0:c.At < 0
   ·rw [aAv g0]; exact Ok.ret fun h0=>by cases h0
   ·rw [aAy g0,aDk]
    by_cases g1:(e.Suites.length:Int) < c.At
    ·rw [aAv g1]; exact Ok.ret fun h0=>by cases h0
    ·rw [aAy g1,aDk]
     exact fin (fun _=>by omega) (fun h=>by omega)
  ·rw [aAy k1,aDk]
   by_cases k5:c.Kind=5
   ·rw [aAv k5,aEn]
    by_cases g0:c.At < 0
    ·rw [aAv g0]; exact Ok.ret fun h0=>by cases h0
    ·rw [aAy g0,aDk]
     by_cases g1:(e.Identities.length:Int) < c.At
     ·rw [aAv g1]; exact Ok.ret fun h0=>by cases h0
     ·rw [aAy g1,aDk]
      exact fin (fun h=>by omega) (fun _=>by omega)
   ·rw [aAy k5,aDk]
    have F:=fin (fun h=>absurd h k1) (fun h=>absurd h k5)
    cases decide (c.Kind=11)
    ·cases decide (c.Kind=12)
     ·exact F
     ·cases decide (c.Number=0)
      ·cases decide (c.Number=1)
       ·exact Ok.ret fun h0=>by cases h0
       ·exact F
      ·exact F
    ·cases decide (c.Number=0)
     ·cases decide (c.Number=1)
      ·exact Ok.ret fun h0=>by cases h0
      ·exact F
     ·exact F
end
end
section
open Go
structure pZ (e:Af) (c:A7) (z:Af):Prop where
 name:z.Name=e.Name
 fit:wX z
 has:c.Kind<=8->z.Hashes=e.Hashes
 c1:c.Kind=1->c.Number∉e.Suites/\c.Number∈z.Suites
 c2:c.Kind=2->c.Number∈e.Suites/\c.Number∉z.Suites
 c3:c.Kind=3->z.Most≠e.Most
 c4:c.Kind=4->z.Least≠e.Least
 c5:c.Kind=5->∃ i∈z.Identities,∀ x∈e.Identities,x.KeyId≠i.KeyId
 c6:c.Kind=6->z.Identities=[]
 c7:c.Kind=7->c.Number∉e.Anchors/\c.Number∈z.Anchors
 c8:c.Kind=8->c.Number∈e.Anchors/\c.Number∉z.Anchors
theorem yW {e:Af} (h:M3 0 e) {x:Am} (hx:e.Identities=[x]) {c:A7} (hi:bT c.Identity) (ha:Alw e x c):Ok (Dn e c) (pZ e c):=by
 have hf:=h.fitE
 have h1:=hf.few.suites
 have h3:=hf.few.anchors
 have h4:=hf.few.hashes
 have hn5:e.Suites.length<=5/\e.Suites.Nodup/\e.Anchors=[1]/\e.Hashes=[2,3]:=by
  obtain⟨c',hc,own,fall,y,hy,rfl⟩:=h
  exact⟨(M4 hc).2.1,(M4 hc).2.2.2.1,rfl,rfl⟩
 obtain⟨s5,snd,an,ha'⟩:=hn5
 have hxi:bT x:=hf.ids x (by rw [hx]; exact .head _)
 have few:∀ {S:List Int} {I:List Am} {A H:List Int} {a b:Int} {o f:Bool},S.length<=50->I.length<=50->A.length<=50->H.length<=50->(∀ y∈I,bT y)->wX (Af.mk e.Name a b S o I A H f):=fun h1 h2 h3 h4 h5=>⟨⟨h1,h2,h3,h4⟩,h5⟩
 have i1:e.Identities.length<=50:=by rw [hx]; show (1:Nat)<=50; omega
 have jj:∀ (k:Int),c.Kind≠k->decide (c.Kind=k)=false:=fun k hk=>aAy hk
 unfold Dn Dn.j1
 rw [dB hf,aAf]
 by_cases k1:c.Kind=1
 ·rw [aAv k1,aEn]
  obtain⟨⟨b1,b2⟩,b3⟩:=ha.a1 k1
  obtain⟨r,r1,r2,r3⟩:=eV (by omega) b1 b2 c.Number
  rw [r1,aAf]
  exact Ok.ret ⟨rfl,few (by omega) i1 h3 h4 hf.ids,fun _=>rfl,fun _=>⟨b3,r2⟩,fun k=>by omega,fun k=>by omega,fun k=>by omega,fun k=>by omega,fun k=>by omega,fun k=>by omega,fun k=>by omega⟩
 rw [jj 1 k1,aDk]
 by_cases k2:c.Kind=2
 ·rw [aAv k2,aEn]
  have b:=ha.a2 k2
  obtain⟨r,r1,r2,r3⟩:=Vf (l:=e.Suites) (by omega) b snd
  rw [Wi _ _ (by omega),aAf,r1,aAf]
  exact Ok.ret ⟨rfl,few (by omega) i1 h3 h4 hf.ids,fun _=>rfl,fun k=>by omega,fun _=>⟨b,r2⟩,fun k=>by omega,fun k=>by omega,fun k=>by omega,fun k=>by omega,fun k=>by omega,fun k=>by omega⟩
 rw [jj 2 k2,aDk]
 by_cases k3:c.Kind=3
 ·rw [aAv k3,aEn]
  exact Ok.ret ⟨rfl,few h1 i1 h3 h4 hf.ids,fun _=>rfl,fun k=>by omega,fun k=>by omega,fun _ q=>ha.a3 k3 q.symm,fun k=>by omega,fun k=>by omega,fun k=>by omega,fun k=>by omega,fun k=>by omega⟩
 rw [jj 3 k3,aDk]
 by_cases k4:c.Kind=4
 ·rw [aAv k4,aEn]
  exact Ok.ret ⟨rfl,few h1 i1 h3 h4 hf.ids,fun _=>rfl,fun k=>by omega,fun k=>by omega,fun k=>by omega,fun _ q=>ha.a4 k4 q.symm,fun k=>by omega,fun k=>by omega,fun k=>by omega,fun k=>by omega⟩
 rw [jj 4 k4,aDk]
 by_cases k5:c.Kind=5
 ·rw [aAv k5,aEn]
  obtain⟨⟨b1,b2⟩,b3⟩:=ha.a5 k5
  have hl:(e.Identities.length:Int)=1:=by rw [hx]; rfl
  rw [Sc hi]
  have q1:(e.Identities.take c.At.toNat).length<=1:=by rw [aEl]; omega
  have q2:(e.Identities.drop c.At.toNat).length<=1:=by rw [aHh]; omega
  rw [aW (by omega),aAf]
  have e1:(e.Identities.drop (0:Int).toNat).take (c.At.toNat - (0:Int).toNat)=e.Identities.take c.At.toNat:=by simp
  rw [e1,Ek (by simp only [aLh]; omega),aAf,aAf,Ek (by simp only [aIz,aEz]; omega),aAf,aW (by omega),aAf]
  have e2:(e.Identities.drop c.At.toNat).take ((e.Identities.length:Int).toNat - c.At.toNat)=e.Identities.drop c.At.toNat:=aHj (by rw [aHh]; omega)
  rw [e2,Ek (by simp only [aIz,aEm,aEz]; omega),aAf]
  refine Ok.ret ⟨rfl,few h1 (by simp only [aIz,aEm,aEz]; omega) h3 h4 (fun y hy=>?_),fun _=>rfl,fun k=>by omega,fun k=>by omega,fun k=>by omega,fun k=>by omega,fun _=>⟨c.Identity,?_,fun y hy=>?_⟩,fun k=>by omega,fun k=>by omega,fun k=>by omega⟩
  ·rw [aIz] at hy
   rcases aHm.1 hy with hy | hy
   ·rcases aHm.1 hy with hy | hy
    ·exact hf.ids y (aJz hy)
    ·rw [aEo.1 hy]; exact hi
   ·exact hf.ids y (aJy hy)
  ·show c.Identity∈[] ++ e.Identities.take c.At.toNat ++ [c.Identity] ++ e.Identities.drop c.At.toNat
   simp
  ·rw [hx,aEo] at hy
   rw [hy]; exact b3
 rw [jj 5 k5,aDk]
 by_cases k6:c.Kind=6
 ·rw [aAv k6,aEn,fO hx,aAv (ha.a6 k6),aAf,hx]
  have:((U0 [x] 0 0).bind fun l_6=>(Ib 192 ([]:List Am) l_6).bind fun l_7=>(U0 [x] (W (0 + 1)) (([x]:List Am).length:Int)).bind fun l_8=>(Ib 192 l_7 l_8).bind fun l_9=>some (Af.mk e.Name e.Least e.Most e.Suites e.OwnOrder l_9 e.Anchors e.Hashes e.Fallback))=some (Af.mk e.Name e.Least e.Most e.Suites e.OwnOrder [] e.Anchors e.Hashes e.Fallback):=by
   rw [aW (l:=[x]) (a:=0) (b:=0) (by simp),aAf]
   show ((Ib 192 ([]:List Am) []).bind _)=_
   rw [Ek (by simp),aAf,show W (0 + 1)=1 from Ex (by omega),aW (l:=[x]) (a:=1) (by simp),aAf]
   show ((Ib 192 ([]:List Am) []).bind _)=_
   rw [Ek (by simp),aAf]; rfl
  refine Ok.of this ⟨rfl,few h1 (by simp) h3 h4 (fun y hy=>by cases hy),fun _=>rfl,fun k=>by omega,fun k=>by omega,fun k=>by omega,fun k=>by omega,fun k=>by omega,fun _=>rfl,fun k=>by omega,fun k=>by omega⟩
 rw [jj 6 k6,aDk]
 by_cases k7:c.Kind=7
 ·rw [aAv k7,aEn]
  obtain⟨r,r1,r2,r3⟩:=dH (l:=e.Anchors) (by omega) c.Number
  rw [r1,aAf]
  have:e.Anchors.length=1:=by rw [an]; rfl
  exact Ok.ret ⟨rfl,few h1 i1 (by omega) h4 hf.ids,fun _=>rfl,fun k=>by omega,fun k=>by omega,fun k=>by omega,fun k=>by omega,fun k=>by omega,fun k=>by omega,fun _=>⟨ha.a7 k7,r2⟩,fun k=>by omega⟩
 rw [jj 7 k7,aDk]
 by_cases k8:c.Kind=8
 ·rw [aAv k8,aEn]
  obtain⟨r,r1,r2,r3⟩:=Vf (l:=e.Anchors) (by omega) (ha.a8 k8) (by rw [an]; simp)
  rw [Wi _ _ (by omega),aAf,r1,aAf]
  exact Ok.ret ⟨rfl,few h1 i1 (by omega) h4 hf.ids,fun _=>rfl,fun k=>by omega,fun k=>by omega,fun k=>by omega,fun k=>by omega,fun k=>by omega,fun k=>by omega,fun k=>by omega,fun _=>⟨ha.a8 k8,r2⟩⟩
 rw [jj 8 k8,aDk]
 by_cases k9:c.Kind=9
 ·rw [aAv k9,aEn]
  obtain⟨r,r1,r2,r3⟩:=dH (l:=e.Hashes) (by omega) c.Number
  rw [r1,aAf]
  have:e.Hashes.length=2:=by rw [ha']; rfl
  exact Ok.ret ⟨rfl,few h1 i1 h3 (by omega) hf.ids,fun k=>by omega,fun k=>by omega,fun k=>by omega,fun k=>by omega,fun k=>by omega,fun k=>by omega,fun k=>by omega,fun k=>by omega,fun k=>by omega⟩
 rw [jj 9 k9,aDk]
 by_cases k10:c.Kind=10
 ·rw [aAv k10,aEn]
  obtain⟨r,r1,r2,r3⟩:=Vf (l:=e.Hashes) (by omega) (ha.a10 k10) (by rw [ha']; decide)
  rw [Wi _ _ (by omega),aAf,r1,aAf]
  exact Ok.ret ⟨rfl,few h1 i1 h3 (by omega) hf.ids,fun k=>by omega,fun k=>by omega,fun k=>by omega,fun k=>by omega,fun k=>by omega,fun k=>by omega,fun k=>by omega,fun k=>by omega,fun k=>by omega⟩
 rw [jj 10 k10,aDk]
 have F:∀ o f:Bool,pZ e c (Af.mk e.Name e.Least e.Most e.Suites o e.Identities e.Anchors e.Hashes f):=fun o f=>⟨rfl,few h1 i1 h3 h4 hf.ids,fun _=>rfl,fun k=>absurd k k1,fun k=>absurd k k2,fun k=>absurd k k3,fun k=>absurd k k4,fun k=>absurd k k5,fun k=>absurd k k6,fun k=>absurd k k7,fun k=>absurd k k8⟩
 cases decide (c.Kind=11)
 ·cases decide (c.Kind=12)
  ·exact Ok.ret (F _ _)
  ·exact Ok.ret (F _ _)
 ·exact Ok.ret (F _ _)
theorem pZ.fitEp {e z:Af} {c:A7} (h:M3 0 e) (g:pZ e c z):Ze z:=by
 have h1:=g.fit.few.suites
 have h2:=g.fit.few.ids
 have h3:=g.fit.few.anchors
 have h4:=g.fit.few.hashes
 have hn:=(Zg (i:=0) (by omega)).2.1
 exact⟨by rw [g.name,Tu h]; omega,by unfold Lo; omega,by unfold Lo; omega,by unfold Lo; omega,by unfold Lo; omega,fun y hy d hd=>((g.fit.ids y hy).chain d hd).w⟩
theorem qC {e:Af} (h:M3 0 e) {c:A7} (hi:bT c.Identity):Ok (K7 e c) (fun y=>y.2=0->nO y.1/\pZ e c y.1):=by
 obtain⟨x,hx⟩:∃ x,e.Identities=[x]:=by
  obtain⟨c',hc,own,fall,y,hy,rfl⟩:=h
  exact⟨y,rfl⟩
 have hc:A5 e=some 0:=Dc.zero (Oc (fM (by omega) h)) (Z4 (by omega) h)
 unfold K7
 refine Ok.bind (lT hx c h.fitE.few hc) fun y hy=>?_
 by_cases h0:y=0
 ·rw [aAv h0,aI6,aDk]
  refine Ok.bind (yW h hx hi (hy h0)) fun z hz=>?_
  refine Ok.bind (Oc (hz.fitEp h)) fun v hv=>?_
  rcases hv with ⟨rfl,hv⟩ | ⟨rfl,-⟩
  ·rw [aAv rfl,aI6,aDk]
   exact Ok.ret fun _=>⟨hv,hz⟩
  ·exact Ok.ret fun k=>by cases k
 ·rw [aAy h0]
  exact Ok.ret fun k=>absurd k h0
theorem kM {s:Bb} (h:Rl s) {e:Af} (he0:s.Endpoints[0]?=some e) {c:A7} (h0:c.Endpoint=0) (hi:bT c.Identity):Ok (K8 s c) (fun y=>y.2=0->∃ z,y.1.Endpoints[0]?=some z/\nO z/\pZ e c z):=by
 have h2:=h.n2
 unfold K8 Ge Ge.j1
 rw [bR h,aAf]
 show Ok (Option.bind (cond (decide (c.Endpoint < 0)) _ _) _) _
 rw [aAy (by omega),aDk,aAy (by omega),aDk,h0]
 have g0:B5 s.Endpoints 0=some e:=aL.trans he0
 rw [g0,aAf,pA h]
 refine Ok.bind (Q:=fun y=>y.2=0->∃ z,y.1.Endpoints[0]?=some z/\nO z/\pZ e c z) ?_ fun y hy=>Ok.ret hy
 refine Ok.bind (qC (h.eps 0 e he0) hi) fun y hy=>?_
 by_cases k:y.2=0
 ·rw [aAv k,aI6,aDk,aAf,g0,aAf]
  obtain⟨v,g⟩:=hy k
  refine Ok.ret fun _=>⟨y.1,?_,v,g⟩
  show (C2 s.Endpoints 0 y.1)[0]?=some y.1
  exact vS he0
 ·rw [aAy k]
  exact Ok.ret fun q=>absurd q k
theorem pZ.good {e z:Af} {c:A7} (h:M3 0 e) (g:pZ e c z) (v:nO z) (k8:c.Kind<=8):Ux (bL La z):=by
 have hh:z.Hashes=[2,3]:=by
  rw [g.has k8]
  obtain⟨c',hc,own,fall,y,hy,rfl⟩:=h
  rfl
 have l1:=v.least
 have l2:=v.most
 have l3:=v.most4
 intro f hff
 unfold bL at hff
 simp only [aHm,aDv,aFr,aJh,aIm] at hff
 rcases hff with (((((rfl | rfl) | ⟨n,hn,rfl⟩) | ⟨y,hy,rfl⟩) | ⟨n,hn,rfl⟩) | ⟨n,hn,rfl⟩)
 ·exact Lc Kd Lb (mD La (.inr rfl) (by omega))
 ·exact Lc Kd Lb (mD La (.inl rfl) (by omega))
 ·obtain⟨i,hi⟩:=aJe.1 hn
  have:=(v.suites i n hi).1
  unfold vK at this
  exact Lc Kd Lb (aFt La (by omega))
 ·have hs:=v.ids y hy
  unfold O8 at hs
  simp only [aEw,aJ1] at hs
  have hk:=hs.2.1
  unfold oZ at hk
  simp only [aLe,aK5] at hk
  exact Lc Kd Lb (aG9 La hs.1 (by omega))
 ·have:=v.anr n hn
  exact Lc Kd Lb (aGj La (by omega))
 ·refine Lc Kd Lb (aG0 La ?_)
  rw [hh] at hn
  simp only [aDv,aFr,aJh] at hn
  rcases hn with rfl | rfl <;> decide +kernel
theorem lV {e z:Af} {c:A7} (h:M3 0 e) (g:pZ e c z) (v:nO z) (k8:c.Kind<=8):Fk z La=some (Fi z,0):=by
 unfold Fk
 have h1:Xr (gQ La)=false:=by decide +kernel
 have h2:Br z=some 0:=Dc.zero (Lq (g.fitEp h)) v
 have:Be La z=some (Fi z,0):=by
  rw [cT Kd (g.fitEp h) g.fit.few]
  unfold Y5
  rw [h1,aDk,aAv h2,aEn,(g.good h v k8).norm]
  rfl
 rw [this]; rfl
def Yx (z:Af) (f:Aa):Bool:=
 bif !decide (f.Host=z.Name) then false else bif decide (f.Kind=2) then !decide (f.Number∈z.Suites) else bif decide (f.Kind=3) then !z.Identities.any (fun y=>bif decide (y.Key=f.Use) then decide (y.KeyId=f.Number) else false) else
 bif decide (f.Kind=4) then !decide (f.Number=z.Most) else bif decide (f.Kind=5) then !decide (f.Number=z.Least) else bif decide (f.Kind=6) then !decide (f.Number∈z.Anchors) else false
theorem aE {z:Af} (h:X8 z) (f:Aa):Ef z f=some (Yx z f):=by
 have h1:=h.suites
 have h2:=h.ids
 have h3:=h.anchors
 have e3:Ea z.Identities (fun x0=>Ei x0 f)=some (z.Identities.any fun y=>bif decide (y.Key=f.Use) then decide (y.KeyId=f.Number) else false):=by
  unfold Ea
  rw [iN z.Identities _ (fun y=>bif decide (y.Key=f.Use) then decide (y.KeyId=f.Number) else false) (by unfold Lo; omega) (fun y _=>by
   unfold Ei
   cases decide (y.Key=f.Use) <;> rfl),aAf,Oz]
 unfold Ef Yx
 rw [H3 _ _ (by omega),H3 _ _ (by omega),e3]
 cases decide (f.Host=z.Name)
 ·rfl
 cases decide (f.Kind=2)
 ·cases decide (f.Kind=3)
  ·cases decide (f.Kind=4)
   ·cases decide (f.Kind=5)
    ·cases decide (f.Kind=6) <;> rfl
    ·rfl
   ·rfl
  ·rfl
 ·rfl
theorem tM {e z:Af} {c:A7} (h:M3 0 e) (g:pZ e c z) (v:nO z) (k8:c.Kind<=8)
  (hd:(∃ f∈Fi z,Th (Fi e) f=false)\/∃ f∈Fi e,f.Day=La.Day/\Yx z f=true):F5 z La (Fi e)=some (false,0):=by
 have hw:=aP h
 have hzl:(Fi z).length<=202:=aIp (W6 xN _) (fV La g.fit.few)
 unfold F5
 rw [jB (lV h g v k8) (by omega) (by omega),aAf]
 show cond (!decide ((0:Int)=0)) _ _=_
 rw [aAv rfl,aI6,aDk]
 have hcf:C8 (Fi e) (fun x0=>Gg x0 La z)=some ((Fi e).any fun f=>bif decide (f.Day=La.Day) then Yx z f else false):=by
  unfold C8
  rw [Zs (Fi e) _ (fun f=>bif decide (f.Day=La.Day) then Yx z f else false) (by unfold Lo; omega) (fun f _=>by
   unfold Gg
   rw [aE g.fit.few]
   cases decide (f.Day=La.Day) <;> rfl),aAf,Oz]
 rw [hcf]
 rcases hd with ⟨f,hf,hh⟩ | ⟨f,hf,hday,hh⟩
 ·have:f∈(Fi z).filter fun f=>!Th (Fi e) f:=List.mem_filter.2 ⟨hf,by rw [hh]; rfl⟩
  have:=List.length_pos_of_mem this
  show cond (decide ((((Fi z).filter fun f=>!Th (Fi e) f).length:Int)=0)) _ _=_
  rw [aAy (by omega)]; rfl
 ·have:((Fi e).any fun f=>bif decide (f.Day=La.Day) then Yx z f else false)=true:=aIc.2 ⟨f,hf,by rw [aAv hday,aEn]; exact hh⟩
  rw [this]
  show cond _ (some (!true,0)) _=_
  cases decide ((((Fi z).filter fun f=>!Th (Fi e) f).length:Int)=0) <;> rfl
theorem xJ {e:Af} {k n:Int} {u:Ar} (h:Ps La k u n∉bL La e):Th (Fi e) (Ps La k u n)=false:=by
 cases hb:Th (Fi e) (Ps La k u n) with
 | false=>rfl
 | true=>
  unfold Th at hb
  obtain⟨f,hf,hq⟩:=aIc.1 hb
  obtain⟨k',u',n',rfl⟩:=yM hf
  have hq:=aBs hq
  unfold vX at hq
  injection hq with h1 h2 h3 h4 h5 h6
  have h3:k'=k:=h3
  have h4:u'=u:=h4
  have h5:n'=n:=h5
  subst h3 h4 h5
  exact absurd (Rb.1 hf) h
theorem L8 {e:Af} {k n:Int} {u:Ar}:Ps La k u n∈bL La e↔(k=5/\u=⟨0,0⟩/\n=e.Least)\/(k=4/\u=⟨0,0⟩/\n=e.Most)\/(k=2/\u=⟨0,0⟩/\n∈e.Suites)\/(k=3/\∃ x∈e.Identities,x.Key=u/\x.KeyId=n)\/(k=6/\u=⟨0,0⟩/\n∈e.Anchors)\/(k=1/\n=0/\∃ m∈e.Hashes,u=⟨m,0⟩):=by
 have inj:∀ {k k' n n':Int} {u u':Ar},Ps La k u n=Ps La k' u' n'↔k=k'/\u=u'/\n=n':=fun {k k' n n' u u'}=>by
  unfold Ps
  rw [Aa.mk.injEq]
  exact⟨fun h=>⟨h.2.2.2.2.2.1,h.2.2.2.2.2.2.2.1,h.2.2.2.2.2.2.2.2.1⟩,fun h=>⟨rfl,rfl,rfl,rfl,rfl,h.1,rfl,h.2.1,h.2.2,rfl⟩⟩
 unfold bL
 simp only [aHm,aDv,aFr,aJh,aIm,inj]
 constructor
 ·rintro (((((h | h) | ⟨m,h1,h2,h3,h4⟩) | ⟨y,h1,h2,h3,h4⟩) | ⟨m,h1,h2,h3,h4⟩) | ⟨m,h1,h2,h3,h4⟩)
  ·exact .inl h
  ·exact .inr (.inl h)
  ·exact .inr (.inr (.inl ⟨h2.symm,h3.symm,h4 ▸ h1⟩))
  ·exact .inr (.inr (.inr (.inl ⟨h2.symm,y,h1,h3,h4⟩)))
  ·exact .inr (.inr (.inr (.inr (.inl ⟨h2.symm,h3.symm,h4 ▸ h1⟩))))
  ·exact .inr (.inr (.inr (.inr (.inr ⟨h2.symm,h4.symm,m,h1,h3.symm⟩))))
 ·rintro (h | h | ⟨h1,h2,h3⟩ | ⟨h1,y,h2,h3,h4⟩ | ⟨h1,h2,h3⟩ | ⟨h1,h2,m,h3,h4⟩)
  ·exact .inl (.inl (.inl (.inl (.inl h))))
  ·exact .inl (.inl (.inl (.inl (.inr h))))
  ·exact .inl (.inl (.inl (.inr ⟨n,h3,h1.symm,h2.symm,rfl⟩)))
  ·exact .inl (.inl (.inr ⟨y,h2,h1.symm,h3,h4⟩))
  ·exact .inl (.inr ⟨n,h3,h1.symm,h2.symm,rfl⟩)
  ·exact .inr ⟨m,h3,h1.symm,h4.symm,h2.symm⟩
theorem xC {e z:Af} {c:A7} (h:M3 0 e) (g:pZ e c z) (k1:1<=c.Kind) (k8:c.Kind<=8):(∃ f∈Fi z,Th (Fi e) f=false)\/∃ f∈Fi e,f.Day=La.Day/\Yx z f=true:=by
 have hz:∀ {k n:Int} {u:Ar},Ps La k u n∈bL La z->Ps La k u n∉bL La e->(∃ f∈Fi z,Th (Fi e) f=false)\/∃ f∈Fi e,f.Day=La.Day/\Yx z f=true:=fun a b=>.inl ⟨_,Rb.2 a,xJ b⟩
 have hz':∀ {k n:Int} {u:Ar},Ps La k u n∈bL La e->Yx z (Ps La k u n)=true->(∃ f∈Fi z,Th (Fi e) f=false)\/∃ f∈Fi e,f.Day=La.Day/\Yx z f=true:=fun a b=>.inr ⟨_,Rb.2 a,rfl,b⟩
 have hn:∀ k u n,decide ((Ps La k u n).Host=z.Name)=true:=fun k u n=>aAv (by rw [g.name,Tu h]; rfl)
 have n0:∀ {k n:Int} {u:Ar},(bif !decide ((Ps La k u n).Host=z.Name) then false else true)=true:=fun {k n u}=>by rw [hn]; rfl
 have open_:∀ (k n:Int) (u:Ar),Yx z (Ps La k u n)=bif decide (k=2) then !decide (n∈z.Suites) else bif decide (k=3) then !z.Identities.any (fun y=>bif decide (y.Key=u) then decide (y.KeyId=n) else false) else
   bif decide (k=4) then !decide (n=z.Most) else bif decide (k=5) then !decide (n=z.Least) else bif decide (k=6) then !decide (n∈z.Anchors) else false:=fun k n u=>by
  unfold Yx
  rw [hn]; rfl
 by_cases q1:c.Kind=1
 ·obtain⟨a,b⟩:=g.c1 q1
  refine hz (k:=2) (n:=c.Number) (u:=⟨0,0⟩) (L8.2 (.inr (.inr (.inl ⟨rfl,rfl,b⟩)))) fun hm=>?_
  rcases L8.1 hm with ⟨k,-⟩ | ⟨k,-⟩ | ⟨-,-,k⟩ | ⟨k,-⟩ | ⟨k,-⟩ | ⟨k,-⟩
  ·cases k
  ·cases k
  ·exact a k
  ·cases k
  ·cases k
  ·cases k
 by_cases q2:c.Kind=2
 ·obtain⟨a,b⟩:=g.c2 q2
  refine hz' (k:=2) (n:=c.Number) (u:=⟨0,0⟩) (L8.2 (.inr (.inr (.inl ⟨rfl,rfl,a⟩)))) ?_
  rw [open_,aAv rfl,aEn,aAy b]; rfl
 by_cases q3:c.Kind=3
 ·have a:=g.c3 q3
  refine hz' (k:=4) (n:=e.Most) (u:=⟨0,0⟩) (L8.2 (.inr (.inl ⟨rfl,rfl,rfl⟩))) ?_
  rw [open_,aAy (p:=e.Most=z.Most) fun q=>a q.symm]; rfl
 by_cases q4:c.Kind=4
 ·have a:=g.c4 q4
  refine hz' (k:=5) (n:=e.Least) (u:=⟨0,0⟩) (L8.2 (.inl ⟨rfl,rfl,rfl⟩)) ?_
  rw [open_,aAy (p:=e.Least=z.Least) fun q=>a q.symm]; rfl
 by_cases q5:c.Kind=5
 ·obtain⟨i,a,b⟩:=g.c5 q5
  refine hz (k:=3) (n:=i.KeyId) (u:=i.Key) (L8.2 (.inr (.inr (.inr (.inl ⟨rfl,i,a,rfl,rfl⟩))))) fun hm=>?_
  rcases L8.1 hm with ⟨k,-⟩ | ⟨k,-⟩ | ⟨k,-⟩ | ⟨-,x,k,-,k'⟩ | ⟨k,-⟩ | ⟨k,-⟩
  ·cases k
  ·cases k
  ·cases k
  ·exact b x k k'
  ·cases k
  ·cases k
 by_cases q6:c.Kind=6
 ·have a:=g.c6 q6
  obtain⟨x,hx⟩:∃ x,e.Identities=[x]:=by
   obtain⟨c',hc,own,fall,y,hy,rfl⟩:=h
   exact⟨y,rfl⟩
  refine hz' (k:=3) (n:=x.KeyId) (u:=x.Key) (L8.2 (.inr (.inr (.inr (.inl ⟨rfl,x,by rw [hx]; exact .head _,rfl,rfl⟩))))) ?_
  rw [open_,a]; rfl
 by_cases q7:c.Kind=7
 ·obtain⟨a,b⟩:=g.c7 q7
  refine hz (k:=6) (n:=c.Number) (u:=⟨0,0⟩) (L8.2 (.inr (.inr (.inr (.inr (.inl ⟨rfl,rfl,b⟩)))))) fun hm=>?_
  rcases L8.1 hm with ⟨k,-⟩ | ⟨k,-⟩ | ⟨k,-⟩ | ⟨k,-⟩ | ⟨-,-,k⟩ | ⟨k,-⟩
  ·cases k
  ·cases k
  ·cases k
  ·cases k
  ·exact a k
  ·cases k
 ·have q8:c.Kind=8:=by omega
  obtain⟨a,b⟩:=g.c8 q8
  refine hz' (k:=6) (n:=c.Number) (u:=⟨0,0⟩) (L8.2 (.inr (.inr (.inr (.inr (.inl ⟨rfl,rfl,a⟩)))))) ?_
  rw [open_,aAy b]; rfl
structure Wc (c:A7):Prop where
 ep:c.Endpoint=0
 kind:1<=c.Kind/\c.Kind<=12
 id_:bT c.Identity
theorem aBb {d:Ah} (hd:V9 d) {e:Af} (h:M3 0 e):Ok (Bo d (Bb.mk [e] [] [])) (fun y=>Wc y.1):=by
 have hf:=h.fitE.few
 have h1:=hf.suites
 have h2:=hf.ids
 have hw:∀ y:Int,0<=y/\y < 12->1<=W (1 + y)/\W (1 + y)<=12:=fun y hy=>by rw [Ex (by omega)]; omega
 have none_:bT (Am.mk (Ar.mk 0 0) 0 []):=⟨aI3 _,fun c hc=>by cases hc⟩
 unfold Bo
 refine Ok.bind (Fh hd _ (by show (1:Int)<=((1:Nat):Int); omega) (by show ((1:Nat):Int)<=_; omega)) fun y hy=>?_
 have hy0:y.1=0:=by
  have h3:=hy.1
  have h4:(((Bb.mk [e] [] []).Endpoints.length:Nat):Int)=1:=rfl
  omega
 have ge:B5 (Bb.mk [e] [] []).Endpoints y.1=some e:=by rw [hy0]; rfl
 rw [ge,aAf]
 refine Ok.bind (Fh hy.2 12 (by omega) (by omega)) fun y2 hy2=>?_
 have hk:=hw y2.1 hy2.1
 have A:∀ (n a:Int),Wc (A7.mk y.1 (W (1 + y2.1)) n a (Am.mk (Ar.mk 0 0) 0 [])):=fun n a=>⟨hy0,hk,none_⟩
 have J7:∀ b n a,Ok (Bo.j7 b (A7.mk y.1 (W (1 + y2.1)) n a (Am.mk (Ar.mk 0 0) 0 []))) (fun y=>Wc y.1):=fun b n a=>by
  unfold Bo.j7
  exact Ok.ret (A n a)
 have J6:∀ b,Ok (Bo.j6 y y2 b) (fun y=>Wc y.1):=fun b=>by
  unfold Bo.j6
  cases b with
  | true=>exact Ok.bind (Fh hy2.2 2 (by omega) (by omega)) fun z hz=>J7 _ _ _
  | false=>exact J7 _ _ _
 have J5:∀ b,Ok (Bo.j5 y y2 b) (fun y=>Wc y.1):=fun b=>by
  unfold Bo.j5
  cases b with
  | true=>exact Ok.bind (Fh hy2.2 4 (by omega) (by omega)) fun z hz=>J7 _ _ _
  | false=>
   rw [aDk]
   exact Ok.cond (fun _=>J6 _) (fun _=>J6 _)
 have J4:∀ b,Ok (Bo.j4 y y2 b) (fun y=>Wc y.1):=fun b=>by
  unfold Bo.j4
  cases b with
  | true=>exact Ok.bind (Fh hy2.2 3 (by omega) (by omega)) fun z hz=>J7 _ _ _
  | false=>
   rw [aDk]
   exact Ok.cond (fun _=>J5 _) (fun _=>J5 _)
 have J3:∀ y16 b d3,V9 d3->(b=true->0 < e.Identities.length)->Ok (Bo.j3 y e y2 y16 b d3) (fun y=>Wc y.1):=fun y16 b d3 hd3 hb=>by
  unfold Bo.j3
  cases b with
  | true=>
   have:=hb rfl
   rw [aEn]
   refine Ok.bind (Fh hd3 _ (by omega) (by omega)) fun z hz=>?_
   refine Ok.bind (Rj hz.1.1 hz.1.2) fun w hw=>J7 _ _ _
  | false=>exact J7 _ _ _
 have J1:∀ y5 b d3,V9 d3->(b=true->0 < e.Suites.length)->Ok (Bo.j1 y e y2 y5 b d3) (fun y=>Wc y.1):=fun y5 b d3 hd3 hb=>by
  unfold Bo.j1
  cases b with
  | true=>
   have:=hb rfl
   rw [aEn]
   refine Ok.bind (Fh hd3 _ (by omega) (by omega)) fun z hz=>?_
   refine Ok.bind (Rj hz.1.1 hz.1.2) fun w hw=>J7 _ _ _
  | false=>exact J7 _ _ _
 have J2:∀ b,Ok (Bo.j2 y e y2 b) (fun y=>Wc y.1):=fun b=>by
  unfold Bo.j2
  cases b with
  | true=>exact Ok.bind (Fh hy2.2 4 (by omega) (by omega)) fun z hz=>J7 _ _ _
  | false=>
   rw [aDk]
   refine Ok.cond (fun _=>?_) (fun _=>Ok.cond (fun _=>?_) fun _=>Ok.cond (fun _=>J4 _) (fun _=>J4 _))
   ·rw [Ex (by omega)]
    refine Ok.bind (Fh hy2.2 _ (by omega) (by omega)) fun y9 hy9=>?_
    refine Ok.bind (Q:=fun u=>u=Ar.mk 7 256) ⟨_,rfl,rfl⟩ fun u hu=>?_
    refine Ok.bind (Q:=fun u=>u=Ar.mk 5 2048) ⟨_,rfl,rfl⟩ fun u' hu'=>?_
    refine Ok.bind (Fh hy9.2 2 (by omega) (by omega)) fun y12 hy12=>?_
    refine Ok.bind (Tq hy12.1.1 (by exact hy12.1.2)) fun w hw=>?_
    have hkw:uE w:=by
     simp only [aDv,aFr,aJh] at hw
     rcases hw with rfl | rfl
     ·rw [hu]; exact ecU
     ·rw [hu']; exact yQ
    refine Ok.bind (Fh hy12.2 3 (by omega) (by omega)) fun y13 hy13=>?_
    refine Ok.bind (Fh hy13.2 2 (by omega) (by omega)) fun y14 hy14=>?_
    have b1:=hy13.1
    have b2:=hy14.1
    rw [Ex (by omega),Ex (by omega)]
    refine Ok.bind (jK (by rw [Tu h]; exact (Zg (by omega)).1) hkw (by omega) (by omega) (by omega)) fun x hx=>?_
    unfold Bo.j7
    exact Ok.ret ⟨hy0,hk,hx.fitI⟩
   ·refine Ok.bind (Fh hy2.2 4 (by omega) (by omega)) fun z hz=>?_
    refine Ok.cond (fun hp=>?_) (fun _=>J3 _ _ _ hz.2 fun q=>by cases q)
    have hp:=aBs hp
    exact Ok.bind (fF hz.2 4 (by omega) (by omega)) fun w hw=>J3 _ _ _ hw fun _=>by omega
 refine Ok.cond (fun _=>?_) (fun _=>Ok.cond (fun _=>?_) fun _=>Ok.cond (fun _=>J2 _) (fun _=>J2 _))
 ·refine Ok.bind (Fh hy2.2 16 (by omega) (by omega)) fun y3 hy3=>?_
  rw [Ex (x:=(e.Suites.length:Int) + 1) (by omega)]
  exact Ok.bind (Fh hy3.2 _ (by omega) (by omega)) fun z hz=>J7 _ _ _
 ·refine Ok.bind (Fh hy2.2 16 (by omega) (by omega)) fun z hz=>?_
  refine Ok.cond (fun hp=>?_) (fun _=>J1 _ _ _ hz.2 fun q=>by cases q)
  have hp:=aBs hp
  exact Ok.bind (fF hz.2 4 (by omega) (by omega)) fun w hw=>J1 _ _ _ hw fun _=>by omega
theorem lU {e:Af} (h:M3 0 e):Dz e La (Fi e)=some ([],0)/\F5 e La (Fi e)=some (true,0):=by
 have hw:=aP h
 have hm:Dz e La (Fi e)=some ([],0):=by
  rw [jB (Xy h) (by omega) (by omega)]
  have:(Fi e).filter (fun f=>!Th (Fi e) f)=[]:=List.filter_eq_nil_iff.2 fun f hf=>by
   have:Th (Fi e) f=true:=aIc.2 ⟨f,hf,aAv rfl⟩
   rw [this]; decide
  rw [this]
 refine⟨hm,?_⟩
 unfold F5
 rw [hm,aAf]
 show cond (!decide ((0:Int)=0)) _ (cond (decide (((0:Nat):Int)=0)) ((C8 (Fi e) _).bind _) _)=_
 rw [iT (by omega) (fun f hf=>by
  unfold Gg
  rw [uA h hf rfl rfl rfl rfl]
  cases decide (f.Day=La.Day) <;> rfl)]
 rfl
theorem Yl (t:List Int):B1 t=some true:=by
 unfold B1 Ny
 rw [aAf]
 by_cases hl:(t.length:Int)<=400
 case neg=>rw [aAy hl,aKf,aEn,fI]; rfl
 rw [aAv hl,aI6,aDk]
 refine Ok.true_ ?_
 refine Ok.bind (aG4 (by omega)) fun d hd=>?_
 refine Ok.bind (rH hd) fun y4 h4=>?_
 obtain⟨hs,hd4⟩:=h4
 have h2:=hs.n2
 obtain⟨e,he0⟩:∃ e,y4.1.Endpoints[0]?=some e:=⟨_,aA9 (by omega)⟩
 have he:=hs.eps 0 e he0
 have hw:=aP he
 have hsl:U0 y4.1.Endpoints 0 1=some [e]:=by
  rw [aW (by omega)]
  cases hE:y4.1.Endpoints with
  | nil=>rw [hE] at he0; cases he0
  | cons a l=>
   rw [hE] at he0
   have:a=e:=by simpa using he0
   rw [this]; rfl
 rw [hsl,aAf]
 refine Ok.bind (aBb hd4 he) fun y5 h5=>?_
 have g0:B5 y4.1.Endpoints 0=some e:=aL.trans he0
 rw [g0,aAf]
 refine Ok.bind (kM hs he0 h5.ep h5.id_) fun y6 h6=>?_
 have hat:Mh e.Name 4=some La:=by
  unfold Mh
  rw [Tu he]; rfl
 obtain⟨om,oa⟩:=lU he
 rw [hat,aAf,Xy he,aAf,oa,aAf,om,aAf]
 have hfl:(!decide ((W ((W ((0:Int) + 0)) + 0))=0))=false:=by decide
 show Ok (cond (!decide ((W ((W ((0:Int) + 0)) + 0))=0)) _ (cond (!true) _ (cond (!decide (((0:Nat):Int)=0)) _ (B1.j1 y5 y6 La (Fi e,0) (decide (((Fi e).length:Int)=0)))))) _
 rw [hfl,aDk,aI6,aDk,aAv (p:=((0:Nat):Int)=0) rfl,aI6,aDk,aAy (by omega)]
 have T:Ok (B1.j2 y6 La (Fi e,0) true) (fun r=>r=true):=by
  unfold B1.j2
  rw [aEn,fI]
  exact⟨_,rfl,rfl⟩
 unfold B1.j1
 rw [aDk]
 refine Ok.cond (fun _=>T) fun h0=>?_
 rw [Bool.not_eq_false',decide_eq_true_iff] at h0
 obtain⟨z,z0,v,g⟩:=h6 h0
 refine Ok.cond (fun _=>T) fun k12=>Ok.cond (fun _=>T) fun k11=>Ok.cond (fun _=>T) fun k9=>?_
 cases k10:decide (y5.1.Kind=10) with
 | true=>exact T
 | false=>
  have k12:=aDm k12
  have k11:=aDm k11
  have k9:=aDm k9
  have k10:=aDm k10
  have hk:=h5.kind
  have k8:y5.1.Kind<=8:=by omega
  unfold B1.j2
  rw [aDk,aL,z0,aAf]
  show Ok ((F5 z La (Fi e)).bind _) _
  rw [tM he g v k8 (xC he g hk.1 k8),aAf]
  show Ok ((H8).bind _) _
  rw [fI]
  exact⟨_,rfl,rfl⟩
end
end Go.Proofs.YtkoflhimdenjaaaGreat
