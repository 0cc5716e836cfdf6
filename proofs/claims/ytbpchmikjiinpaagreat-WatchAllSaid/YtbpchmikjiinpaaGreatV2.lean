/- Plain texts, joined. No program is in sight here. -/
import Derived.Test.YtbpchmikjiinpaaGreatG3
import Derived.Test.YtbpchmikjiinpaaGreatSD
set_option autoImplicit false
set_option linter.unusedVariables false
set_option linter.unusedSimpArgs false
namespace Go.Proofs.YtbpchmikjiinpaaGreat
section
open Go
section
variable {κ ν:Type} [DecidableEq κ]
theorem Ob (p:κ×ν) (l:List (κ×ν)) (x:κ) (z:ν):Hm (p :: l) x z=if p.1=x then p.2 else Hm l x z:=by
 unfold Hm
 by_cases h:p.1=x <;> simp [h]
theorem kA (p:κ×ν) (l:List (κ×ν)) (x:κ) (v:ν):Ma (p :: l) x v=if p.1=x then (x,v) :: l else p :: Ma l x v:=by
 unfold Ma
 by_cases h:p.1=x
 ·rw [List.findIdx?_cons,aBe h,if_pos h]; rfl
 ·rw [List.findIdx?_cons,aBv h,if_neg h]
  cases hf:l.findIdx? (fun p=>decide (p.1=x)) <;> simp
theorem bQ (x:κ) (v:ν) (y:κ) (z:ν):∀ l:List (κ×ν),Hm (Ma l x v) y z=if x=y then v else Hm l y z
 | []=>by
  show Hm [(x,v)] y z=_
  rw [Ob]
 | p :: l=>by
  rw [kA]
  by_cases h:p.1=x
  ·rw [if_pos h,Ob,Ob]
   by_cases e:x=y
   ·rw [if_pos e,if_pos e]
   ·rw [if_neg e,if_neg e,if_neg (by rw [h]; exact e)]
  ·rw [if_neg h,Ob,bQ x v y z l,Ob]
   by_cases e:x=y
   ·rw [if_pos e,if_pos e,if_neg (by rw [<- e]; exact h)]
   ·rw [if_neg e,if_neg e]
end
theorem mR (s:List Aa) (f:Aa->Option Bool) (p:Aa->Bool) (h:Lo s) (hp:∀ x∈s,f x=some (p x)):Bc s f=some (Sq s p):=by
 unfold Bc
 refine Po s _ h (fun i x hx=>?_) ?_
 ·show Bc.l1 s _ (i:Int)=_
  unfold Bc.l1
  rw [Er hx,hp x (Dv hx),aAc]
  cases p x <;> rfl
 ·show Bc.l1 s _ (s.length:Int)=_
  unfold Bc.l1
  rw [De]; rfl
theorem aIx {α:Type} {l:List α} {a b:Int} (h:0<=a/\a<=b/\b<=l.length):Zo l a b=some ((l.drop a.toNat).take (b.toNat - a.toNat)):=if_pos h
theorem zQ (s:List Aa) (f:Aa->Option Bool) (p:Aa->Bool) (h:s.length < 100000) (hp:∀ x∈s,f x=some (p x)):Ok (A9 s f) (fun r=>r=s.filter fun x=>!p x):=by
 unfold A9
 rw [mR s f p (by unfold Lo; omega) hp,aAc]
 unfold Sq
 cases hf:s.findIdx? p with
 | none=>
  have hn:=aSa.1 hf
  refine⟨s,rfl,?_⟩
  rw [List.filter_eq_self.2]
  intro a ha
  rw [hn a ha]; rfl
 | some i0=>
  obtain⟨hi0,hp0,hlt0⟩:=aIw.1 hf
  show Ok (cond (decide ((i0:Int)=-1)) _ _) _
  rw [aBv (by omega),aCv,Dz (x:=(i0:Int) + 1) (by omega)]
  have h0:s.take i0=((s.take (i0 + 1)).filter fun x=>!p x):=by
   rw [aPy hi0,aS4,List.filter_eq_self.2 (fun a ha=>?_)]
   ·have:(!p s[i0])=false:=by rw [hp0]; rfl
    rw [List.filter_cons_of_neg (by rw [this]; decide)]
    simp
   ·obtain⟨q,hq,rfl⟩:=aP6 ha
    rw [aFl] at hq
    rw [List.getElem_take]
    have:=hlt0 q (by omega)
    simp only [aTb] at this
    rw [this]; rfl
  refine Ok.loop (fun st:Int×Int×List Aa=>∃ i j:Nat,st.1=(i:Int)/\st.2.1=(j:Int)/\i < j/\j<=s.length/\st.2.2.length=s.length/\st.2.2.take i=((s.take j).filter fun x=>!p x)/\st.2.2.drop j=s.drop j) (fun st=>s.length - st.2.1.toNat) ?_ ⟨i0,i0 + 1,rfl,by show (i0:Int) + 1=_; omega,by omega,hi0,rfl,h0,rfl⟩
  rintro⟨_,_,t⟩ ⟨i,j,rfl,rfl,hij,hj,hlen,htk,hdr⟩
  dsimp only at hlen htk hdr
  show Ok (A9.l1 _ (i:Int) (j:Int) t) _
  unfold A9.l1
  refine Ok.cond (fun hb=>?_) (fun hb=>?_)
  ·have hjl:j < s.length:=by have:=aCm hb; omega
   obtain⟨e,he⟩:∃ e,s[j]?=some e:=⟨_,aBx hjl⟩
   have hte:t[j]?=some e:=by
    have:=congrArg (fun l=>l[0]?) hdr
    simpa [he] using this
   have hdr1:t.drop (j + 1)=s.drop (j + 1):=by
    have:=congrArg (List.drop 1) hdr
    rwa [aSj,aSj] at this
   obtain⟨q,hq⟩:∃ q,t[i]?=some q:=⟨_,aBx (by omega)⟩
   rw [Dr,hte,aAc]
   unfold A9.j2
   rw [hp e (Dv he),aAc,Dz (x:=(j:Int) + 1) (by omega)]
   cases hd:p e with
   | false=>
    rw [aR7,aDb,Dr,hq,aAc,Dz (x:=(i:Int) + 1) (by omega)]
    refine Ok.ret ⟨⟨i + 1,j + 1,by show (i:Int) + 1=_; omega,by show (j:Int) + 1=_; omega,by omega,hjl,?_,?_,?_⟩,by show s.length - ((j:Int) + 1).toNat < s.length - ((j:Int)).toNat; omega⟩
    ·show (C3 t _ e).length=_
     unfold C3
     rw [aTe]; exact hlen
    ·show (C3 t (i:Int).toNat e).take (i + 1)=_
     unfold C3
     rw [aK9,List.set_eq_take_append_cons_drop,if_pos (by omega),Fl he,aS4,<- htk]
     have hl:(t.take i).length=i:=by rw [aFl]; omega
     have:([e].filter fun x=>!p x)=[e]:=by
      rw [List.filter_cons,hd]; rfl
     rw [this]
     have e2:(t.take i ++ e :: t.drop (i + 1)).take (i + 1)=t.take i ++ (e :: t.drop (i + 1)).take 1:=by
      have:=List.take_length_add_append (l₁:=t.take i) (l₂:=e :: t.drop (i + 1)) 1
      rwa [hl] at this
     rw [e2]; rfl
    ·show (C3 t (i:Int).toNat e).drop (j + 1)=_
     unfold C3
     rw [aK9,List.drop_set_of_lt (by omega)]; exact hdr1
   | true=>
    rw [aLb,aCv]
    refine Ok.ret ⟨⟨i,j + 1,rfl,by show (j:Int) + 1=_; omega,by omega,hjl,hlen,?_,hdr1⟩,by show s.length - ((j:Int) + 1).toNat < s.length - ((j:Int)).toNat; omega⟩
    show t.take i=_
    have:([e].filter fun x=>!p x)=[]:=by
     rw [List.filter_cons,hd]; rfl
    rw [Fl he,aS4,this,aOq]
    exact htk
  ·have hjl:j=s.length:=by have:=aCn hb; omega
   subst hjl
   rw [aLc] at htk
   refine Ok.up ?_
   rw [aIx (by omega),aAc]
   unfold nX
   rw [if_pos (by omega),aAc,aIx (by simp; omega),aAc]
   refine Ok.ret ?_
   show ((t.take i ++ _) ++ _).take (i - 0)=_
   have hl:(t.take i).length=i:=by rw [aFl]; omega
   rw [Nat.sub_zero,aLp,aNe (by omega),aH0 (by omega)]
   exact htk
def nO (f:Aa):Dp:=⟨f.Host,f.Day,f.Kind,f.Use,f.Number,f.Text⟩
theorem aC7 (f:Aa):P4 f=some (nO f):=rfl
def V1 (S:List Aa) (f:Aa):Bool:=S.any fun x=>decide (nO x=nO f)
theorem xV {e:Ad} {at':Aa} {want S:List Aa} (hx:Hc e at'=some (want,0)) (hw:want.length < 100000) (hS:S.length < 100000):Ee e at' S=some (want.filter (fun f=>!V1 S f),0):=by
 unfold Ee
 rw [hx,aAc]
 show cond (!decide ((0:Int)=0)) _ _=_
 rw [aBe rfl,aLb,aCv]
 have:Ok (B2 (fun q'=>Ee.l1 S (want,0) q'.1 q'.2) (0,([]:List (Dp×Bool)))) (fun r=>r=(want.filter (fun f=>!V1 S f),0)):=by
  refine Ok.loop (fun s:Int×List (Dp×Bool)=>∃ i:Nat,s.1=(i:Int)/\i<=S.length/\∀ f,Hm s.2 (nO f) false=V1 (S.take i) f) (fun s=>S.length - s.1.toNat) ?_ ⟨0,rfl,aI3 _,fun f=>rfl⟩
  rintro⟨_,m⟩ ⟨i,rfl,hi,hm⟩
  dsimp only at hm
  show Ok (Ee.l1 S (want,0) (i:Int) m) _
  unfold Ee.l1
  rcases aQa i S.length with hl | hl
  ·obtain⟨x,hx⟩:∃ x,S[i]?=some x:=⟨_,aBx hl⟩
   rw [Er hx,aC7,aAc,Fm (by omega)]
   refine Ok.ret ⟨⟨i + 1,rfl,hl,fun f=>?_⟩,by show S.length - (((i + 1:Nat)):Int).toNat < S.length - ((i:Int)).toNat; omega⟩
   show Hm (Ma m (nO x) true) (nO f) false=_
   rw [bQ,hm f]
   unfold V1
   rw [Fl hx,List.any_append,aR2,aTf,Bool.or_false]
   by_cases e:nO x=nO f
   ·rw [if_pos e,aBe e,Bool.or_true]
   ·rw [if_neg e,aBv e,Bool.or_false]
  ·have hil:i=S.length:=by omega
   subst hil
   rw [aLc] at hm
   rw [De]
   refine Ok.up ?_
   refine Ok.bind (zQ want (fun x0=>Hd x0 m) (fun f=>V1 S f) hw (fun x _=>?_)) fun r hr=>?_
   ·unfold Hd
    rw [aC7,aAc,hm x]
   ·subst hr
    exact Ok.ret rfl
 obtain⟨r,hr,rfl⟩:=this
 exact hr
end
section
open Go
theorem Z5.few {e:Ad} (h:Z5 0 e):Jl e:=by
 obtain⟨c,hc,own,fall,x,hx,rfl⟩:=h
 have:=(Ws hc).2.1
 exact⟨by show c.2.length<=50; omega,by show (1:Nat)<=50; omega,by show (1:Nat)<=50; omega,by show (2:Nat)<=50; omega⟩
theorem pX:Ky=some true:=by
 unfold Ky Mv
 rw [aAc]
 have c1:Db [10] 2=some false:=by rw [Km _ _ (by decide)]; rfl
 have c2:Db [10] 10=some true:=by rw [Km _ _ (by decide)]; rfl
 unfold El
 dsimp only
 rw [c1,c2,aBe (rfl:(⟨#[97,112,112]⟩:ByteArray)=⟨#[97,112,112]⟩)]
 rfl
end
end Go.Proofs.YtbpchmikjiinpaaGreat
