import Derived.Test.YtfanepojdefdpaaGreatEH
set_option linter.unusedVariables false
set_option linter.unusedSimpArgs false
namespace Go.Proofs.YtfanepojdefdpaaGreat
open Go.RowKit
section
variable {P:Program} {np tk:Nat} {ty:TypeId} {env:Sn} {α:Type} {f:α->List C} {t e sz bytes:Nat}
theorem kD {i:Nat}:(none:Option Nat)≠some i:=nofun
theorem uO (hf:∀ x,(f x).length=sz) {l:List α} {j o:Nat} {x x':α} {c:C} (hx:l[j]?=some x) (ho:o < sz) (hs:(f x).set o c=f x') {a:Nat} (ha:a=j * sz + o):(An f l).set a c=An f (Jy l j x'):=by
 have h:=Mr hf (x':=x') (cs:=[c]) hx (o:=o) (by show o + 1<=sz; omega) (by
  unfold Co
  rw [<- hs,aGg,if_pos (by rw [hf]; exact ho)]
  simp) ha
 rw [<- h]
 have hl:=Gh hf hx ho ha
 unfold Co
 rw [aGg,if_pos hl]
 simp
theorem xT {β:Type} {g:β->List C} {x y:Operand} {k s i o e2 sz2 kk:Nat} {cs c2 cs':List C} {d':DV×Option LB} {l l' l2:List β} (hS:Ij P t e2 sz2 bytes) (D:∀ x,(g x).length=sz2) (hc:cs[i * sz + o]?=some (.sl sz2 c2)) (hc2:c2=An g l) (hs:X3 d' sz2 cs') (hc':cs'=An g l') (h:Gl kk l l'=some l2) (hkk:sz2 * bytes=kk) (hk:k∈env.map (·.1)) (hnp:Nat.ble np k=true) :
  ExtR P np tk (.call ⟨.builtin .append,#[x,y],#[t,t]⟩) ty [(.nst k s i,some (.tree e sz o e2 sz2 s none cs)),d'] env [k] (fun e'=>e'=Jh [(tk,some (.row e2 sz2 (An g l2))),(k,some (.tree e sz o e2 sz2 s (some i) cs))] (some (.row tk))):=by
 subst hc2 hc'
 obtain⟨h1,rfl⟩:=Qt h
 rw [Ju]
 exact .appN hS hc hs (by rw [D0 D,D0 D,<- aF2,Nat.mul_assoc,hkk]; exact h1) hk hnp
section
variable {X:Operand} {lo hi:Operand} {e' k s i o sz2:Nat} {hh:Option Nat} {cs:List C} {l m:List α} {a b:Int} {ka kb:IntKind} {b2 b3:Option LB}
end
theorem sE {x:Operand} {d:DV} {b:Option LB} {o e2 sz2 j:Nat} {z:List Value} {r pre post:List DV} {ck1 ck2:List (Option Nat)} {c1 c2 c3 cs1:List C} (hS:Ij P t e sz bytes) (hz:Zt P e z) (hlen:1 * sz<=16777216) (hd:Ia (fun i=>some (i * sz,sz)) ((List.replicate 1 (z.map DV.val)).flatten) [(0,d)]=some r) (hoc:(Cn d).all T8=true)
  (hr:r=pre ++ .row j :: post) (ho:pre.length=o) (h1:Ib ck1 pre c1) (h3:Ib ck2 post c3) (hj:(j,some (.row e2 sz2 c2))∈env) (hnp:Nat.ble np j=true) (hE:c1 ++ .sl sz2 c2 :: c3=cs1) :
  ExtR P np tk (.buildSlice t 1 #[(0,x)]) ty [(d,b)] env [j] (fun e'=>e'=Jh [(tk,some (.tree e sz o e2 sz2 (tk + 1) none cs1)),(tk + 1,some .gho),(j,none)] (some (.row tk))):=by
 subst hE
 exact .buildT hS hz hlen hd hoc hr ho h1 h3 hj hnp
theorem aA5 {x y:Operand} {k s k' s' o e2 sz2 kk:Nat} {l l' l2:List α} (hS:Ij P t e sz bytes) (hf:∀ x,(f x).length=sz) (hk:k∈env.map (·.1)) (hk':k'∈env.map (·.1)) (hne:Nat.beq k k'=false) (h:Gl kk l l'=some l2) (hkk:sz * bytes=kk) (hnp:Nat.ble np k=true) (hnp':Nat.ble np k'=true) :
  ExtR P np tk (.call ⟨.builtin .append,#[x,y],#[t,t]⟩) ty [(.row k,some (.tree e sz o e2 sz2 s none (An f l))),(.row k',some (.tree e sz o e2 sz2 s' none (An f l')))] env [k,k'] (fun e'=>e'=Jh [(tk,some (.tree e sz o e2 sz2 (tk + 1) none (An f l2))),(tk + 1,some .gho),(k,none),(k',none)] (some (.row tk))):=by
 obtain⟨h1,rfl⟩:=Qt h
 rw [Ju]
 exact .appT hS hk hk' hne (by rw [D0 hf,D0 hf,<- aF2,Nat.mul_assoc,hkk]; exact h1) hnp hnp'
end
theorem aEf {cx:Cx} {fl:List (Nat×DV)} {ll:List (Nat×LB)} {n:Nat} (t e sz o e2 sz2:Nat) (cs:List C) (hcs:cs=[]) (hF:D5 fl t=some (.val (.slice none 0 0))) (ho:o < sz) :
  Mb cx (mk fl ll n) (mk ((t,.row n) :: fl) ((n,.tree e sz o e2 sz2 (n + 1) none cs) :: (n + 1,.gho) :: ll) (n + 2)):=by
 rintro a w ⟨ρ,h⟩
 have B:∀ k,(mk fl ll n).U k=true->k < n:=fun k hk=>aC3 hk
 have hU':∀ k,k < n + 2->(mk ((t,.row n) :: fl) ((n,LB.tree e sz o e2 sz2 (n + 1) none cs) :: (n + 1,.gho) :: ll) (n + 2)).U k=true:=fun k hk=>aFx hk
 let ρ':Nat->Value:=fun m=>if m=n then .slice none 0 0 else if m=n + 1 then .tuple #[] else ρ m
 have e1:ρ' n=.slice none 0 0:=if_pos rfl
 have e2':ρ' (n + 1)=.tuple #[]:=by
  show (if n + 1=n then _ else _)=_
  rw [if_neg (by omega),if_pos rfl]
 have hro:∀ m,m < n->ρ' m=ρ m:=fun m hm=>by
  show (if m=n then _ else if m=n + 1 then _ else _)=_
  rw [if_neg (by omega),if_neg (by omega)]
 have hF':∀ t' d,(mk ((t,.row n) :: fl) ((n,LB.tree e sz o e2 sz2 (n + 1) none cs) :: (n + 1,.gho) :: ll) (n + 2)).F t'=some d->(t'=t/\d=.row n)\/(mk fl ll n).F t'=some d:=fun t' d hd=>by
  have hd:D5 ((t,DV.row n) :: fl) t'=some d:=hd
  unfold D5 at hd
  cases hb:Nat.beq t' t with
  | true=>
   rw [hb] at hd
   injection hd with hd
   exact .inl ⟨aDr hb,hd.symm⟩
  | false=>rw [hb] at hd; exact .inr hd
 have hL':∀ k lb,(mk ((t,.row n) :: fl) ((n,LB.tree e sz o e2 sz2 (n + 1) none cs) :: (n + 1,.gho) :: ll) (n + 2)).L k=some lb->(k=n/\lb=.tree e sz o e2 sz2 (n + 1) none cs)\/(k=n + 1/\lb=.gho)\/(mk fl ll n).L k=some lb:=fun k lb hd=>by
  have hd:D5 ((n,LB.tree e sz o e2 sz2 (n + 1) none cs) :: (n + 1,.gho) :: ll) k=some lb:=hd
  unfold D5 at hd
  cases hb:Nat.beq k n with
  | true=>
   rw [hb] at hd
   injection hd with hd
   exact .inl ⟨aDr hb,hd.symm⟩
  | false=>
   rw [hb] at hd
   simp only [aCc] at hd
   unfold D5 at hd
   cases hb2:Nat.beq k (n + 1) with
   | true=>
    rw [hb2] at hd
    injection hd with hd
    exact .inr (.inl ⟨aDr hb2,hd.symm⟩)
   | false=>rw [hb2] at hd; exact .inr (.inr hd)
 have hnt:∀ b,¬ own ρ' (ρ' n) (.tree e sz o e2 sz2 (n + 1) none cs) b:=fun b hb=>by
  rcases hb with hb | ⟨vs,i,u,a1,a2,-⟩
  ·rw [e1] at hb; cases hb
  ·rw [e2'] at a1
   injection a1 with a1
   subst a1
   simp at a2
 have hold:∀ k lb b,(mk fl ll n).L k=some lb->own ρ' (ρ' k) lb b->own ρ (ρ k) lb b:=fun k lb b h1 h2=>by
  have hu:=h.usedL k lb h1
  rw [hro k (B k hu.1)] at h2
  exact N5 (fun j hj=>(hro j (B j (hu.2 j hj))).symm) h2
 have hloc:∀ b,Loc (mk ((t,.row n) :: fl) ((n,LB.tree e sz o e2 sz2 (n + 1) none cs) :: (n + 1,.gho) :: ll) (n + 2)) ρ' b->Loc (mk fl ll n) ρ b:=by
  rintro b ⟨k,lb,h1,h2⟩
  rcases hL' k lb h1 with ⟨rfl,rfl⟩ | ⟨rfl,rfl⟩ | h3
  ·exact (hnt b h2).elim
  ·exact h2.elim
  ·exact⟨k,lb,h3,hold k lb b h3 h2⟩
 have hI:∀ b,I4 cx (mk fl ll n) ρ w b->I4 cx (mk ((t,.row n) :: fl) ((n,LB.tree e sz o e2 sz2 (n + 1) none cs) :: (n + 1,.gho) :: ll) (n + 2)) ρ' w b/\w.heap[b]?=w.heap[b]?:=fun b hb=>⟨⟨hb.1,fun hl=>hb.2.1 (hloc b hl),hb.2.2⟩,rfl⟩
 refine⟨ρ',⟨h.defers,h.size,h.kept,fun t' d hd=>?_,fun k lb hl=>?_,fun k k' lb lb' b h1 h2 h3 h4=>?_,fun t' d k hd hm=>?_,fun k lb hl=>?_,fun k hk=>?_,fun k lb b hl hk hb=>?_⟩⟩
 ·rcases hF' t' d hd with ⟨rfl,rfl⟩ | h1
  ·have h2:=h.fr t' _ hF
   unfold B7 at h2 ⊢
   rw [e1]
   exact⟨h2.1,rfl⟩
  ·exact B7.step hI d _ (fun k hk=>hro k (B k (h.usedF t' d k h1 hk))) (h.fr t' d h1)
 ·rcases hL' k lb hl with ⟨rfl,rfl⟩ | ⟨rfl,rfl⟩ | h1
  ·rw [e1]
   subst hcs
   exact⟨0,[],#[],ho,e2',World.rowOk_nil _ _ _ _,rfl,rfl,fun b hb=>(by cases hb),fun j c u a1=>(by simp at a1),fun i u a1=>(by simp at a1),fun i j u u' b a1=>(by simp at a1)⟩
  ·trivial
  ·have hu:=h.usedL k lb h1
   rw [hro k (B k hu.1)]
   exact (h.lo k lb h1).step hI (fun j hj=>hro j (B j (hu.2 j hj))) fun b _=>rfl
 ·rcases hL' k lb h1 with ⟨rfl,rfl⟩ | ⟨rfl,rfl⟩ | h5
  ·exact (hnt b h3).elim
  ·exact h3.elim
  ·rcases hL' k' lb' h2 with ⟨rfl,rfl⟩ | ⟨rfl,rfl⟩ | h6
   ·exact (hnt b h4).elim
   ·exact h4.elim
   ·exact h.sep k k' lb lb' b h5 h6 (hold k lb b h5 h3) (hold k' lb' b h6 h4)
 ·rcases hF' t' d hd with ⟨rfl,rfl⟩ | h1
  ·unfold men at hm
   exact hU' k (by omega)
  ·exact hU' k (by have:=B k (h.usedF t' d k h1 hm); omega)
 ·rcases hL' k lb hl with ⟨rfl,rfl⟩ | ⟨rfl,rfl⟩ | h1
  ·exact⟨hU' k (by omega),fun k' hk'=>by have hk':k'=k + 1:=hk'; exact hU' k' (by omega)⟩
  ·exact⟨hU' _ (by omega),fun k' hk'=>hk'.elim⟩
  ·have hu:=h.usedL k lb h1
   exact⟨hU' k (by have:=B k hu.1; omega),fun k' hk'=>hU' k' (by have:=B k' (hu.2 k' hk'); omega)⟩
 ·have hp:=h.pin k hk
  have:=B k hp.2
  exact⟨(hro k this).trans hp.1,hU' k (by omega)⟩
 ·rcases hL' k lb hl with ⟨rfl,rfl⟩ | ⟨rfl,rfl⟩ | h1
  ·exact (hnt b hb).elim
  ·exact hb.elim
  ·exact h.fresh k lb b h1 hk (hold k lb b h1 hb)
section
variable {cx:Cx} {σ σ':St}
end
end Go.Proofs.YtfanepojdefdpaaGreat
