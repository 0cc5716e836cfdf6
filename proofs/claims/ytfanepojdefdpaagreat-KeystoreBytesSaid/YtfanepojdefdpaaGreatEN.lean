import Derived.Test.YtfanepojdefdpaaGreatEG
set_option linter.unusedVariables false
set_option linter.unusedSimpArgs false
namespace Go.Proofs.YtfanepojdefdpaaGreat
open Go.RowKit
def Ii:Value->List Nat
 | .tuple vs=>vs.toList.filterMap Br
 | _=>[]
def Zd (bs:List Nat):Value:=.tuple (bs.map fun b=>Value.pointer (some ⟨b,0,none⟩)).toArray
theorem Gt:∀ bs:List Nat,Ii (Zd bs)=bs:=fun bs=>by
 simp only [Ii,Zd]
 induction bs with
 | nil=>rfl
 | cons b bs ih=>simp only [aFl,List.filterMap_cons,Br]; rw [ih]
mutual
def Ji (w:World) (I:Nat->Prop) (e:TypeId) (sz o:Nat):C->Value->List Nat->Prop
 | .sl sz' c2,u,bs=>sz'=sz/\∃ n us b1,w.rowOk e sz u n us/\Ir w I e sz o c2 0 us b1/\bs=(Br u).toList ++ b1
 | .int _ _,_,_=>False
 | .bool _,_,_=>False
 | .str _,_,_=>False
 | .raw _,_,_=>False
 | .mp _,_,_=>False
def Ir (w:World) (I:Nat->Prop) (e:TypeId) (sz o:Nat):List C->Nat->List Value->List Nat->Prop
 | [],_,us,bs=>us=[]/\bs=[]
 | c :: cs,j,us,bs=>∃ u us' b1 b2,us=u :: us'/\((j % sz=o/\Ji w I e sz o c u b1)\/(j % sz≠o/\D3 w I c u/\b1=[]))/\Ir w I e sz o cs (j + 1) us' b2/\bs=b1 ++ b2
end
section
variable {w w':World} {I I':Nat->Prop} {e:TypeId} {sz o:Nat}
mutual
theorem Ji.step (hI:∀ b,I b->I' b/\w'.heap[b]?=w.heap[b]?):∀ (c:C) (u:Value) (bs:List Nat),(∀ b,b∈bs->w'.heap[b]?=w.heap[b]?)->Ji w I e sz o c u bs->Ji w' I' e sz o c u bs
 | .sl sz' c2,u,bs,hb,h=>by
  unfold Ji at *
  obtain⟨h1,n,us,b1,h2,h3,rfl⟩:=h
  exact⟨h1,n,us,b1,E9 h2 fun b h=>hb b (aE7 _ (by rw [h]; exact aDv.2 rfl)),Ir.step hI c2 0 us b1 (fun b h=>hb b (aE2 _ h)) h3,rfl⟩
 | .int _ _,_,_,_,h=>by unfold Ji at h; exact h.elim
 | .bool _,_,_,_,h=>by unfold Ji at h; exact h.elim
 | .str _,_,_,_,h=>by unfold Ji at h; exact h.elim
 | .raw _,_,_,_,h=>by unfold Ji at h; exact h.elim
 | .mp _,_,_,_,h=>by unfold Ji at h; exact h.elim
theorem Ir.step (hI:∀ b,I b->I' b/\w'.heap[b]?=w.heap[b]?):∀ (cs:List C) (j:Nat) (us:List Value) (bs:List Nat),(∀ b,b∈bs->w'.heap[b]?=w.heap[b]?)->Ir w I e sz o cs j us bs->Ir w' I' e sz o cs j us bs
 | [],_,_,_,_,h=>by unfold Ir at *; exact h
 | c :: cs,j,us,bs,hb,h=>by
  unfold Ir at *
  obtain⟨u,us',b1,b2,rfl,h1,h2,rfl⟩:=h
  refine⟨u,us',b1,b2,rfl,?_,Ir.step hI cs (j + 1) us' b2 (fun b h=>hb b (aE2 _ h)) h2,rfl⟩
  rcases h1 with ⟨h1,h3⟩ | ⟨h1,h3,h4⟩
  ·exact .inl ⟨h1,Ji.step hI c u b1 (fun b h=>hb b (aE7 _ h)) h3⟩
  ·exact .inr ⟨h1,D3.keep_ (fun b hb=>(hI b hb).2) (fun b hb=>(hI b hb).1) _ _ h3,h4⟩
end
mutual
theorem Ji.lt:∀ (c:C) (u:Value) (bs:List Nat),Ji w I e sz o c u bs->∀ b,b∈bs->b < w.heap.size
 | .sl sz' c2,u,bs,h,b,hb=>by
  unfold Ji at h
  obtain⟨h1,n,us,b1,h2,h3,rfl⟩:=h
  rcases aFh.1 hb with hb | hb
  ·exact Ho h2 (by simpa using hb)
  ·exact Ir.lt c2 0 us b1 h3 b hb
 | .int _ _,_,_,h,_,_=>by unfold Ji at h; exact h.elim
 | .bool _,_,_,h,_,_=>by unfold Ji at h; exact h.elim
 | .str _,_,_,h,_,_=>by unfold Ji at h; exact h.elim
 | .raw _,_,_,h,_,_=>by unfold Ji at h; exact h.elim
 | .mp _,_,_,h,_,_=>by unfold Ji at h; exact h.elim
theorem Ir.lt:∀ (cs:List C) (j:Nat) (us:List Value) (bs:List Nat),Ir w I e sz o cs j us bs->∀ b,b∈bs->b < w.heap.size
 | [],_,_,_,h,b,hb=>by unfold Ir at h; rw [h.2] at hb; cases hb
 | c :: cs,j,us,bs,h,b,hb=>by
  unfold Ir at h
  obtain⟨u,us',b1,b2,rfl,h1,h2,rfl⟩:=h
  rcases aFh.1 hb with hb | hb
  ·rcases h1 with ⟨h1,h3⟩ | ⟨h1,h3,h4⟩
   ·exact Ji.lt c u b1 h3 b hb
   ·rw [h4] at hb; cases hb
  ·exact Ir.lt cs (j + 1) us' b2 h2 b hb
end
mutual
theorem Ji.rd {J:Nat->Prop} (hI:∀ b,I b->J b):∀ (c:C) (u:Value) (bs:List Nat),(∀ b,b∈bs->J b)->Ji w I e sz o c u bs->D3 w J c u
 | .sl sz' c2,u,bs,hb,h=>by
  unfold Ji at h
  obtain⟨h1,n,us,b1,h2,h3,rfl⟩:=h
  rw [h1]
  exact Yr.cells h2 (Ir.rd hI c2 0 us b1 (fun b h=>hb b (aE2 _ h)) h3) (fun _ h=>h) fun b h=>hb b (aE7 _ (by rw [h]; exact aDv.2 rfl))
 | .int _ _,_,_,_,h=>by unfold Ji at h; exact h.elim
 | .bool _,_,_,_,h=>by unfold Ji at h; exact h.elim
 | .str _,_,_,_,h=>by unfold Ji at h; exact h.elim
 | .raw _,_,_,_,h=>by unfold Ji at h; exact h.elim
 | .mp _,_,_,_,h=>by unfold Ji at h; exact h.elim
theorem Ir.rd {J:Nat->Prop} (hI:∀ b,I b->J b):∀ (cs:List C) (j:Nat) (us:List Value) (bs:List Nat),(∀ b,b∈bs->J b)->Ir w I e sz o cs j us bs->Fb w J cs us
 | [],_,_,_,_,h=>by
  unfold Ir at h
  rw [h.1]
  exact⟨rfl,fun j c u h _=>by simp at h⟩
 | c :: cs,j,us,bs,hb,h=>by
  unfold Ir at h
  obtain⟨u,us',b1,b2,rfl,h1,h2,rfl⟩:=h
  have h3:=Ir.rd hI cs (j + 1) us' b2 (fun b h=>hb b (aE2 _ h)) h2
  refine⟨by simpa using h3.1,fun m c' u' a b=>?_⟩
  cases m with
  | zero=>
   simp at a b
   subst a b
   rcases h1 with ⟨h1,h4⟩ | ⟨h1,h4,-⟩
   ·exact Ji.rd hI c u b1 (fun b h=>hb b (aE7 _ h)) h4
   ·exact h4.mono hI
  | succ m=>exact h3.2 m c' u' (by simpa using a) (by simpa using b)
end
theorem Ir.length:∀ {cs:List C} {j:Nat} {us:List Value} {bs:List Nat},Ir w I e sz o cs j us bs->cs.length=us.length
 | [],_,_,_,h=>by unfold Ir at h; rw [h.1]; rfl
 | c :: cs,j,us,bs,h=>by
  unfold Ir at h
  obtain⟨u,us',b1,b2,rfl,-,h2,-⟩:=h
  simp [Ir.length h2]
theorem Ir.append:∀ {cs cs':List C} {j:Nat} {us us':List Value} {bs bs':List Nat},Ir w I e sz o cs j us bs->Ir w I e sz o cs' (j + cs.length) us' bs'->Ir w I e sz o (cs ++ cs') j (us ++ us') (bs ++ bs')
 | [],cs',j,us,us',bs,bs',h,h'=>by
  unfold Ir at h
  rw [h.1,h.2]
  exact h'
 | c :: cs,cs',j,us,us',bs,bs',h,h'=>by
  unfold Ir at h
  obtain⟨u,us1,b1,b2,rfl,h1,h2,rfl⟩:=h
  rw [aGb,aGb,aFv]
  unfold Ir
  exact⟨u,_,b1,_,rfl,h1,Ir.append h2 (by rw [show j + 1 + cs.length=j + (c :: cs).length by simp; omega]; exact h'),rfl⟩
theorem Ir.shift {m:Nat} (hm:m % sz=0):∀ {cs:List C} {j:Nat} {us:List Value} {bs:List Nat},Ir w I e sz o cs j us bs->Ir w I e sz o cs (m + j) us bs
 | [],_,_,_,h=>by unfold Ir at *; exact h
 | c :: cs,j,us,bs,h=>by
  unfold Ir at *
  obtain⟨u,us1,b1,b2,rfl,h1,h2,rfl⟩:=h
  refine⟨u,us1,b1,b2,rfl,?_,by have:=Ir.shift hm h2; rwa [<- aHv] at this,rfl⟩
  rwa [show (m + j) % sz=j % sz by rw [Nat.add_mod,hm,aE6,Nat.mod_mod]]
theorem Ir.flat:∀ {cs:List C} {us:List Value} (j:Nat),Fb w I cs us->(∀ i,j<=i->i < j + cs.length->i % sz≠o)->Ir w I e sz o cs j us []
 | [],us,j,h,_=>by
  unfold Ir
  exact⟨aDu h.1.symm,rfl⟩
 | c :: cs,[],j,h,_=>by simpa using h.1
 | c :: cs,u :: us,j,h,hj=>by
  unfold Ir
  refine⟨u,us,[],[],rfl,.inr ⟨hj j (aFf _) (by simp),h.2 0 c u rfl rfl,rfl⟩,Ir.flat (j + 1) ⟨by simpa using h.1,fun i c' u' a b=>h.2 (i + 1) c' u' (by simpa using a) (by simpa using b)⟩ fun i h1 h2=>hj i (by omega) (by simp; omega),rfl⟩
theorem Ir.at_:∀ {cs:List C} {j:Nat} {us:List Value} {bs:List Nat},Ir w I e sz o cs j us bs->∀ {m:Nat} {c:C},cs[m]?=some c->∃ u b1,us[m]?=some u/\b1.Sublist bs/\(((j + m) % sz=o/\Ji w I e sz o c u b1)\/((j + m) % sz≠o/\D3 w I c u))
 | [],_,_,_,_,m,c,hc=>by simp at hc
 | c :: cs,j,us,bs,h,m,c',hc=>by
  unfold Ir at h
  obtain⟨u,us1,b1,b2,rfl,h1,h2,rfl⟩:=h
  cases m with
  | zero=>
   simp at hc
   subst hc
   refine⟨u,b1,rfl,List.sublist_append_left _ _,?_⟩
   rcases h1 with h1 | ⟨h1,h3,-⟩
   ·exact .inl h1
   ·exact .inr ⟨h1,h3⟩
  | succ m=>
   obtain⟨u2,b3,h3,h4,h5⟩:=Ir.at_ h2 (m:=m) (c:=c') (by simpa using hc)
   refine⟨u2,b3,by simpa using h3,h4.trans (List.sublist_append_right _ _),?_⟩
   rwa [show j + (m + 1)=j + 1 + m by omega]
theorem Ir.two:∀ {cs:List C} {j:Nat} {us:List Value} {bs:List Nat},Ir w I e sz o cs j us bs->∀ {m m':Nat} {c c':C},m < m'->cs[m]?=some c->cs[m']?=some c'->(j + m) % sz=o->(j + m') % sz=o->
  ∃ u u' b b',us[m]?=some u/\us[m']?=some u'/\Ji w I e sz o c u b/\Ji w I e sz o c' u' b'/\(b ++ b').Sublist bs
 | [],_,_,_,_,m,_,c,_,_,hc,_,_,_=>by simp at hc
 | c :: cs,j,us,bs,h,m,m',c1,c2,hlt,h1,h2,e1,e2=>by
  unfold Ir at h
  obtain⟨u,us1,b1,b2,rfl,h3,h4,rfl⟩:=h
  obtain⟨q,rfl⟩:∃ q,m'=q + 1:=⟨m' - 1,by omega⟩
  rw [aH0] at h2
  rw [show j + (q + 1)=j + 1 + q by omega] at e2
  cases m with
  | zero=>
   simp at h1
   subst h1
   obtain⟨u2,b3,h5,h6,h7⟩:=Ir.at_ h4 h2
   rcases h3 with ⟨-,h3⟩ | ⟨h3,-⟩
   ·rcases h7 with ⟨-,h7⟩ | ⟨h7,-⟩
    ·exact⟨u,u2,b1,b3,rfl,by simpa using h5,h3,h7,List.Sublist.append (List.Sublist.refl _) h6⟩
    ·exact absurd e2 h7
   ·exact absurd e1 h3
  | succ m=>
   rw [aH0] at h1
   obtain⟨u2,u3,b3,b4,h5,h6,h7,h8,h9⟩:=Ir.two h4 (m:=m) (m':=q) (by omega) h1 h2 (by rw [<- e1]; congr 1; omega) e2
   exact⟨u2,u3,b3,b4,by simpa using h5,by simpa using h6,h7,h8,h9.trans (List.sublist_append_right _ _)⟩
theorem Ji.mem_blk {c:C} {u:Value} {bs:List Nat} {b:Nat} (h:Ji w I e sz o c u bs) (hb:Br u=some b):b∈bs:=by
 cases c with
 | sl sz' c2=>
  unfold Ji at h
  obtain⟨-,n,us,b1,-,-,rfl⟩:=h
  exact aE7 _ (by rw [hb]; exact aDv.2 rfl)
 | _=>unfold Ji at h; exact h.elim
theorem Ji.one {c:C} {u:Value} {bs:List Nat} (h:Ji w I e sz o c u bs):u.oneCell'=true:=by
 cases c with
 | sl sz' c2=>
  unfold Ji at h
  obtain⟨-,n,us,b1,h,-,-⟩:=h
  rcases h.2 with ⟨A,h,-⟩ | ⟨g,cap,cur,h,-⟩ <;> rw [h] <;> rfl
 | _=>unfold Ji at h; exact h.elim
theorem Ir.one {cs:List C} {j:Nat} {us:List Value} {bs:List Nat} (h:Ir w I e sz o cs j us bs):∀ u∈us,u.oneCell'=true:=fun u hu=>by
 obtain⟨m,hm,rfl⟩:=aF6 hu
 have hl:=h.length
 obtain⟨u2,b1,h1,-,h2⟩:=h.at_ (m:=m) (c:=cs[m]'(by omega)) (aA1 _)
 rw [aA1 hm] at h1
 injection h1 with h1
 rw [h1]
 rcases h2 with ⟨-,h2⟩ | ⟨-,h2⟩
 ·exact h2.one
 ·exact D3.one h2
end
section
variable {w:World} {I I':Nat->Prop} {e:TypeId} {sz o:Nat}
theorem R1 {n n':Nat} {u:Value} {us us':List Value} (hsz:0 < sz) (h:w.rowOk e sz u n us) (h':w.rowOk e sz u n' us'):us=us':=by
 have hn:n=n':=by
  rcases h.2 with ⟨A,q1,q2⟩ | ⟨g,cap,cur,q1,-⟩ <;> rcases h'.2 with ⟨A',p1,p2⟩ | ⟨g',cap',cur',p1,-⟩
  ·rw [q2,p2]
  ·rw [q1] at p1; injection p1 with _ p1 _; rw [q2]; exact p1
  ·rw [q1] at p1; injection p1 with _ p1 _; rw [p2]; exact p1
  ·rw [q1] at p1; injection p1 with _ p1 _
 subst hn
 rcases aFa n with h0 | h0
 ·subst h0
  have a1:us=[]:=aDu (by simpa using h.1)
  have a2:us'=[]:=aDu (by simpa using h'.1)
  rw [a1,a2]
 ·obtain⟨g,cap,q1,-,-,q2⟩:=Iv h h0
  obtain⟨g',cap',p1,-,-,p2⟩:=Iv h' h0
  rw [q1] at p1
  injection p1 with p1 _ _
  injection p1 with p1
  injection p1 with p1 _ _
  subst p1
  refine List.ext_getElem? fun j=>?_
  cases hj:us[j]? with
  | none=>
   rw [List.getElem?_eq_none_iff] at hj
   rw [aF5 (by rw [h'.1,<- h.1]; exact hj)]
  | some v=>
   have h3:=q2 j v hj
   have hlt:j < us'.length:=by rw [h'.1,<- h.1]; exact (aBw.1 hj).1
   have h4:=p2 j _ (aA1 hlt)
   rw [h3] at h4
   rw [aA1 hlt,h4]
mutual
theorem Ji.blocks (ho:o < sz):∀ (c:C) (u:Value) (b1 b2:List Nat),Ji w I e sz o c u b1->Ji w I' e sz o c u b2->b1=b2
 | .sl sz' c2,u,b1,b2,h,h'=>by
  unfold Ji at h h'
  obtain⟨h1,n,us,x,h2,h3,rfl⟩:=h
  obtain⟨-,n',us',y,k2,k3,rfl⟩:=h'
  have:=R1 (by omega) h2 k2
  subst this
  rw [Ir.blocks' ho c2 0 us x y h3 k3]
 | .int _ _,_,_,_,h,_=>by unfold Ji at h; exact h.elim
 | .bool _,_,_,_,h,_=>by unfold Ji at h; exact h.elim
 | .str _,_,_,_,h,_=>by unfold Ji at h; exact h.elim
 | .raw _,_,_,_,h,_=>by unfold Ji at h; exact h.elim
 | .mp _,_,_,_,h,_=>by unfold Ji at h; exact h.elim
theorem Ir.blocks' (ho:o < sz):∀ (cs:List C) (j:Nat) (us:List Value) (b1 b2:List Nat),Ir w I e sz o cs j us b1->Ir w I' e sz o cs j us b2->b1=b2
 | [],_,_,_,_,h,h'=>by unfold Ir at h h'; rw [h.2,h'.2]
 | c :: cs,j,us,b1,b2,h,h'=>by
  unfold Ir at h h'
  obtain⟨u,us1,x1,x2,rfl,h1,h2,rfl⟩:=h
  obtain⟨u',us1',y1,y2,e1,k1,k2,rfl⟩:=h'
  injection e1 with e1 e2
  subst e1 e2
  have:=Ir.blocks' ho cs (j + 1) us1 x2 y2 h2 k2
  subst this
  rcases h1 with ⟨h1,h3⟩ | ⟨h1,h3,rfl⟩ <;> rcases k1 with ⟨k1,k3⟩ | ⟨k1,k3,rfl⟩
  ·rw [Ji.blocks ho c u x1 y1 h3 k3]
  ·exact absurd h1 k1
  ·exact absurd k1 h1
  ·rfl
end
end
def Ds (e:TypeId) (sz o:Nat) (cs:List C):Shp where
 R:=fun w I v xs=>∃ s,xs=[s]/\Ji w I e sz o (.sl sz cs) v (Ii s)/\(Ii s).Nodup/\o < sz
 own:=fun _ xs b=>∃ s,xs=[s]/\b∈Ii s
 stab:=by
  rintro w w' I I' v xs ⟨s,rfl,h1,h2,h3⟩ hI hb
  exact⟨s,rfl,Ji.step hI _ _ _ (fun b h=>hb b ⟨s,rfl,h⟩) h1,h2,h3⟩
 lt:=by
  rintro w I v xs b ⟨s,rfl,h1,h2,h3⟩ ⟨s',h4,h5⟩
  injection h4 with h4
  subst h4
  exact Ji.lt _ _ _ h1 b h5
 rd:=some (sz,cs)
 rdOk:=by
  rintro w I J v xs sz' cs' h0 ⟨s,rfl,h1,h2,h3⟩ hI hb
  injection h0 with h0
  injection h0 with h0 h0'
  subst h0 h0'
  exact Ji.rd hI _ _ _ (fun b h=>hb b ⟨s,rfl,h⟩) h1
def Xq (e:TypeId) (sz o:Nat) (cs:List C):Shp where
 R:=fun w I v xs=>∃ x,xs=[x]/\x.oneCell'=true/\∃ n us,w.rowOk e sz v n us/\o < sz/\0 < n/\cs.length=us.length/\us[o]?=some x/\∀ j c u,j < sz->j≠o->cs[j]?=some c->us[j]?=some u->D3 w I c u
 own:=fun v _ b=>Br v=some b
 stab:=by
  rintro w w' I I' v xs ⟨x,rfl,h0,n,us,h1,h2,h3,h4,h5,h6⟩ hI hb
  exact⟨x,rfl,h0,n,us,E9 h1 hb,h2,h3,h4,h5,fun j c u a b d f=>D3.keep_ (fun b hb=>(hI b hb).2) (fun b hb=>(hI b hb).1) _ _ (h6 j c u a b d f)⟩
 lt:=by
  rintro w I v xs b ⟨x,rfl,-,n,us,h1,-⟩ hb
  exact Ho h1 hb
 rd:=none
 rdOk:=fun h=>nomatch h
section
variable {P:Program} {cx:Cx} {ρ:Nat->Value} {σ:St} {a:Act} {w:World} {o:Oper} {K:Act->World->Prop} {Q:Exit->Act->World->Prop}
theorem Qu {I:Nat->Prop} {v:Value} {e:TypeId} {sz o' s:Nat} {cs:List C} (h:N3 cx ρ I w v (.abs [s] (Ds e sz o' cs))):∃ n us b1,w.rowOk e sz v n us/\Ir w I e sz o' cs 0 us b1/\Ii (ρ s)=(Br v).toList ++ b1/\(Ii (ρ s)).Nodup/\o' < sz/\∀ b,b∈Ii (ρ s)->cx.w0.heap.size<=b\/cx.M b:=by
 obtain⟨⟨s',h1,h2,h3,h4⟩,h5⟩:=h
 injection h1 with h1
 subst h1
 unfold Ji at h2
 obtain⟨-,n,us,b1,q1,q2,q3⟩:=h2
 exact⟨n,us,b1,q1,q2,q3,h3,h4,fun b hb=>h5 b ⟨_,rfl,hb⟩⟩
theorem Fa {v:Value} {e:TypeId} {sz o' s b:Nat} {cs:List C}:own ρ v (.abs [s] (Ds e sz o' cs)) b↔b∈Ii (ρ s):=by
 constructor
 ·rintro⟨s',h1,h2⟩
  injection h1 with h1
  subst h1
  exact h2
 ·exact fun h=>⟨_,rfl,h⟩
theorem aAn {np tk:Nat} {x:Operand} {t:TypeId} {ty:TypeId} {env:Sn} {k s e e' sz bytes o' n:Nat} {cs:List C} (hS:Ij P t e sz bytes) (hn:cs.length=n * sz) :
  ExtR P np tk (.call ⟨.builtin .len,#[x],#[t]⟩) ty [(.row k,some (.abs [s] (Ds e' sz o' cs)))] env [] (fun e'=>e'=v0 (.val (.int .i64 (n:Int)))):=by
 refine .sem ?_ (by rintro e rfl k hk; exact absurd rfl hk) (fun k hk=>by cases hk) (fun _ wr' e hs h=>by
  obtain rfl:=hs.np rfl
  cases h with
  | len _ hl=>cases hl)
 intro cx ρ σ a w o K Q l0 hnp ha hds henv hf ho hdst hK
 obtain⟨_,hds0,hds⟩:=hds
 obtain rfl:=hds0.np rfl
 obtain⟨h1,-,h3⟩:=B9 ha (Ih (show Ey σ true [x]=_ from hds))
 unfold B7 at h1
 obtain⟨m,us,b1,ho',hd,-⟩:=Qu (ha.lo _ _ (h3 _ _ rfl rfl))
 have hm:m=n:=aD6 hS.hsz (ho'.1.symm.trans (hd.length.symm.trans hn))
 subst hm
 obtain⟨A,c,hv,hle⟩:∃ A c,ρ k=.slice A m c/\m<=maxLen:=by
  rcases ho'.2 with ⟨A,q1,q2⟩ | ⟨g,cap,cur,q1,q2,q3,q4,q5,-⟩
  ·exact⟨A,0,by rw [q1,q2],by rw [q2]; exact aFb _⟩
  ·exact⟨_,cap,q1,aFj q4 q5⟩
 refine Ja ha hdst (v:=.int .i64 (m:Int)) ?_ (Jg (Gr.2 ?_)) (fun k' hk'=>Sy k' hk') (fun a' w' h=>hK _ a' w' rfl h)
 ·have:(Builtin.len_ #[t] o.type #[.slice A m c]).run P w=.ok (.int .i64 (m:Int)) w:=by
   simp [Builtin.len_,run_underlying hS.ht,goInt]
  simp [execOp,ho,resolve,invoke,builtin,h1.1,hv,this]
 ·have e3:IntKind.i64.min=-9223372036854775808:=by decide
  have e4:IntKind.i64.max=9223372036854775807:=by decide
  unfold maxLen at hle
  omega
theorem qN {np tk:Nat} {x i:Operand} {t:TypeId} {ty:TypeId} {env:Sn} {k m e e' sz bytes o':Nat} {cs:List C} {kk:IntKind} {b':Option LB} (hS:Ij P t e sz bytes) :
  ExtR P np tk (.indexAddr t x i) ty [(.row k,some (.abs [m] (Xq e' sz o' cs))),(.val (.int kk 0),b')] env [] (fun e'=>e'=v0 (.ptr k 0)):=by
 refine .sem ?_ (by rintro e rfl k hk; exact absurd rfl hk) (fun k hk=>by cases hk) (fun _ wr' e hs h=>by obtain rfl:=hs.np rfl; cases h)
 intro cx ρ σ a w o K Q l0 hnp ha hds henv hf ho hdst hK
 obtain⟨_,hds0,hds⟩:=hds
 obtain rfl:=hds0.np rfl
 obtain⟨e1,e2⟩:=K6 (show Ey σ true [x,i]=_ from hds)
 obtain⟨h1,h2,h3⟩:=B9 ha e1
 have hi:=Ge ha e2
 unfold B7 at h1
 obtain⟨⟨s',-,-,n,us,ho',hosz,hn0,-⟩,-⟩:=ha.lo _ _ (h3 _ _ rfl rfl)
 obtain⟨g,cap,hv,hmc,-⟩:=Iv ho' hn0
 replace h1:=h1.1
 rw [hv] at h1
 refine Ja ha hdst (v:=.pointer (some ⟨g,0,none⟩)) ?_ (by unfold B7; exact⟨g,by rw [hv]; exact Gu (by omega),rfl⟩) (fun k hk=>h2 k (by unfold men at *; exact hk)) (fun a' w' h=>hK _ a' w' rfl h)
 have:(Instr.indexAt t (.slice (some ⟨g,0,none⟩) n cap) (.int kk 0)).run P w=.ok (.pointer (some ((⟨g,0,none⟩:Addr).add (0 * sz)))) w:=T0 hS ⟨g,0,none⟩ n cap kk hn0
 simp [execOp,ho,h1,hi,this,I9]
theorem qF {np tk:Nat} {x:Operand} {t:TypeId} {ty:TypeId} {env:Sn} {k m e sz o':Nat} {cs:List C} (ht:Ty P t true sz) :
  ExtR P np tk (.load t x) ty [(.ptr k 0,some (.abs [m] (Xq e sz o' cs)))] env [] (fun e'=>e'=v0 (.agg (((cs.take sz).map T7).set o' (.row m)))):=by
 refine .sem ?_ (by rintro e rfl k hk; exact absurd rfl hk) (fun k hk=>by cases hk) (fun _ wr' e hs h=>by obtain rfl:=hs.np rfl; cases h)
 intro cx ρ σ a w o K Q l0 hnp ha hds henv hf ho hdst hK
 obtain⟨_,hds0,hds⟩:=hds
 obtain rfl:=hds0.np rfl
 obtain⟨h1,h2,h3⟩:=B9 ha (Ih (show Ey σ true [x]=_ from hds))
 have hL:=h3 _ _ rfl rfl
 unfold B7 at h1
 obtain⟨g,D,hv⟩:=h1
 obtain⟨⟨x',hx,hx1,n,us,ho',hosz,hn0,hl,hus,hfl⟩,-⟩:=ha.lo _ _ hL
 injection hx with hx
 subst hx
 obtain⟨g',cap,hv',hmc,hsz',hcell⟩:=Iv ho' hn0
 have hgg:g'=g:=by rw [hv'] at D; exact (Ft D).1
 subst hgg
 have hul:sz<=us.length:=by rw [ho'.1]; exact Nat.le_mul_of_pos_left _ hn0
 have hcl:∀ j,j < sz->∃ u,us[j]?=some u/\w.cell? ⟨g',j,none⟩=some u:=fun j hj=>by
  have hu:us[j]?=some us[j]:=aA1 (by omega)
  exact⟨_,hu,hcell j _ hu⟩
 have hrep:∀ l:List C,∀ vs:List Value,∀ j0,l.length=vs.length->(∀ j c u,l[j]?=some c->vs[j]?=some u->(j0 + j=o'->u=ρ m)/\(j0 + j≠o'->D3 w (I4 cx σ ρ w) c u))->j0<=o'->Bk ρ (I4 cx σ ρ w) w ((l.map T7).set (o' - j0) (.row m)) vs:=by
  intro l
  induction l with
  | nil=>
   intro vs j0 hl _ _
   have:vs=[]:=aDu hl.symm
   subst this
   unfold Bk
   rfl
  | cons c l ih=>
   intro vs j0 hl h hj
   cases vs with
   | nil=>simp at hl
   | cons u vs=>
    have h0:=h 0 c u rfl rfl
    rcases aF4 j0 o' with hlt | hge
    ·obtain⟨q,hq⟩:∃ q,o' - j0=q + 1:=⟨o' - j0 - 1,by omega⟩
     rw [hq,aFl,List.set_cons_succ]
     unfold Bk
     refine⟨u,vs,rfl,Bk.map_cdv.rep_cdv (h0.2 (by omega)),?_⟩
     have:=ih vs (j0 + 1) (by simpa using hl) (fun j c u a b=>by
      have:=h (j + 1) c u (by simpa using a) (by simpa using b)
      rwa [show j0 + (j + 1)=j0 + 1 + j by omega] at this) (by omega)
     rwa [show o' - (j0 + 1)=q by omega] at this
    ·have:j0=o':=by omega
     subst this
     rw [Nat.sub_self,aFl,List.set_cons_zero]
     unfold Bk
     have hum:u=ρ m:=h0.1 rfl
     refine⟨u,vs,rfl,by unfold B7; exact⟨hum,hx1⟩,?_⟩
     refine (Bk.map_cdv (ρ:=ρ) (cs:=l) (us:=vs) ⟨by simpa using hl,fun j c u a b=>(h (j + 1) c u (by simpa using a) (by simpa using b)).2 (by omega)⟩).1
 have hvs:(us.take sz).length=sz:=by rw [aDy]; omega
 have hR:=hrep (cs.take sz) (us.take sz) 0 (by rw [aDy,aDy,hl]) (fun j c u a b=>by
  rw [aE9] at a b
  split at a
  ·rename_i hj
   rw [if_pos hj] at b
   refine⟨fun h=>?_,fun h=>hfl j c u hj (by omega) a b⟩
   have:j=o':=by omega
   subst this
   rw [hus] at b
   injection b with b
   exact b.symm
  ·cases a) (aFb _)
 rw [Nat.sub_zero] at hR
 have hone:∀ u∈us.take sz,u.oneCell'=true:=fun u hu=>by
  obtain⟨j,hj,rfl⟩:=aF6 hu
  rw [List.getElem_take]
  have hj':j < sz:=by omega
  by_cases hjo:j=o'
  ·subst hjo
   have h5:us[j]?=some us[j]:=aA1 (by omega)
   rw [hus] at h5
   injection h5 with h5
   rw [<- h5]
   exact hx1
  ·exact D3.one (hfl j (cs[j]'(by omega)) us[j] hj' hjo (aA1 _) (aA1 _))
 have hmU:σ.U m=true:=(ha.usedL _ _ hL).2 m (aDv.2 rfl)
 refine Ja ha hdst (v:=.agg (us.take sz).toArray) ?_ (by unfold B7; exact⟨_,rfl,hone,hR⟩) (fun k' hk'=>?_) (fun a' w' h=>hK _ a' w' rfl h)
 ·have:=N6 (w:=w) ht (ad:=⟨g',0,none⟩) (vs:=us.take sz) hvs (fun j v hj=>by
   rw [I9,aE6]
   rw [aE9] at hj
   split at hj
   ·exact hcell j v hj
   ·cases hj)
  simp [execOp,ho,hv,this]
 ·have hk':E3 (((cs.take sz).map T7).set o' (.row m)) k':=by unfold men at hk'; exact hk'
  have:∀ (l:List DV) (q:Nat),E3 (l.set q (.row m)) k'->E3 l k'\/k'=m:=by
   intro l
   induction l with
   | nil=>intro q h; simp at h; exact .inl h
   | cons d l ih=>
    intro q h
    cases q with
    | zero=>
     rw [List.set_cons_zero] at h
     unfold E3 at h
     rcases h with h | h
     ·unfold men at h; exact .inr h
     ·exact .inl (by unfold E3; exact .inr h)
    | succ q=>
     rw [List.set_cons_succ] at h
     unfold E3 at h
     rcases h with h | h
     ·exact .inl (by unfold E3; exact .inl h)
     ·rcases ih q h with h | h
      ·exact .inl (by unfold E3; exact .inr h)
      ·exact .inr h
  rcases this _ _ hk' with h | h
  ·exact (S2 k' h).elim
  ·rw [h]; exact hmU
theorem kI {np tk:Nat} {x:Operand} {t:TypeId} {ty:TypeId} {env:Sn} {k m e sz o':Nat} {cs cs2:List C} (ht:Ty P t true sz) (h:(cs.drop 0).take sz=cs2) :
  ExtR P np tk (.load t x) ty [(.ptr k 0,some (.abs [m] (Xq e sz o' cs)))] env [] (fun e'=>e'=v0 (.agg ((cs2.map T7).set o' (.row m)))):=by
 subst h
 exact qF ht
theorem oV {np tk:Nat} {t e:TypeId} {ty:TypeId} {env:Sn} {sz o' bytes j s:Nat} {x:Operand} {d:DV} {b:Option LB} {z:List Value} {r pre post:List DV} {ck1 ck2:List (Option Nat)} {c1 c2 c3 cs1:List C} (hS:Ij P t e sz bytes) (hz:Zt P e z) (hlen:1 * sz<=16777216)
  (hd:Ia (fun i=>some (i * sz,sz)) ((List.replicate 1 (z.map DV.val)).flatten) [(0,d)]=some r) (hoc:(Cn d).all T8=true) (hr:r=pre ++ .row j :: post) (hpo:pre.length=o') (h1:Ib ck1 pre c1) (h3:Ib ck2 post c3) (hj:(j,some (.abs [s] (Ds e sz o' c2)))∈env) (hnp:Nat.ble np j=true) (hE:c1 ++ .sl sz c2 :: c3=cs1) :
  ExtR P np tk (.buildSlice t 1 #[(0,x)]) ty [(d,b)] env [j] (fun e'=>e'=Jh [(tk,some (.abs [tk + 1] (Ds e sz o' cs1))),(tk + 1,some .gho),(j,none)] (some (.row tk))):=by
 subst hE
 refine .sem ?_ (by rintro e rfl k hk; have:=J9 hk; simp at this; rcases this with rfl | rfl | rfl <;> first | (exact .inr (by omega)) | (exact .inl (by simp))) (fun k hk=>by rw [aDv.1 hk]; exact aFr.2 ⟨_,hj,rfl⟩) (fun _ wr' e hs h=>by
  obtain rfl:=Hj.eq (show Hj false _ _ from hs)
  cases h with
  | buildSl hS' hz' hlen' hd' hk hc ho'=>
   obtain⟨rfl,rfl⟩:=hS.uniq hS'
   obtain rfl:=hz.uniq hz'
   have h4:some r=some _:=hd.symm.trans hd'
   injection h4 with h4
   subst h4
   exact hc.no_row (.row j) (by rw [hr]; simp) j rfl)
 intro cx ρ σ a w o K Q l0 hnp0 ha hds henv hf ho hdst hK
 obtain⟨_,hds0,hds⟩:=hds
 obtain rfl:=Hj.eq (show Hj false _ _ from hds0)
 subst henv hnp0
 have hLj:=I0 hj
 obtain⟨rs,hrun,r2,r3,r4,r5⟩:=oT hS hz hlen hd hoc ha (Ih (show Ey σ false [x]=_ from hds))
 subst hr
 have hf0:=hf 0 (by omega)
 have hf1:=hf 1 (by omega)
 rw [aGz] at hf0
 obtain⟨n2,us2,b2,p2,p3,p4,p5,hosz,pM⟩:=Qu (ha.lo _ _ hLj)
 obtain⟨us1,us3,rfl,s1,s3⟩:∃ us1 us3,rs=us1 ++ ρ j :: us3/\Bk ρ (I4 cx σ ρ w) w pre us1/\Bk ρ (I4 cx σ ρ w) w post us3:=by
  obtain⟨us1,rest,e1,s1,s2⟩:=Bk.split_ r2
  unfold Bk at s2
  obtain⟨u,us3,e2,s2,s3⟩:=s2
  unfold B7 at s2
  exact⟨us1,us3,by rw [e1,e2,s2.1],s1,s3⟩
 have d1:=Ib.rd h1 s1
 have d3:=Ib.rd h3 s3
 have hl1:us1.length=o':=by rw [<- s1.length]; exact hpo
 rw [aGm] at r4
 have hl3:us1.length + (us3.length + 1)=sz:=by simpa using r4
 have hlt:∀ b,b∈Ii (ρ s)->b < w.heap.size:=fun b hb=>((ha.lo _ _ hLj).blk (Fa.2 hb)).1
 let v':Value:=.slice (some ⟨w.heap.size,0,none⟩) 1 1
 let ρ':Nat->Value:=fun m=>if m=tk then v' else if m=tk + 1 then Zd (w.heap.size :: Ii (ρ s)) else ρ m
 have hrtk:ρ' tk=v':=if_pos rfl
 have hrt1:ρ' (tk + 1)=Zd (w.heap.size :: Ii (ρ s)):=by
  show (if tk + 1=tk then _ else _)=_
  rw [if_neg (by omega),if_pos rfl]
 have hro:∀ m,σ.U m=true->ρ' m=ρ m:=fun m hm=>by
  show (if m=tk then _ else if m=tk + 1 then _ else _)=_
  rw [if_neg (fun h=>by subst h; rw [hf0] at hm; cases hm),if_neg (fun h=>by subst h; rw [hf1] at hm; cases hm)]
 have hlk:∀ k' x,D5 [(tk,some (LB.abs [tk + 1] (Ds e sz o' (c1 ++ .sl sz c2 :: c3)))),(tk + 1,some LB.gho),(j,none)] k'=some (some x)->(k'=tk/\x=.abs [tk + 1] (Ds e sz o' (c1 ++ .sl sz c2 :: c3)))\/(k'=tk + 1/\x=.gho):=fun k' x h=>by
  have:=E4 h
  simpa using this
 have hown:∀ b,own ρ' (ρ' tk) (.abs [tk + 1] (Ds e sz o' (c1 ++ .sl sz c2 :: c3))) b->b=w.heap.size\/b∈Ii (ρ s):=fun b hb=>by
  have hb:=Fa.1 hb
  rw [hrt1,Gt] at hb
  exact aE1.1 hb
 unfold Oper.wp
 rw [show (execOp a.eval o).run P w=.ok (.value v') (w.alloc (.cells (us1 ++ ρ j :: us3).toArray e)) by simp only [execOp,ho]; simp [hrun,v']]
 refine hK _ _ _ rfl ⟨ρ',ha.app (v:=v') (ha.kept.alloc _) (by simp) hdst hro (fun b hb _=>Below.heap_alloc w _ b hb) (fun k' lb b h1 h2=>?_) (fun m1 m2 lb lb' b h1 h2 h3 h4=>?_) (fun hI hI2=>⟨fun k' lb h=>?_,fun d hd=>?_⟩) ⟨fun k' lb m2 h1 h2=>?_,fun d k' h1 h2=>?_⟩ (fun k' lb b h1 h2 h3=>?_)⟩
 ·rcases hlk k' _ h1 with ⟨rfl,rfl⟩ | ⟨rfl,rfl⟩
  ·rcases hown b h2 with rfl | h
   ·exact .inl (aFf _)
   ·exact .inr ⟨j,_,C3 (by simp),hLj,Fa.2 h⟩
  ·exact h2.elim
 ·rcases hlk m1 _ h1 with ⟨rfl,rfl⟩ | ⟨rfl,rfl⟩
  ·rcases hlk m2 _ h2 with ⟨rfl,rfl⟩ | ⟨rfl,rfl⟩
   ·rfl
   ·exact h4.elim
  ·exact h3.elim
 ·rcases hlk k' _ h with ⟨rfl,rfl⟩ | ⟨rfl,rfl⟩
  ·rw [hrtk]
   have hm:(us1 ++ ρ j :: us3).length=1 * sz:=by rw [aGm]; simp; omega
   have hrow:(w.alloc (.cells (us1 ++ ρ j :: us3).toArray e)).rowOk e sz v' 1 (us1 ++ ρ j :: us3):=⟨hm,.inr ⟨w.heap.size,1,_,rfl,by omega,heap_alloc_new w _,aFf _,by unfold maxLen; omega,by simpa using hm,by rw [aFd (by rw [<- hm]; simp)]⟩⟩
   have hc1:c1.length=o':=by rw [d1.1,hl1]
   have hc3:c3.length + 1 + o'=sz:=by rw [d3.1]; omega
   have k1:Ir (w.alloc (.cells (us1 ++ ρ j :: us3).toArray e)) (I4 cx (σ.app o.dst (Jh [(k',some (.abs [k' + 1] (Ds e sz o' (c1 ++ .sl sz c2 :: c3)))),(k' + 1,some .gho),(j,none)] (some (.row k')))) ρ' (w.alloc (.cells (us1 ++ ρ j :: us3).toArray e))) e sz o' c1 0 us1 []:=
    Ir.flat 0 (d1.keep_ (fun b hb=>(hI b hb).2) fun b hb=>(hI b hb).1) fun i _ h2 h3=>by
     rw [aFc (by omega)] at h3
     omega
   have k3:Ir (w.alloc (.cells (us1 ++ ρ j :: us3).toArray e)) (I4 cx (σ.app o.dst (Jh [(k',some (.abs [k' + 1] (Ds e sz o' (c1 ++ .sl sz c2 :: c3)))),(k' + 1,some .gho),(j,none)] (some (.row k')))) ρ' (w.alloc (.cells (us1 ++ ρ j :: us3).toArray e))) e sz o' c3 (o' + 1) us3 []:=
    Ir.flat (o' + 1) (d3.keep_ (fun b hb=>(hI b hb).2) fun b hb=>(hI b hb).1) fun i h1 h2 h3=>by
     rw [aFc (by omega)] at h3
     omega
   have k2:Ji (w.alloc (.cells (us1 ++ ρ j :: us3).toArray e)) (I4 cx (σ.app o.dst (Jh [(k',some (.abs [k' + 1] (Ds e sz o' (c1 ++ .sl sz c2 :: c3)))),(k' + 1,some .gho),(j,none)] (some (.row k')))) ρ' (w.alloc (.cells (us1 ++ ρ j :: us3).toArray e))) e sz o' (.sl sz c2) (ρ j) (Ii (ρ s)):=by
    refine Ji.step hI _ _ _ (fun b hb=>Below.heap_alloc w _ b (hlt b hb)) ?_
    unfold Ji
    exact⟨rfl,n2,us2,b2,p2,p3,p4⟩
   refine⟨⟨_,rfl,?_,?_,hosz⟩,fun b hb=>?_⟩
   ·show Ji _ _ e sz o' (.sl sz (c1 ++ .sl sz c2 :: c3)) v' (Ii (ρ' (k' + 1)))
    rw [hrt1,Gt]
    unfold Ji
    refine⟨rfl,1,_,Ii (ρ s),hrow,?_,rfl⟩
    have:=k1.append (cs':=.sl sz c2 :: c3) (us':=ρ j :: us3) (bs':=Ii (ρ s)) (by
     unfold Ir
     refine⟨ρ j,us3,Ii (ρ s),[],rfl,.inl ⟨?_,k2⟩,?_,by rw [aG9]⟩
     ·rw [aE6,hc1,aFc hosz]
     ·rw [aE6,hc1]; exact k3)
    simpa using this
   ·show (Ii (ρ' (k' + 1))).Nodup
    rw [hrt1,Gt]
    exact aH2.2 ⟨fun h=>Nat.lt_irrefl _ (hlt _ h),p5⟩
   ·obtain⟨s',h1,h2⟩:=hb
    injection h1 with h1
    subst h1
    rw [hrt1,Gt] at h2
    rcases aE1.1 h2 with rfl | h2
    ·exact .inl ha.kept.2.2.2.1
    ·exact pM b h2
  ·trivial
 ·injection hd with hd
  subst hd
  unfold B7
  exact⟨hrtk.symm,by rw [hrtk]; rfl⟩
 ·rcases hlk k' _ h1 with ⟨rfl,rfl⟩ | ⟨rfl,rfl⟩
  ·have h2:m2∈[k' + 1]:=h2
   rw [aDv.1 h2]
   exact .inr (C3 (by simp))
  ·exact h2.elim
 ·injection h1 with h1
  subst h1
  unfold men at h2
  subst h2
  exact .inr (C3 (by simp))
 ·rcases hlk k' _ h1 with ⟨rfl,rfl⟩ | ⟨rfl,rfl⟩
  ·rcases hown b h3 with rfl | h
   ·exact .inl ha.kept.2.2.2.1
   ·exact ha.fresh j _ b hLj (aC3 hnp) (Fa.2 h)
  ·exact h3.elim
theorem tX {np tk:Nat} {t e:TypeId} {ty:TypeId} {env:Sn} {sz o' bytes k s k' s':Nat} {x y:Operand} {cs cs':List C} (hS:Ij P t e sz bytes) (hk:k∈env.map (·.1)) (hk':k'∈env.map (·.1)) (hne:Nat.beq k k'=false) (hl:(cs.length + cs'.length) * bytes<=140737488355328) (hnp:Nat.ble np k=true) (hnp':Nat.ble np k'=true) :
  ExtR P np tk (.call ⟨.builtin .append,#[x,y],#[t,t]⟩) ty [(.row k,some (.abs [s] (Ds e sz o' cs))),(.row k',some (.abs [s'] (Ds e sz o' cs')))] env [k,k'] (fun e'=>e'=Jh [(tk,some (.abs [tk + 1] (Ds e sz o' (cs ++ cs')))),(tk + 1,some .gho),(k,none),(k',none)] (some (.row tk))):=by
 refine .sem ?_ (by rintro e rfl k hk; have:=J9 hk; simp at this; rcases this with rfl | rfl | rfl | rfl <;> first | (exact .inr (by omega)) | (exact .inl (by simp))) (fun i hi=>by
  simp at hi
  rcases hi with rfl | rfl
  ·exact hk
  ·exact hk') (fun _ wr' e hs h=>by
  obtain rfl:=hs.np rfl
  cases h with
  | append _ ht _ _=>cases ht)
 intro cx ρ σ a w o K Q l0 hnp0 ha hds henv hf ho hdst hK
 obtain⟨_,hds0,hds⟩:=hds
 obtain rfl:=hds0.np rfl
 subst henv hnp0
 have hnp:=aC3 hnp
 have hnp':=aC3 hnp'
 have hf0:=hf 0 (by omega)
 have hf1:=hf 1 (by omega)
 rw [aGz] at hf0
 have hkk:k≠k':=fun h=>by subst h; rw [aGp] at hne; cases hne
 obtain⟨e1,e2'⟩:=K6 (show Ey σ true [x,y]=_ from hds)
 obtain⟨h1,-,h3⟩:=B9 ha e1
 obtain⟨k1,-,k3⟩:=B9 ha e2'
 have hL:=h3 _ _ rfl rfl
 have hL':=k3 _ _ rfl rfl
 unfold B7 at h1 k1
 obtain⟨n,us,b1,q1,q2,q3,q4,hosz,q5⟩:=Qu (ha.lo _ _ hL)
 obtain⟨n',us',b1',p1,p2,p3,p4,-,p5⟩:=Qu (ha.lo _ _ hL')
 have hsz:0 < sz:=hS.hsz
 have hone:∀ u∈us',u.oneCell'=true:=p2.one
 obtain⟨A,m,c,hv',hl',hA⟩:∃ A m c,ρ k'=.slice A m c/\us'.length=m * sz/\(0 < m->∃ ad,A=some ad/\∀ j u,us'[j]?=some u->w.cell? (ad.add j)=some u):=by
  rcases aFa n' with hn | hn
  ·rcases p1.2 with ⟨A,z1,z2⟩ | ⟨g,cap,cur,z1,-⟩
   ·exact⟨A,0,0,z1,by rw [p1.1,hn],fun h=>absurd h (by omega)⟩
   ·exact⟨_,n',cap,z1,p1.1,fun h=>absurd h (by omega)⟩
  ·obtain⟨g,cap,z1,-,-,z2⟩:=Iv p1 hn
   exact⟨_,n',cap,z1,p1.1,fun _=>⟨_,rfl,fun j u hj=>by rw [I9,aE6]; exact z2 j u hj⟩⟩
 have hmn:m=n':=aD6 hsz (hl'.symm.trans p1.1)
 subst hmn
 obtain⟨v',w',hrun,g2,g3,g4,hsl⟩:=Q6 (P:=P) (ty:=o.type) hS q1 (A:=A) (m:=m) (c:=c) hl' hone hA (by rw [<- q2.length,<- p2.length]; exact hl)
 have hkU:σ.U k=true:=(ha.usedL _ _ hL).1
 have hkU':σ.U k'=true:=(ha.usedL _ _ hL').1
 have xx:∀ b,b∈Ii (ρ s)->b∈Ii (ρ s')->False:=fun b a1 a2=>hkk (ha.sep k k' _ _ b hL hL' (Fa.2 a1) (Fa.2 a2))
 have lt1:∀ b,b∈Ii (ρ s)->b < w.heap.size:=fun b hb=>((ha.lo _ _ hL).blk (Fa.2 hb)).1
 have lt2:∀ b,b∈Ii (ρ s')->b < w.heap.size:=fun b hb=>((ha.lo _ _ hL').blk (Fa.2 hb)).1
 have sub1:∀ b,b∈b1->b∈Ii (ρ s):=fun b h=>by rw [q3]; exact aE2 _ h
 have sub2:∀ b,b∈b1'->b∈Ii (ρ s'):=fun b h=>by rw [p3]; exact aE2 _ h
 have root1:∀ b,Br (ρ k)=some b->b∈Ii (ρ s)/\b∉b1:=fun b h=>by
  rw [q3,h] at q4 ⊢
  exact⟨aE7 _ (aDv.2 rfl),(aH2.1 q4).1⟩
 let nb:List Nat:=(Br v').toList ++ (b1 ++ b1')
 let ρ':Nat->Value:=fun m=>if m=tk then v' else if m=tk + 1 then Zd nb else ρ m
 have hrtk:ρ' tk=v':=if_pos rfl
 have hrt1:ρ' (tk + 1)=Zd nb:=by
  show (if tk + 1=tk then _ else _)=_
  rw [if_neg (by omega),if_pos rfl]
 have hro:∀ m,σ.U m=true->ρ' m=ρ m:=fun m hm=>by
  show (if m=tk then _ else if m=tk + 1 then _ else _)=_
  rw [if_neg (fun h=>by subst h; rw [hf0] at hm; cases hm),if_neg (fun h=>by subst h; rw [hf1] at hm; cases hm)]
 have hlk:∀ m x,D5 [(tk,some (LB.abs [tk + 1] (Ds e sz o' (cs ++ cs')))),(tk + 1,some LB.gho),(k,none),(k',none)] m=some (some x)->(m=tk/\x=.abs [tk + 1] (Ds e sz o' (cs ++ cs')))\/(m=tk + 1/\x=.gho):=fun m x h=>by
  have:=E4 h
  simpa using this
 have hnb:∀ b,b∈nb->w.heap.size<=b\/b∈Ii (ρ s)\/b∈Ii (ρ s'):=fun b hb=>by
  rcases aFh.1 hb with hb | hb
  ·rcases g4 b (by simpa using hb) with h | h
   ·exact .inr (.inl (root1 b h).1)
   ·exact .inl h
  ·rcases aFh.1 hb with hb | hb
   ·exact .inr (.inl (sub1 b hb))
   ·exact .inr (.inr (sub2 b hb))
 have hown:∀ b,own ρ' (ρ' tk) (.abs [tk + 1] (Ds e sz o' (cs ++ cs'))) b->w.heap.size<=b\/b∈Ii (ρ s)\/b∈Ii (ρ s'):=fun b hb=>by
  have hb:=Fa.1 hb
  rw [hrt1,Gt] at hb
  exact hnb b hb
 have hbase:∀ g,Br (ρ k)=some g->cx.w0.heap.size<=g\/cx.M g:=fun g D=>q5 g (root1 g D).1
 unfold Oper.wp
 rw [show (execOp a.eval o).run P w=.ok (.value v') w' by simp [execOp,ho,resolve,invoke,builtin,h1.1,k1.1,hv',hrun]]
 refine hK _ _ _ rfl ⟨ρ',ha.app (v:=v') (ha.kept.grown g3 hbase) g3.size hdst hro (fun b hb h=>g3.block b hb fun e=>h k _ (C3 (by simp)) hL (Fa.2 (root1 b e.symm).1)) (fun m1 lb b h1 h2=>?_) (fun m1 m2 lb lb' b h1 h2 h3 h4=>?_) (fun hI hI2=>⟨fun m1 lb h=>?_,fun d hd=>?_⟩) ⟨fun m1 lb m2 h1 h2=>?_,fun d m1 h1 h2=>?_⟩ (fun m1 lb b h1 h2 h3=>?_)⟩
 ·rcases hlk m1 _ h1 with ⟨rfl,rfl⟩ | ⟨rfl,rfl⟩
  ·rcases hown b h2 with h | h | h
   ·exact .inl h
   ·exact .inr ⟨k,_,C3 (by simp),hL,Fa.2 h⟩
   ·exact .inr ⟨k',_,C3 (by simp),hL',Fa.2 h⟩
  ·exact h2.elim
 ·rcases hlk m1 _ h1 with ⟨rfl,rfl⟩ | ⟨rfl,rfl⟩
  ·rcases hlk m2 _ h2 with ⟨rfl,rfl⟩ | ⟨rfl,rfl⟩
   ·rfl
   ·exact h4.elim
  ·exact h3.elim
 ·rcases hlk m1 _ h with ⟨rfl,rfl⟩ | ⟨rfl,rfl⟩
  ·rw [hrtk]
   have kp1:∀ b,b∈b1->w'.heap[b]?=w.heap[b]?:=fun b hb=>g3.block b (lt1 b (sub1 b hb)) fun e=>(root1 b e.symm).2 hb
   have kp2:∀ b,b∈b1'->w'.heap[b]?=w.heap[b]?:=fun b hb=>g3.block b (lt2 b (sub2 b hb)) fun e=>xx b (root1 b e.symm).1 (sub2 b hb)
   refine⟨⟨_,rfl,?_,?_,hosz⟩,fun b hb=>?_⟩
   ·show Ji _ _ e sz o' (.sl sz (cs ++ cs')) v' (Ii (ρ' (m1 + 1)))
    rw [hrt1,Gt]
    unfold Ji
    refine⟨rfl,n + m,us ++ us',b1 ++ b1',g2,(Ir.step hI _ _ _ _ kp1 q2).append ?_,rfl⟩
    have hm0:cs.length % sz=0:=by rw [q2.length,q1.1,Nat.mul_mod_left]
    have:=Ir.shift hm0 (Ir.step hI _ _ _ _ kp2 p2)
    rw [aGz] at this
    rw [aE6]
    exact this
   ·show (Ii (ρ' (m1 + 1))).Nodup
    rw [hrt1,Gt]
    have n1:b1.Nodup:=by rw [q3] at q4; exact (aF8.1 q4).2.1
    have n2:b1'.Nodup:=by rw [p3] at p4; exact (aF8.1 p4).2.1
    refine aF8.2 ⟨by cases Br v' <;> simp,aF8.2 ⟨n1,n2,fun b h1 b' h2 e=>xx b (sub1 b h1) (by rw [e]; exact sub2 b' h2)⟩,fun b h1 b' h2 e=>?_⟩
    subst e
    rcases g4 b (by simpa using h1) with h | h
    ·rcases aFh.1 h2 with h2 | h2
     ·exact (root1 b h).2 h2
     ·exact xx b (root1 b h).1 (sub2 b h2)
    ·rcases aFh.1 h2 with h2 | h2
     ·have:=lt1 b (sub1 b h2); omega
     ·have:=lt2 b (sub2 b h2); omega
   ·obtain⟨s2,h1,h2⟩:=hb
    injection h1 with h1
    subst h1
    rw [hrt1,Gt] at h2
    rcases hnb b h2 with h | h | h
    ·exact .inl (aFj ha.kept.2.2.2.1 h)
    ·exact q5 b h
    ·exact p5 b h
  ·trivial
 ·injection hd with hd
  subst hd
  unfold B7
  rw [hrtk]
  obtain⟨A2,n2',c2',rfl⟩:=hsl
  exact⟨rfl,rfl⟩
 ·rcases hlk m1 _ h1 with ⟨rfl,rfl⟩ | ⟨rfl,rfl⟩
  ·have h2:m2∈[m1 + 1]:=h2
   rw [aDv.1 h2]
   exact .inr (C3 (by simp))
  ·exact h2.elim
 ·injection h1 with h1
  subst h1
  unfold men at h2
  subst h2
  exact .inr (C3 (by simp))
 ·rcases hlk m1 _ h1 with ⟨rfl,rfl⟩ | ⟨rfl,rfl⟩
  ·rcases hown b h3 with h | h | h
   ·exact .inl (aFj ha.kept.2.2.2.1 h)
   ·exact ha.fresh k _ b hL hnp (Fa.2 h)
   ·exact ha.fresh k' _ b hL' hnp' (Fa.2 h)
  ·exact h3.elim
theorem yR {α:Type} {f:α->List C} {np tk:Nat} {t e:TypeId} {ty:TypeId} {env:Sn} {sz o' bytes k s k' s' kk:Nat} {x y:Operand} {l l' l2:List α} (hS:Ij P t e sz bytes) (hf:∀ x,(f x).length=sz) (hk:k∈env.map (·.1)) (hk':k'∈env.map (·.1)) (hne:Nat.beq k k'=false) (h:Gl kk l l'=some l2) (hkk:sz * bytes=kk) (hnp:Nat.ble np k=true) (hnp':Nat.ble np k'=true) :
  ExtR P np tk (.call ⟨.builtin .append,#[x,y],#[t,t]⟩) ty [(.row k,some (.abs [s] (Ds e sz o' (An f l)))),(.row k',some (.abs [s'] (Ds e sz o' (An f l'))))] env [k,k'] (fun e'=>e'=Jh [(tk,some (.abs [tk + 1] (Ds e sz o' (An f l2)))),(tk + 1,some .gho),(k,none),(k',none)] (some (.row tk))):=by
 obtain⟨h1,rfl⟩:=Qt h
 rw [Ju]
 exact tX hS hk hk' hne (by rw [D0 hf,D0 hf,<- aF2,Nat.mul_assoc,hkk]; exact h1) hnp hnp'
theorem Mb.eff {σ':St} {e:K4} (hF:∀ t d,σ'.F t=some d->σ.F t=some d) (hL:∀ k,σ'.L k=match e.l k with | some x=>x | none=>σ.L k) (B:∀ k,σ.U k=true\/e.l k≠none->σ'.U k=true)
  (h:∀ a w ρ,Dr cx ρ σ a w->∃ ρ':Nat->Value,(∀ k,σ.U k=true->ρ' k=ρ k)/\
   (∀ k lb b,e.l k=some (some lb)->own ρ' (ρ' k) lb b->∃ k' lb',e.l k'≠none/\σ.L k'=some lb'/\own ρ (ρ k') lb' b)/\
   (∀ k k' lb lb' b,e.l k=some (some lb)->e.l k'=some (some lb')->own ρ' (ρ' k) lb b->own ρ' (ρ' k') lb' b->k=k')/\
   (∀ I':Nat->Prop,(∀ b,I4 cx σ ρ w b->I' b)->(∀ b,b < w.heap.size->(b < cx.w0.heap.size->cx.I b\/cx.G b)->(∃ k lb,e.l k≠none/\σ.L k=some lb/\own ρ (ρ k) lb b)->(∀ k lb,e.l k=some (some lb)->¬ own ρ' (ρ' k) lb b)->I' b)->∀ k lb,e.l k=some (some lb)->N3 cx ρ' I' w (ρ' k) lb)/\
   (∀ k lb k',e.l k=some (some lb)->Nq lb k'->σ.U k'=true\/e.l k'≠none)/\
   (∀ k lb b,e.l k=some (some lb)->cx.np<=k->own ρ' (ρ' k) lb b->cx.w0.heap.size<=b\/cx.G b)):Mb cx σ σ':=by
 rintro a w ⟨ρ,ha⟩
 obtain⟨ρ',h1,h2,h3,h4,h5,h6⟩:=h a w ρ ha
 have ho:∀ k lb b,σ.L k=some lb->own ρ' (ρ' k) lb b->own ρ (ρ k) lb b:=fun k lb b q1 q2=>by
  rw [h1 k (ha.usedL k lb q1).1] at q2
  exact N5 (fun j hj=>(h1 j ((ha.usedL k lb q1).2 j hj)).symm) q2
 have hA:=ha.app (dst:=none) (e:=⟨none,e.l⟩) (v:=undef) ha.kept (aFf _) (fun _ h=>by cases h) h1 (fun _ _ _=>rfl) (fun k lb b q1 q2=>.inr (h2 k lb b q1 q2)) h3 (fun hI hI2=>⟨h4 _ (fun b hb=>(hI b hb).1) fun b q1 q2 q3 q4=>⟨q1,?_,q2⟩,fun d hd=>by cases hd⟩) ⟨h5,fun d k' hd=>by cases hd⟩ h6
 ·obtain⟨F',L',U'⟩:=σ'
  have hL':L'=(σ.app none ⟨none,e.l⟩).L:=funext hL
  subst hL'
  refine⟨ρ',hA.defers,hA.size,hA.kept,fun t d hd=>hA.fr t d (hF t d hd),hA.lo,hA.sep,fun t d k hd hm=>B k (.inl (ha.usedF t d k (hF t d hd) hm)),fun k lb hl=>?_,fun k hk=>⟨(hA.pin k hk).1,B k (.inl (ha.pin k hk).2)⟩,hA.fresh⟩
  have:=hA.usedL k lb hl
  have cv:∀ j,(σ.app none ⟨none,e.l⟩).U j=true->U' j=true:=fun j hj=>B j (by
   simp only [St.app,aGd,aHs] at hj
   exact hj)
  exact⟨cv k this.1,fun k' hk'=>cv k' (this.2 k' hk')⟩
 ·rintro⟨k,lb,q5,q6⟩
  cases hek:e.l k with
  | none=>
   have hl:σ.L k=some lb:=by simpa [St.app,hek] using q5
   obtain⟨k2,lb2,r1,r2,r3⟩:=q3
   have:=ha.sep k k2 lb lb2 b hl r2 (ho k lb b hl q6) r3
   subst this
   exact r1 hek
  | some x=>
   have hl:x=some lb:=by simpa [St.app,hek] using q5
   subst hl
   exact q4 k lb hek q6
end
theorem Gg {α:Type} {k:Nat} {x:α} {l:List (Nat×α)} {j:Nat}:D5 ((k,x) :: l) j=bif Nat.beq j k then some x else D5 l j:=rfl
theorem Ss {α:Type} {j:Nat}:D5 ([]:List (Nat×α)) j=none:=rfl
theorem Mi {j k:Nat} (h:j≠k):Nat.beq j k=false:=by
 cases hb:Nat.beq j k with
 | false=>rfl
 | true=>exact absurd (aDr hb) h
theorem Ld {k:Nat} {lb:LB}:∀ {ll:List (Nat×LB)} {j:Nat},D5 (R2 k lb ll) j=bif Nat.beq j k then (D5 ll k).map (fun _=>lb) else D5 ll j
 | [],j=>by unfold R2 D5; cases Nat.beq j k <;> rfl
 | (s,d) :: l,j=>by
  have ih:=Ld (k:=k) (lb:=lb) (ll:=l) (j:=j)
  unfold R2
  cases hs:Nat.beq s k with
  | true=>
   have:=aDr hs
   subst this
   simp only [aEu]
   unfold D5
   rw [aGp]
   cases hj:Nat.beq j s with
   | true=>rfl
   | false=>rw [hj] at ih; simpa using ih
  | false=>
   simp only [aCc]
   unfold D5
   cases hj:Nat.beq j s with
   | true=>
    have:=aDr hj
    subst this
    rw [hs]
    rfl
   | false=>
    have hks:Nat.beq k s=false:=by
     cases h:Nat.beq k s with
     | false=>rfl
     | true=>rw [aDr h,aGp] at hs; cases hs
    rw [hks]
    simpa using ih
section
variable {cx:Cx} {fl:List (Nat×DV)} {ll:List (Nat×LB)} {N:Nat}
theorem N1 {k:Nat} (h:(mk fl ll N).U k=true):k < N:=aC3 h
theorem Vr (k:Nat) {e sz:Nat} (o:Nat) {cs:List C} (hcs:cs=[]) (hL:D5 ll k=some (.row e sz cs)) (ho:o < sz):Mb cx (mk fl ll N) (mk fl ((N,.gho) :: R2 k (.abs [N] (Ds e sz o cs)) ll) (N + 1)):=by
 subst hcs
 have hkN:∀ {a w ρ},Dr cx ρ (mk fl ll N) a w->k < N:=fun ha=>N1 (ha.usedL k _ hL).1
 intro a0 w0 hA0
 have hkN:=hkN hA0.choose_spec
 refine Mb.eff (σ:=mk fl ll N) (σ':=mk fl ((N,.gho) :: R2 k (.abs [N] (Ds e sz o [])) ll) (N + 1)) (e:=Jh [(k,some (.abs [N] (Ds e sz o []))),(N,some .gho)] none) (fun _ _ h=>h) (fun j=>?_) (fun j hj=>?_) (fun a w ρ ha=>?_) a0 w0 hA0
 ·show D5 _ j=match D5 [(k,some (LB.abs [N] (Ds e sz o []))),(N,some LB.gho)] j with | some x=>x | none=>D5 ll j
  rw [Gg,Gg,Gg,Ss,Ld]
  cases hjN:Nat.beq j N with
  | true=>
   have:Nat.beq j k=false:=Mi (by have:=aDr hjN; omega)
   rw [this]
   rfl
  | false=>
   cases hjk:Nat.beq j k with
   | true=>rw [hL]; rfl
   | false=>rfl
 ·refine aFx ?_
  rcases hj with hj | hj
  ·have:=N1 hj; omega
  ·have:=J9 hj
   simp at this
   rcases this with rfl | rfl <;> omega
 ·obtain⟨n,us,q1,q2,q3⟩:=ha.lo k _ hL
  have hus:us=[]:=aDu q3.1.symm
  subst hus
  let ρ':Nat->Value:=fun m=>if m=N then Zd (Br (ρ k)).toList else ρ m
  have hrN:ρ' N=Zd (Br (ρ k)).toList:=if_pos rfl
  have hro:∀ m,m < N->ρ' m=ρ m:=fun m hm=>if_neg (by omega)
  have hlk:∀ m x,(Jh [(k,some (LB.abs [N] (Ds e sz o []))),(N,some LB.gho)] none).l m=some (some x)->(m=k/\x=.abs [N] (Ds e sz o []))\/(m=N/\x=.gho):=fun m x h=>by
   have:=E4 h
   simpa using this
  have hown:∀ v b,own ρ' v (.abs [N] (Ds e sz o [])) b->Br (ρ k)=some b:=fun v b hb=>by
   have hb:=Fa.1 hb
   rw [hrN,Gt] at hb
   simpa using hb
  have hkk:(Jh [(k,some (LB.abs [N] (Ds e sz o []))),(N,some LB.gho)] none).l k≠none:=C3 (by simp)
  refine⟨ρ',fun m hm=>hro m (N1 hm),fun m lb b h1 h2=>?_,fun m m' lb lb' b h1 h2 h3 h4=>?_,fun I' hI hI2 m lb h1=>?_,fun m lb m' h1 h2=>?_,fun m lb b h1 h2 h3=>?_⟩
  ·rcases hlk m _ h1 with ⟨rfl,rfl⟩ | ⟨rfl,rfl⟩
   ·exact⟨m,_,hkk,hL,hown _ b h2⟩
   ·exact h2.elim
  ·rcases hlk m _ h1 with ⟨rfl,rfl⟩ | ⟨rfl,rfl⟩
   ·rcases hlk m' _ h2 with ⟨rfl,rfl⟩ | ⟨rfl,rfl⟩
    ·rfl
    ·exact h4.elim
   ·exact h3.elim
  ·rcases hlk m _ h1 with ⟨rfl,rfl⟩ | ⟨rfl,rfl⟩
   ·rw [hro m hkN]
    refine⟨⟨_,rfl,?_,?_,ho⟩,fun b hb=>q2 b (hown (ρ m) b hb)⟩
    ·show Ji w I' e sz o (.sl sz []) (ρ m) (Ii (ρ' N))
     rw [hrN,Gt]
     unfold Ji
     exact⟨rfl,n,[],[],q1,by unfold Ir; exact⟨rfl,rfl⟩,by rw [aG9]⟩
    ·show (Ii (ρ' N)).Nodup
     rw [hrN,Gt]
     cases Br (ρ m) <;> simp
   ·trivial
  ·rcases hlk m _ h1 with ⟨rfl,rfl⟩ | ⟨rfl,rfl⟩
   ·have h2:m'∈[N]:=h2
    rw [aDv.1 h2]
    exact .inr (C3 (by simp))
   ·exact h2.elim
  ·rcases hlk m _ h1 with ⟨rfl,rfl⟩ | ⟨rfl,rfl⟩
   ·exact ha.fresh m _ b hL h2 (hown _ b h3)
   ·exact h3.elim
theorem Ji.split {w:World} {I:Nat->Prop} {e:TypeId} {sz o:Nat} {c:C} {u:Value} {bs:List Nat} (h:Ji w I e sz o c u bs):∃ c2 n us b2,c=.sl sz c2/\w.rowOk e sz u n us/\Ir w I e sz o c2 0 us b2/\bs=(Br u).toList ++ b2:=by
 cases c with
 | sl sz' c2=>
  unfold Ji at h
  obtain⟨rfl,n,us,b1,h1,h2,h3⟩:=h
  exact⟨c2,n,us,b1,rfl,h1,h2,h3⟩
 | _=>unfold Ji at h; exact h.elim
theorem aCm (k:Nat) {e sz o s:Nat} {cs:List C} (c2:List C) (hL:D5 ll k=some (.abs [s] (Ds e sz o cs))) (hc:cs[o]?=some (.sl sz c2)) (hk:Nat.ble cx.np k=true):Mb cx (mk fl ll N) (mk fl ((N,.abs [N + 1] (Ds e sz o c2)) :: (N + 1,.gho) :: R2 k (.abs [N] (Xq e sz o cs)) ll) (N + 2)):=by
 have hkN:∀ {a w ρ},Dr cx ρ (mk fl ll N) a w->k < N:=fun ha=>N1 (ha.usedL k _ hL).1
 intro a0 w0 hA0
 have hkN:=hkN hA0.choose_spec
 refine Mb.eff (σ:=mk fl ll N) (σ':=mk fl ((N,.abs [N + 1] (Ds e sz o c2)) :: (N + 1,.gho) :: R2 k (.abs [N] (Xq e sz o cs)) ll) (N + 2)) (e:=Jh [(k,some (.abs [N] (Xq e sz o cs))),(N,some (.abs [N + 1] (Ds e sz o c2))),(N + 1,some .gho)] none) (fun _ _ h=>h) (fun j=>?_) (fun j hj=>?_) (fun a w ρ ha=>?_) a0 w0 hA0
 ·show D5 _ j=match D5 [(k,some (LB.abs [N] (Xq e sz o cs))),(N,some (LB.abs [N + 1] (Ds e sz o c2))),(N + 1,some LB.gho)] j with | some x=>x | none=>D5 ll j
  rw [Gg,Gg,Gg,Gg,Gg,Ss,Ld]
  cases hjN:Nat.beq j N with
  | true=>
   have:Nat.beq j k=false:=Mi (by have:=aDr hjN; omega)
   rw [this]
   rfl
  | false=>
   cases hjN1:Nat.beq j (N + 1) with
   | true=>
    have:Nat.beq j k=false:=Mi (by have:=aDr hjN1; omega)
    rw [this]
    rfl
   | false=>
    cases hjk:Nat.beq j k with
    | true=>rw [hL]; rfl
    | false=>rfl
 ·refine aFx ?_
  rcases hj with hj | hj
  ·have:=N1 hj; omega
  ·have:=J9 hj
   simp at this
   rcases this with rfl | rfl | rfl <;> omega
 ·obtain⟨n,us,b1,q1,q2,q3,q4,hosz,q5⟩:=Qu (ha.lo k _ hL)
  obtain⟨u,bu,r1,r2,r3⟩:=q2.at_ hc
  rw [aE6,aFc hosz] at r3
  have r3:Ji w (I4 cx (mk fl ll N) ρ w) e sz o (.sl sz c2) u bu:=by
   rcases r3 with ⟨-,r3⟩ | ⟨r3,-⟩
   ·exact r3
   ·exact absurd rfl r3
  have hn0:0 < n:=by
   have h5:=(aBw.1 r1).1
   rw [q1.1] at h5
   rcases aFa n with h | h
   ·rw [h] at h5; omega
   ·exact h
  have hsub:∀ b,b∈bu->b∈Ii (ρ s):=fun b h=>by rw [q3]; exact aE2 _ (r2.subset h)
  have hroot:∀ b,Br (ρ k)=some b->b∈Ii (ρ s)/\b∉bu:=fun b h=>by
   rw [q3,h] at q4 ⊢
   exact⟨aE7 _ (aDv.2 rfl),fun h2=>(aH2.1 q4).1 (r2.subset h2)⟩
  let ρ':Nat->Value:=fun m=>if m=N then u else if m=N + 1 then Zd bu else ρ m
  have hrN:ρ' N=u:=if_pos rfl
  have hrN1:ρ' (N + 1)=Zd bu:=by
   show (if N + 1=N then _ else if _ then _ else _)=_
   rw [if_neg (by omega),if_pos rfl]
  have hro:∀ m,m < N->ρ' m=ρ m:=fun m hm=>by
   show (if m=N then _ else if m=N + 1 then _ else _)=_
   rw [if_neg (by omega),if_neg (by omega)]
  have hlk:∀ m x,(Jh [(k,some (.abs [N] (Xq e sz o cs))),(N,some (.abs [N + 1] (Ds e sz o c2))),(N + 1,some LB.gho)] none).l m=some (some x)->(m=k/\x=.abs [N] (Xq e sz o cs))\/(m=N/\x=.abs [N + 1] (Ds e sz o c2))\/(m=N + 1/\x=.gho):=fun m x h=>by
   have:=E4 h
   simpa using this
  have ownH:∀ b,own ρ' (ρ' k) (.abs [N] (Xq e sz o cs)) b->Br (ρ k)=some b:=fun b hb=>by
   have hb:Br (ρ' k)=some b:=hb
   rwa [hro k hkN] at hb
  have ownD:∀ v b,own ρ' v (.abs [N + 1] (Ds e sz o c2)) b->b∈bu:=fun v b hb=>by
   have hb:=Fa.1 hb
   rwa [hrN1,Gt] at hb
  have hkk:(Jh [(k,some (.abs [N] (Xq e sz o cs))),(N,some (.abs [N + 1] (Ds e sz o c2))),(N + 1,some LB.gho)] none).l k≠none:=C3 (by simp)
  refine⟨ρ',fun m hm=>hro m (N1 hm),fun m lb b h1 h2=>?_,fun m m' lb lb' b h1 h2 h3 h4=>?_,fun I' hI hI2 m lb h1=>?_,fun m lb m' h1 h2=>?_,fun m lb b h1 h2 h3=>?_⟩
  ·rcases hlk m _ h1 with ⟨rfl,rfl⟩ | ⟨rfl,rfl⟩ | ⟨rfl,rfl⟩
   ·exact⟨m,_,hkk,hL,Fa.2 (hroot b (ownH b h2)).1⟩
   ·exact⟨k,_,hkk,hL,Fa.2 (hsub b (ownD _ b h2))⟩
   ·exact h2.elim
  ·rcases hlk m _ h1 with ⟨rfl,rfl⟩ | ⟨rfl,rfl⟩ | ⟨rfl,rfl⟩
   ·rcases hlk m' _ h2 with ⟨rfl,rfl⟩ | ⟨rfl,rfl⟩ | ⟨rfl,rfl⟩
    ·rfl
    ·exact ((hroot b (ownH b h3)).2 (ownD _ b h4)).elim
    ·exact h4.elim
   ·rcases hlk m' _ h2 with ⟨rfl,rfl⟩ | ⟨rfl,rfl⟩ | ⟨rfl,rfl⟩
    ·exact ((hroot b (ownH b h4)).2 (ownD _ b h3)).elim
    ·rfl
    ·exact h4.elim
   ·exact h3.elim
  ·rcases hlk m _ h1 with ⟨rfl,rfl⟩ | ⟨rfl,rfl⟩ | ⟨rfl,rfl⟩
   ·rw [hro m hkN]
    refine⟨⟨ρ' N,rfl,by rw [hrN]; exact r3.one,n,us,q1,hosz,hn0,q2.length,by rw [hrN]; exact r1,fun j c u2 a1 a2 a3 a4=>?_⟩,fun b hb=>q5 b (hroot b hb).1⟩
    obtain⟨u3,b3,s1,-,s2⟩:=q2.at_ a3
    rw [a4] at s1
    injection s1 with s1
    subst s1
    rw [aE6,aFc a1] at s2
    rcases s2 with ⟨s2,-⟩ | ⟨-,s2⟩
    ·exact absurd s2 a2
    ·exact s2.mono hI
   ·rw [hrN]
    refine⟨⟨_,rfl,?_,?_,hosz⟩,fun b hb=>q5 b (hsub b (ownD u b hb))⟩
    ·show Ji w I' e sz o (.sl sz c2) u (Ii (ρ' (m + 1)))
     rw [hrN1,Gt]
     exact Ji.step (fun b hb=>⟨hI b hb,rfl⟩) _ _ _ (fun _ _=>rfl) r3
    ·show (Ii (ρ' (m + 1))).Nodup
     rw [hrN1,Gt]
     rw [q3] at q4
     exact r2.nodup (aF8.1 q4).2.1
   ·trivial
  ·rcases hlk m _ h1 with ⟨rfl,rfl⟩ | ⟨rfl,rfl⟩ | ⟨rfl,rfl⟩
   ·have h2:m'∈[N]:=h2
    rw [aDv.1 h2]
    exact .inr (C3 (by simp))
   ·have h2:m'∈[m + 1]:=h2
    rw [aDv.1 h2]
    exact .inr (C3 (by simp))
   ·exact h2.elim
  ·rcases hlk m _ h1 with ⟨rfl,rfl⟩ | ⟨rfl,rfl⟩ | ⟨rfl,rfl⟩
   ·exact ha.fresh m _ b hL h2 (Fa.2 (hroot b (ownH b h3)).1)
   ·exact ha.fresh k _ b hL (aC3 hk) (Fa.2 (hsub b (ownD _ b h3)))
   ·exact h3.elim
theorem yG (k:Nat) {e sz o s:Nat} {cs:List C} (hL:D5 ll k=some (.abs [s] (Ds e sz o cs))) (hk:Nat.ble cx.np k=true):Mb cx (mk fl ll N) (mk fl ((N,.gho) :: R2 k (.tree e sz o e sz N none cs) ll) (N + 1)):=by
 have hkN:∀ {a w ρ},Dr cx ρ (mk fl ll N) a w->k < N:=fun ha=>N1 (ha.usedL k _ hL).1
 intro a0 w0 hA0
 have hkN:=hkN hA0.choose_spec
 have hnp:=aC3 hk
 refine Mb.eff (σ:=mk fl ll N) (σ':=mk fl ((N,.gho) :: R2 k (.tree e sz o e sz N none cs) ll) (N + 1)) (e:=Jh [(k,some (.tree e sz o e sz N none cs)),(N,some .gho)] none) (fun _ _ h=>h) (fun j=>?_) (fun j hj=>?_) (fun a w ρ ha=>?_) a0 w0 hA0
 ·show D5 _ j=match D5 [(k,some (LB.tree e sz o e sz N none cs)),(N,some LB.gho)] j with | some x=>x | none=>D5 ll j
  rw [Gg,Gg,Gg,Ss,Ld]
  cases hjN:Nat.beq j N with
  | true=>
   have:Nat.beq j k=false:=Mi (by have:=aDr hjN; omega)
   rw [this]
   rfl
  | false=>
   cases hjk:Nat.beq j k with
   | true=>rw [hL]; rfl
   | false=>rfl
 ·refine aFx ?_
  rcases hj with hj | hj
  ·have:=N1 hj; omega
  ·have:=J9 hj
   simp at this
   rcases this with rfl | rfl <;> omega
 ·obtain⟨n,us,b1,q1,q2,q3,q4,hosz,q5⟩:=Qu (ha.lo k _ hL)
  have hsz:0 < sz:=by omega
  let vs:Array Value:=((List.range n).map fun i=>us.getD (i * sz + o) undef).toArray
  have hvs:∀ i u,vs[i]?=some u->i < n/\us[i * sz + o]?=some u:=fun i u h=>by
   have h:((List.range n).map fun i=>us.getD (i * sz + o) undef)[i]?=some u:=by simpa [vs] using h
   rw [aHm] at h
   have hi:i < n:=by
    rcases aF4 i n with h2 | h2
    ·exact h2
    ·rw [aF5 (by simpa using h2)] at h; cases h
   rw [List.getElem?_range hi] at h
   injection h with h
   have hlt:i * sz + o < us.length:=by
    rw [q1.1]
    calc i * sz + o < i * sz + sz:=by omega
     _=(i + 1) * sz:=by rw [aF2,aGm]
     _<=n * sz:=aFu _ hi
   refine⟨hi,?_⟩
   rw [aA1 hlt]
   have h:us.getD (i * sz + o) undef=u:=h
   rw [aFy,aA1 hlt] at h
   exact congrArg some h
  have el:∀ i u,vs[i]?=some u->∃ c2 n2 us2 b2,cs[i * sz + o]?=some (.sl sz c2)/\us[i * sz + o]?=some u/\w.rowOk e sz u n2 us2/\Ir w (I4 cx (mk fl ll N) ρ w) e sz o c2 0 us2 b2/\((Br u).toList ++ b2).Sublist b1:=fun i u h=>by
   obtain⟨hi,hu⟩:=hvs i u h
   have hlt:=(aBw.1 hu).1
   have hcl:i * sz + o < cs.length:=by rw [q2.length]; exact hlt
   obtain⟨u2,b3,r1,r2,r3⟩:=q2.at_ (aA1 hcl)
   rw [hu] at r1
   injection r1 with r1
   subst r1
   have md:(0 + (i * sz + o)) % sz=o:=by rw [aE6,aGj,aG8,aFc hosz]
   rcases r3 with ⟨-,r3⟩ | ⟨r3,-⟩
   ·obtain⟨c2,n2,us2,b2,e1,e2,e3,e4⟩:=r3.split
    rw [e4] at r2
    refine⟨c2,n2,us2,b2,?_,hu,e2,e3,r2⟩
    rw [<- e1]
    exact aA1 hcl
   ·exact absurd md r3
  have nd1:b1.Nodup:=by rw [q3] at q4; exact (aF8.1 q4).2.1
  have hrt:∀ b,Br (ρ k)=some b->b∈Ii (ρ s)/\b∉b1:=fun b h=>by
   rw [q3,h] at q4 ⊢
   exact⟨aE7 _ (aDv.2 rfl),(aH2.1 q4).1⟩
  have in1:∀ b,b∈b1->b∈Ii (ρ s):=fun b h=>by rw [q3]; exact aE2 _ h
  have two:∀ i j u u',i < j->vs[i]?=some u->vs[j]?=some u'->∃ x y,Ji w (I4 cx (mk fl ll N) ρ w) e sz o (cs.getD (i * sz + o) (.raw undef)) u x/\Ji w (I4 cx (mk fl ll N) ρ w) e sz o (cs.getD (j * sz + o) (.raw undef)) u' y/\(x ++ y).Sublist b1:=fun i j u u' hij h1 h2=>by
   obtain⟨hi,hu⟩:=hvs i u h1
   obtain⟨hj,hu'⟩:=hvs j u' h2
   have l1:i * sz + o < cs.length:=by rw [q2.length]; exact (aBw.1 hu).1
   have l2:j * sz + o < cs.length:=by rw [q2.length]; exact (aBw.1 hu').1
   have hm:i * sz < j * sz:=Nat.mul_lt_mul_of_pos_right hij hsz
   have md:∀ i,(0 + (i * sz + o)) % sz=o:=fun i=>by rw [aE6,aGj,aG8,aFc hosz]
   obtain⟨a1,a2,x,y,e1,e2,e3,e4,e5⟩:=q2.two (m:=i * sz + o) (m':=j * sz + o) (by omega) (aA1 l1) (aA1 l2) (md i) (md j)
   rw [hu] at e1
   rw [hu'] at e2
   injection e1 with e1
   injection e2 with e2
   subst e1 e2
   refine⟨x,y,?_,?_,e5⟩
   ·rw [aFy,aA1 l1]; exact e3
   ·rw [aFy,aA1 l2]; exact e4
  let ρ':Nat->Value:=fun m=>if m=N then .tuple vs else ρ m
  have hrN:ρ' N=.tuple vs:=if_pos rfl
  have hro:∀ m,m < N->ρ' m=ρ m:=fun m hm=>if_neg (by omega)
  have hlk:∀ m x,(Jh [(k,some (LB.tree e sz o e sz N none cs)),(N,some LB.gho)] none).l m=some (some x)->(m=k/\x=.tree e sz o e sz N none cs)\/(m=N/\x=.gho):=fun m x h=>by
   have:=E4 h
   simpa using this
  have hownT:∀ b,own ρ' (ρ' k) (.tree e sz o e sz N none cs) b->Br (ρ k)=some b\/∃ i u,vs[i]?=some u/\Br u=some b:=fun b hb=>by
   rw [hro k hkN] at hb
   rcases hb with hb | ⟨vs2,i,u,a1,a2,-,a4⟩
   ·exact .inl hb
   ·rw [hrN] at a1
    injection a1 with a1
    subst a1
    exact .inr ⟨i,u,a2,a4⟩
  have hownk:∀ b,own ρ' (ρ' k) (.tree e sz o e sz N none cs) b->b∈Ii (ρ s):=fun b hb=>by
   rcases hownT b hb with h | ⟨i,u,h1,h2⟩
   ·exact (hrt b h).1
   ·obtain⟨c2,n2,us2,b2,-,-,-,-,h3⟩:=el i u h1
    exact in1 b (h3.subset (aE7 _ (by rw [h2]; exact aDv.2 rfl)))
  have hkk:(Jh [(k,some (LB.tree e sz o e sz N none cs)),(N,some LB.gho)] none).l k≠none:=C3 (by simp)
  refine⟨ρ',fun m hm=>hro m (N1 hm),fun m lb b h1 h2=>?_,fun m m' lb lb' b h1 h2 h3 h4=>?_,fun I' hI hI2 m lb h1=>?_,fun m lb m' h1 h2=>?_,fun m lb b h1 h2 h3=>?_⟩
  ·rcases hlk m _ h1 with ⟨rfl,rfl⟩ | ⟨rfl,rfl⟩
   ·exact⟨m,_,hkk,hL,Fa.2 (hownk b h2)⟩
   ·exact h2.elim
  ·rcases hlk m _ h1 with ⟨rfl,rfl⟩ | ⟨rfl,rfl⟩
   ·rcases hlk m' _ h2 with ⟨rfl,rfl⟩ | ⟨rfl,rfl⟩
    ·rfl
    ·exact h4.elim
   ·exact h3.elim
  ·rcases hlk m _ h1 with ⟨rfl,rfl⟩ | ⟨rfl,rfl⟩
   ·have deepI:∀ i u c2 n2 us2 b2,vs[i]?=some u->cs[i * sz + o]?=some (.sl sz c2)->w.rowOk e sz u n2 us2->Ir w (I4 cx (mk fl ll N) ρ w) e sz o c2 0 us2 b2->((Br u).toList ++ b2).Sublist b1->∀ b,b∈b2->I' b:=fun i u c2 n2 us2 b2 a1 a2 a3 a4 a5 b hb=>by
     have hb1:b∈b1:=a5.subset (aE2 _ hb)
     have hown:own ρ (ρ m) (.abs [s] (Ds e sz o cs)) b:=Fa.2 (in1 b hb1)
     refine hI2 b ((ha.lo m _ hL).blk hown).1 (fun hlt=>?_) ⟨m,_,hkk,hL,hown⟩ fun m2 lb2 g1 g2=>?_
     ·rcases ha.fresh m _ b hL hnp hown with h6 | h6
      ·omega
      ·exact .inr h6
     ·rcases hlk m2 _ g1 with ⟨rfl,rfl⟩ | ⟨rfl,rfl⟩
      ·rcases hownT b g2 with g3 | ⟨i',u',g3,g4⟩
       ·exact (hrt b g3).2 hb1
       ·have ndx:((Br u).toList ++ b2).Nodup:=a5.nodup nd1
        rcases aH5 i i' with hlt | heq | hgt
        ·obtain⟨x,y,f1,f2,f3⟩:=two i i' u u' hlt a1 g3
         have ndxy:=f3.nodup nd1
         have fc:cs.getD (i * sz + o) (.raw undef)=.sl sz c2:=by rw [aFy,a2]; rfl
         rw [fc] at f1
         obtain⟨c3,n3,us3,b3,d1,d2,d3,d4⟩:=f1.split
         injection d1 with _ d1
         subst d1
         have:=R1 hsz a3 d2
         subst this
         have hb3:b∈b3:=by rw [<- Ir.blocks' hosz _ _ _ _ _ a4 d3]; exact hb
         exact (aF8.1 ndxy).2.2 b (by rw [d4]; exact aE2 _ hb3) b (f2.mem_blk g4) rfl
        ·subst heq
         rw [a1] at g3
         injection g3 with g3
         subst g3
         rw [g4] at ndx
         exact (aH2.1 ndx).1 hb
        ·obtain⟨x,y,f1,f2,f3⟩:=two i' i u' u hgt g3 a1
         have ndxy:=f3.nodup nd1
         have fc:cs.getD (i * sz + o) (.raw undef)=.sl sz c2:=by rw [aFy,a2]; rfl
         rw [fc] at f2
         obtain⟨c3,n3,us3,b3,d1,d2,d3,d4⟩:=f2.split
         injection d1 with _ d1
         subst d1
         have:=R1 hsz a3 d2
         subst this
         have hb3:b∈b3:=by rw [<- Ir.blocks' hosz _ _ _ _ _ a4 d3]; exact hb
         exact (aF8.1 ndxy).2.2 b (f1.mem_blk g4) b (by rw [d4]; exact aE2 _ hb3) rfl
      ·exact g2.elim
    rw [hro m hkN]
    refine⟨n,us,vs,hosz,hrN,q1,by simp [vs],q2.length,fun b hb=>q5 b (hrt b hb).1,fun j c u a1 a2 a3=>?_,fun i u a1 _=>?_,fun i j u u' b a1 a2 _ _ a3 a4=>?_⟩
    ·obtain⟨u3,b3,s1,-,s2⟩:=q2.at_ a1
     rw [a2] at s1
     injection s1 with s1
     subst s1
     rw [aE6] at s2
     rcases s2 with ⟨s2,-⟩ | ⟨-,s2⟩
     ·exact absurd s2 a3
     ·exact s2.mono hI
    ·obtain⟨c2,n2,us2,b2,e1,e2,e3,e4,e5⟩:=el i u a1
     refine⟨e2,n2,us2,c2,e1,e3,Ir.rd hI _ _ _ _ (deepI i u c2 n2 us2 b2 a1 e1 e3 e4 e5) e4,fun b hb=>?_⟩
     have hb1:b∈b1:=e5.subset (aE7 _ (by rw [hb]; exact aDv.2 rfl))
     exact⟨q5 b (in1 b hb1),fun h=>(hrt b h).2 hb1⟩
    ·rcases aH5 i j with hlt | heq | hgt
     ·obtain⟨x,y,f1,f2,f3⟩:=two i j u u' hlt a1 a2
      exact ((aF8.1 (f3.nodup nd1)).2.2 b (f1.mem_blk a3) b (f2.mem_blk a4) rfl).elim
     ·exact heq
     ·obtain⟨x,y,f1,f2,f3⟩:=two j i u' u hgt a2 a1
      exact ((aF8.1 (f3.nodup nd1)).2.2 b (f1.mem_blk a4) b (f2.mem_blk a3) rfl).elim
   ·trivial
  ·rcases hlk m _ h1 with ⟨rfl,rfl⟩ | ⟨rfl,rfl⟩
   ·have h2:m'=N:=h2
    rw [h2]
    exact .inr (C3 (by simp))
   ·exact h2.elim
  ·rcases hlk m _ h1 with ⟨rfl,rfl⟩ | ⟨rfl,rfl⟩
   ·exact ha.fresh m _ b hL h2 (Fa.2 (hownk b h3))
   ·exact h3.elim
end
end Go.Proofs.YtfanepojdefdpaaGreat
