import Derived.Test.YtbpchmikjiinpaaGreatEH
set_option linter.unusedVariables false
set_option linter.unusedSimpArgs false
namespace Go.Proofs.YtbpchmikjiinpaaGreat
open Go.RowKit
inductive mS
  | e (n:Nat)
  | l (n:Nat) (p:mS)
  | r (n:Nat) (p:mS)
def Fu (_:mS):Prop:=True
class Dec (p:mS) (q:outParam mS):Prop
instance {n:Nat}:Dec (.e (n + 1)) (.e n):=⟨⟩
instance {n:Nat} {p:mS}:Dec (.l (n + 1) p) (.l n p):=⟨⟩
instance {n:Nat} {p:mS}:Dec (.r (n + 1) p) (.r n p):=⟨⟩
theorem Fu.dec {p q:mS} [Dec p q] (_:Fu p):Fu q:=trivial
class Two (p:mS) (a b:outParam mS):Prop
instance {n:Nat}:Two (.e (n + 1)) (.e n) (.e n):=⟨⟩
instance {p:mS}:Two (.l 0 p) (.e 9999) p:=⟨⟩
instance {p:mS}:Two (.r 0 p) p (.e 9999):=⟨⟩
inductive Mk:Prop
  | mk
structure Kq (q:Prop):Prop where
  h:q
theorem aMh {q:Prop} (_:Mk) (h:Kq q):q:=h.h
class Wk (f:Nat) where
  s:Prop
  h:s
section
variable {P:Program} {cx:Cx} {Q:Exit->St->Prop} {σ:St} {x y:Code} {id:Nat} {l:List Oper} {nb nb':Nat}
theorem isA (h:Oy P cx x Q σ):Oy P cx x Q σ:=h
theorem aMp (B:∀ k,nb<=k->σ.U k=false) (hn:nb + 8 * l.length=nb') (hd:iK cx.N l=true) (h:Chain (Df P cx []) l.toArray none nb (idx 0 l) [] σ (fun σ'=>(∀ j,nb'<=j->σ'.U j=false)->tF (Oy P cx y Q) Q .normal σ')):Oy P cx (.seq (.region id l.toArray false) y) Q σ:=
  Ol nb nb' B h (aQh (aR0 hn)) hd
theorem aMj (B:∀ k,nb<=k->σ.U k=false) (hn:nb + 8 * l.length=nb') (hd:iK cx.N l=true) (h:Chain (Df P cx []) l.toArray none nb (idx 0 l) [] σ (fun σ'=>(∀ j,nb'<=j->σ'.U j=false)->Q .normal σ')):Oy P cx (.region id l.toArray false) Q σ:=
  B5 (Df _ _ []) nb nb' B (aQh (aR0 hn)) hd h
theorem aL3 {R:Type} {p a b':mS} [Two p a b'] {t:Nat} {b:Bool} {X Y:Option R} {r:R} (hc:σ.F t=some (.val (.bool b))) (h1:Fu a->b=true->X=some r->Oy P cx x Q σ) (h2:Fu b'->b=false->Y=some r->Oy P cx y Q σ) (G:cond b X Y=some r) (_:Fu p):Oy P cx (.cond (.tmp t) x y) Q σ:=
  Jf hc G (h1 trivial) (h2 trivial)
end
theorem Dx {P:Program} {f np:Nat} {fn:Func} {c:Code} {args:List DV} {bx:List LB} {R:DV->List LB->Prop} (nq N:Nat) (hf:P.funcs[f]?=some fn) (h:∀ w0 I ρ0,Oy P ⟨w0,I,ρ0,np,nq,N⟩ c (aJ5 P fn np R) (mk (eO 0 args) (ix 0 bx) nq)) (hb:fn.body=some c:=by rfl) (hn:(fn.name == "runtime.NumGoroutine")=false:=by rfl)
    (hq:bx.length=nq:=by rfl) (hN:fn.ntmps=N:=by rfl) (hchk:(dT bx.length args && (bx.all (ltB bx.length) && Nat.ble args.length fn.ntmps && Nat.ble np bx.length))=true:=by rfl):Fn P f np args bx R:=by
  subst hq hN
  exact Fn.of hf hb hn hchk h
theorem R3 {P:Program} {cx:Cx} {Q:Exit->St->Prop} {σ:St} {c:Code} {fl:List (Nat×DV)} {ll:List (Nat×LB)} {n:Nat} (e:σ=mk fl ll n) (h:Oy P cx c Q (mk fl ll n)):Oy P cx c Q σ:=e ▸ h
theorem isE {ι:Type} {p:ι->Prop} (h:∃ i,p i):∃ i,p i:=h
theorem isU {S R:Type} {x:Option R} {o:Lp S R} (h:up x=some o):up x=some o:=h
theorem isB {R:Type} {b:Bool} {X Y:Option R} {r:R} (h:cond b X Y=some r):cond b X Y=some r:=h
theorem nx_ {S R:Type} {it:S->Option R} {s:S} {r:R} (h:Zj it (.next s)=some r):it s=some r:=h
section
variable {α:Type} {f:α->List C} {L:List α} {a:α} {n:Int} {m o off sz s g' ft t tk:Nat} {P:Program} {X:Operand} {ty:TypeId} {b1:Option LB} {ag:Bool}
theorem aKi {L:List α} {x y:Operand} {e by_:Nat} {kk:IntKind} {q1 q2:Option LB} [S:Ww P t e sz by_] (E:Pd f sz) (hx:Bu L n=some a):F1 P tk (.indexAddr t x y) ty [(.sl sz (Aj f L),q1),(.val (.int kk n),q2)] [] (v0 (.elt ((Aj f L).drop (n.toNat * sz)))):=
  wE S.h E.h (N4 hx) (Dj hx)
theorem aIg {L:List α} {x y:Operand} {e e' by_ k:Nat} {kk:IntKind} {q2:Option LB} [S:Ww P t e sz by_] (E:Pd f sz) (hx:Bu L n=some a):F1 P tk (.indexAddr t x y) ty [(.row k,some (.row e' sz (Aj f L))),(.val (.int kk n),q2)] [] (v0 (.ptr k (n.toNat * sz))):=
  vQ S.h E.h (N4 hx) (Dj hx)
theorem aIl [F:Lz P s g' off ft] [T:Nh P ft ag sz] (hz:Nat.blt 0 sz=true) (E:Pd f m) (he:Bu L n=some a) (ho:Nat.blt off m=true):F1 P tk (.fieldAddr s X g') ty [(.elt ((Aj f L).drop (n.toNat * m)),b1)] [] (v0 (.elt ((Aj f L).drop (n.toNat * m + off)))):=
  Se F.h T.h (aCt hz) (xW E.h (Dj he) (aCt ho) rfl)
theorem aJb [F:Lz P s g' off ft] [T:Nh P ft ag sz] (hz:Nat.blt 0 sz=true) (E:Pd f m) (he:Bu L n=some a) (ho:Nat.blt (o + off) m=true):F1 P tk (.fieldAddr s X g') ty [(.elt ((Aj f L).drop (n.toNat * m + o)),b1)] [] (v0 (.elt ((Aj f L).drop (n.toNat * m + o + off)))):=
  Se F.h T.h (aCt hz) (xW E.h (Dj he) (aCt ho) (Nat.add_assoc _ _ _))
theorem aH3 {c:C} [T:Nh P t false sz] (E:Pd f m) (he:Bu L n=some a) (hc:(f a)[o]?=some c):F1 P tk (.load t X) ty [(.elt ((Aj f L).drop (n.toNat * m + o)),b1)] [] (v0 (Uz c)):=
  En T.h (Ng E.h (Dj he) hc rfl)
theorem aJg {cs:List C} [T:Nh P t true sz] (E:Pd f m) (he:Bu L n=some a) (hs:((f a).drop o).take sz=cs) (ho:Nat.ble (o + sz) m=true):F1 P tk (.load t X) ty [(.elt ((Aj f L).drop (n.toNat * m + o)),b1)] [] (v0 (.agg (cs.map Uz))):=
  Ef T.h (Kb E.h (Dj he) hs (aCt ho) rfl) (Gd E.h (Dj he) (aCt ho) rfl)
theorem aIr {c:C} {kr e':Nat} [T:Nh P t false sz] (E:Pd f m) (he:Bu L n=some a) (hc:(f a)[0]?=some c):F1 P tk (.load t X) ty [(.ptr kr (n.toNat * m),some (.row e' m (Aj f L)))] [] (v0 (Uz c)):=
  .loadR1 T.h (Ng E.h (Dj he) hc rfl)
theorem aJ2 {c:C} {kr e':Nat} [T:Nh P t false sz] (E:Pd f m) (he:Bu L n=some a) (hc:(f a)[o]?=some c):F1 P tk (.load t X) ty [(.ptr kr (n.toNat * m + o),some (.row e' m (Aj f L)))] [] (v0 (Uz c)):=
  .loadR1 T.h (Ng E.h (Dj he) hc rfl)
end
section
variable {P:Program} {cx:Cx} {ops:Array Oper} {Rt:Option (List Nat)} {nb i:Nat} {l:List Oper} {lg:jT} {σ:St} {Q:St->Prop} {fz:List Nat} {dst:Option Tmp} {op:Op} {ty:TypeId} {pos:String} {af:Array Edge} {g:Option (Nat×Bool)}
theorem isC {m:List (Nat×Oper)} (h:Chain (Df P cx fz) ops Rt nb m lg σ Q):Chain (Df P cx fz) ops Rt nb m lg σ Q:=h
theorem u_s {ds:List (DV×Option LB)} {rd wr:List Nat} {e:Nq} (hds:E0 σ (Kj op) op.operands.toList=some ds) (h:F1 P (nb + 8 * i) op ty ds wr e) (hrd:(bif Kj op then Lx (Mp op) ds else [])=rd) (G:Kh ops σ ⟨dst,op,ty,pos,af,g⟩=some true)
    (hok:(K9 Rt i false (nb + 8 * i) rd wr lg && (Nat.beq (zM fz (nb + 8 * i)) 0 && Ov cx.np op wr))=true) (k:Chain (Df P cx fz) ops Rt nb (idx (i + 1) l) ((i,false,nb + 8 * i,rd,wr) :: lg) (σ.app dst e) Q):Chain (Df P cx fz) ops Rt nb (idx i (⟨dst,op,ty,pos,af,g⟩ :: l)) lg σ Q:=by
  simp only [aFx] at hok
  exact Mz G hds h hrd hok.1 k (aDj hok.2.1) hok.2.2
theorem aLh {R:Type} {p a b':mS} [Two p a b'] {b:Bool} {X Y:Option R} {r:R} {m:List (Nat×Oper)} (h1:Fu a->b=true->X=some r->Chain (Df P cx fz) ops Rt nb m lg σ Q) (h2:Fu b'->b=false->Y=some r->Chain (Df P cx fz) ops Rt nb m lg σ Q) (G:cond b X Y=some r) (_:Fu p):Chain (Df P cx fz) ops Rt nb m lg σ Q:=by
  rcases bc_ G with ⟨h,G⟩ | ⟨h,G⟩
  · exact h1 trivial h G
  · exact h2 trivial h G
section
variable {f:FuncId} {xs:Array Operand} {tys:Array TypeId} {dsA:List (DV×Option LB)} {args:List DV} {bx:List LB} {d:DV} {b:List LB} {p:Nat} {s:Prop} {t:Tmp} {q:Option LB} {n:Nat} {cs:List DV}
theorem aM4 [W:Wk f] (k:W.s->Chain (Df P cx fz) ops Rt nb (idx i (⟨dst,.call ⟨.value (.func f),xs,tys⟩,ty,pos,af,g⟩ :: l)) lg σ Q):Chain (Df P cx fz) ops Rt nb (idx i (⟨dst,.call ⟨.value (.func f),xs,tys⟩,ty,pos,af,g⟩ :: l)) lg σ Q:=k W.h
theorem aL0 (hc:ev σ true (.tmp t)=some (.val (.func (.func f) #[] #[]),q)) [W:Wk f] (k:W.s->Chain (Df P cx fz) ops Rt nb (idx i (⟨dst,.call ⟨.value (.tmp t),xs,tys⟩,ty,pos,af,g⟩ :: l)) lg σ Q):Chain (Df P cx fz) ops Rt nb (idx i (⟨dst,.call ⟨.value (.tmp t),xs,tys⟩,ty,pos,af,g⟩ :: l)) lg σ Q:=k W.h
theorem yM (hF:Fn P f 0 args [] (fun d' b'=>d'=d/\b'=[])) (hds:E0 σ true xs.toList=some dsA) (hA:Nk false ([] ++ []) (Lu σ []) (dsA.map (·.1)) args) (G:Kh ops σ ⟨dst,.call ⟨.value (.func f),xs,tys⟩,ty,pos,af,g⟩=some true)
    (hrd:O3 σ 3 (Qn dsA)=[]) (hok:K9 Rt i true (nb + 8 * i) [] [] lg=true) (hr:Jr d=[]) (k:Chain (Df P cx fz) ops Rt nb (idx (i + 1) l) ((i,true,nb + 8 * i,[],[]) :: lg) (σ.app dst (dE [] [] d [])) Q) :
    Chain (Df P cx fz) ops Rt nb (idx i (⟨dst,.call ⟨.value (.func f),xs,tys⟩,ty,pos,af,g⟩ :: l)) lg σ Q:=
  Ni hF k hds hA G hrd hok hr
theorem aMg (hF:Fn P f 0 args [] (fun d' b'=>d'=d/\b'=[])) (hc:ev σ true (.tmp t)=some (.val (.func (.func f) #[] #[]),q)) (hds:E0 σ true xs.toList=some dsA) (hA:Nk false ([] ++ []) (Lu σ []) (dsA.map (·.1)) args) (G:Kh ops σ ⟨dst,.call ⟨.value (.tmp t),xs,tys⟩,ty,pos,af,g⟩=some true)
    (hrd:O3 σ 3 (Qn dsA)=[]) (hok:K9 Rt i true (nb + 8 * i) [] [] lg=true) (hr:Jr d=[]) (k:Chain (Df P cx fz) ops Rt nb (idx (i + 1) l) ((i,true,nb + 8 * i,[],[]) :: lg) (σ.app dst (dE [] [] d [])) Q) :
    Chain (Df P cx fz) ops Rt nb (idx i (⟨dst,.call ⟨.value (.tmp t),xs,tys⟩,ty,pos,af,g⟩ :: l)) lg σ Q:=
  Ec (rd:=[]) (ps:=[]) (gs:=[]) false G hc hF hds hrd hA rfl rfl (fun h=>by cases h) hok hr rfl rfl k
theorem aKf (hF:Fn P f 0 args [] (fun d' b'=>d'=d/\b'=[])) (hc:ev σ true (.tmp t)=some (.clo f n cs,q)) (hds:E0 σ true xs.toList=some dsA) (hA:Nk false ([] ++ []) (Lu σ []) (cs.take n ++ (dsA.map (·.1) ++ cs.drop n)) args) (G:Kh ops σ ⟨dst,.call ⟨.value (.tmp t),xs,tys⟩,ty,pos,af,g⟩=some true)
    (hrd:O3 σ 3 (Nl cs ++ Qn dsA)=[]) (hok:K9 Rt i true (nb + 8 * i) [] [] lg=true) (hr:Jr d=[]) (k:Chain (Df P cx fz) ops Rt nb (idx (i + 1) l) ((i,true,nb + 8 * i,[],[]) :: lg) (σ.app dst (dE [] [] d [])) Q) :
    Chain (Df P cx fz) ops Rt nb (idx i (⟨dst,.call ⟨.value (.tmp t),xs,tys⟩,ty,pos,af,g⟩ :: l)) lg σ Q:=
  Cm (rd:=[]) (ps:=[]) (gs:=[]) false G hc hF hds hrd hA rfl rfl (fun h=>by cases h) hok hr rfl rfl k
theorem aMq (hF:Fn P f 1 args bx (fun d' b'=>d'=d/\b'=b)) (hds:E0 σ true xs.toList=some dsA) (hrd:O3 σ 3 (Qn dsA)=[p]) (hA:Nk false ([p] ++ []) (Lu σ [p]) (dsA.map (·.1)) args) (hB:aI false ([p] ++ []) (Lu σ [p]) ([p] ++ []) bx) (G:Kh ops σ ⟨dst,.call ⟨.value (.func f),xs,tys⟩,ty,pos,af,g⟩=some true)
    (hnd:Rs cx.np [p] []=true) (hok:K9 Rt i true (nb + 8 * i) [p] ([p] ++ []) lg=true) (hr:Jr d=[]) (hl:b.length=1) (hb:b.flatMap Z6=[]) (k:Chain (Df P cx fz) ops Rt nb (idx (i + 1) l) ((i,true,nb + 8 * i,[p],[p] ++ []) :: lg) (σ.app dst (dE [p] [] d b)) Q) :
    Chain (Df P cx fz) ops Rt nb (idx i (⟨dst,.call ⟨.value (.func f),xs,tys⟩,ty,pos,af,g⟩ :: l)) lg σ Q:=
  cZ (rd:=[p]) (ps:=[p]) (gs:=[]) false G hF hds hrd hA hB hnd (fun h=>by cases h) hok hr hl hb k
end
section
variable {α:Type} {f:α->List C} {L:List α} {a:α} {n:Int} {m:Nat} {t:TypeId} {X:Operand}
theorem aLf {b1:Option LB} {cs:List C} [T:Nh P t true m] (hds:E0 σ true [X]=some [(.elt ((Aj f L).drop (n.toNat * m)),b1)]) (E:Pd f m) (he:Bu L n=some a) (hc:f a=cs) (G:Kh ops σ ⟨dst,.load t X,ty,pos,af,g⟩=some true)
    (hok:K9 Rt i false (nb + 8 * i) [] [] lg=true) (hz:zM fz (nb + 8 * i)=0) (hap:Ov cx.np (.load t X) []=true) (k:Chain (Df P cx fz) ops Rt nb (idx (i + 1) l) ((i,false,nb + 8 * i,[],[]) :: lg) (σ.app dst (v0 (.agg (cs.map Uz)))) Q):Chain (Df P cx fz) ops Rt nb (idx i (⟨dst,.load t X,ty,pos,af,g⟩ :: l)) lg σ Q:=
  lE_ he k hds E hc G hok hz hap
theorem aLr {b1:Option LB} {c:C} {sz:Nat} [T:Nh P t false sz] (hds:E0 σ true [X]=some [(.elt ((Aj f L).drop (n.toNat * 1)),b1)]) (E:Pd f 1) (he:Bu L n=some a) (hc:f a=[c]) (G:Kh ops σ ⟨dst,.load t X,ty,pos,af,g⟩=some true)
    (hok:K9 Rt i false (nb + 8 * i) [] [] lg=true) (hz:zM fz (nb + 8 * i)=0) (hap:Ov cx.np (.load t X) []=true) (k:Chain (Df P cx fz) ops Rt nb (idx (i + 1) l) ((i,false,nb + 8 * i,[],[]) :: lg) (σ.app dst (v0 (Uz c))) Q):Chain (Df P cx fz) ops Rt nb (idx i (⟨dst,.load t X,ty,pos,af,g⟩ :: l)) lg σ Q:=
  l1_ he k hds E hc G hok hz hap
theorem aLw {kr e':Nat} {cs:List C} [T:Nh P t true m] (hds:E0 σ true [X]=some [(.ptr kr (n.toNat * m),some (.row e' m (Aj f L)))]) (E:Pd f m) (he:Bu L n=some a) (hc:f a=cs) (G:Kh ops σ ⟨dst,.load t X,ty,pos,af,g⟩=some true)
    (hok:K9 Rt i false (nb + 8 * i) [kr] [] lg=true) (hz:zM fz (nb + 8 * i)=0) (hap:Ov cx.np (.load t X) []=true) (k:Chain (Df P cx fz) ops Rt nb (idx (i + 1) l) ((i,false,nb + 8 * i,[kr],[]) :: lg) (σ.app dst (v0 (.agg (cs.map Uz)))) Q):Chain (Df P cx fz) ops Rt nb (idx i (⟨dst,.load t X,ty,pos,af,g⟩ :: l)) lg σ Q:=
  lR_ he k hds E hc G hok hz hap
end
end
section
variable {P:Program} {cx:Cx} {ops:Array Oper} {Rt:Option (List Nat)} {nb i:Nat} {l:List Oper} {lg lg':jT} {σ σ':St} {Q:St->Prop} {fz:List Nat} {m':List (Nat×Oper)}
theorem aMb {p:Prop} (h:p:=by
    repeat first
      | (apply Gm.move; exact rfl; exact Kf; exact rfl)
      | (apply Gm.assign; exact rfl; exact Kf; exact rfl)
      | (apply Gm.fieldP; exact rfl; (exact rfl); exact Kf; exact rfl)
      | (apply Gm.load1; exact rfl; (exact rfl); exact Kf; exact rfl)
      | (apply Gm.loadA; exact rfl; (exact rfl); exact Kf; exact rfl)
      | (apply Gm.pickF; exact rfl; (first | with_reducible assumption | with_reducible rfl | with_reducible exact cN (by with_reducible assumption)); exact Kf; exact rfl)
      | (apply Gm.pickT; exact rfl; (first | with_reducible assumption | with_reducible rfl | with_reducible exact cV (by with_reducible assumption)); exact Kf; exact rfl)
      | (apply Gm.k; (first | exact tP rfl rfl (by first | with_reducible assumption | with_reducible rfl | with_reducible exact cN (by with_reducible assumption) | with_reducible exact cV (by with_reducible assumption)) | exact wC rfl rfl (by first | with_reducible assumption | with_reducible rfl | with_reducible exact cN (by with_reducible assumption) | with_reducible exact cV (by with_reducible assumption)) | exact aC8 rfl rfl); exact rfl)
      | (apply Gm.storeB; exact rfl; (exact rfl); (exact rfl); (exact rfl); (focus repeat first | exact (rfl:_=[]) | (apply aGt; exact rfl)); (first | exact (rfl:_=[_]) | exact (rfl:_=[_,_]) | exact (rfl:_=[_,_,_])); exact Kf; exact rfl)
      | (apply Gm.extract; exact rfl; (exact rfl); exact Kf; exact rfl)
      | (apply Gm.lss; exact rfl; exact Kf; exact rfl)
      | (apply Gm.eql; exact rfl; exact Kf; exact rfl)
      | (apply Gm.gtr; exact rfl; exact Kf; exact rfl)
      | (apply Gm.leq; exact rfl; exact Kf; exact rfl)
      | (apply Gm.geq; exact rfl; exact Kf; exact rfl)
      | (apply Gm.neq; exact rfl; exact Kf; exact rfl)
      | (apply Gm.seql; exact rfl; exact Kf; exact rfl)
      | (apply Gm.sneq; exact rfl; exact Kf; exact rfl)
      | (apply Gm.add; exact rfl; exact Kf; exact rfl)
      | (apply Gm.sub; exact rfl; exact Kf; exact rfl)
      | (apply Gm.mul; exact rfl; exact Kf; exact rfl)
      | (apply Gm.alloc; exact rfl; exact Kf; exact rfl)
      | (apply Gm.box; exact rfl; (exact rfl); exact Kf; exact rfl)
      | (apply Gm.not; exact rfl; exact Kf; exact rfl)
      | (apply Gm.lenS; exact rfl; (exact inferInstance); exact Kf; exact rfl)
      | (apply Gm.lenR; exact rfl; (exact inferInstance); exact Kf; exact rfl)
      | (apply Gm.nilP; exact rfl; exact Kf; exact rfl)
      | (apply Gm.nilE; exact rfl; exact Kf; exact rfl)
      | (apply Gm.field1; exact rfl; (exact rfl); exact Kf; exact rfl)
      | (apply Gm.fieldA; exact rfl; exact Kf; exact rfl)
      | (apply Gm.makeF; exact rfl; exact Kf; exact rfl)
    exact Gm.z):p:=h
theorem eE {m:List (Nat×Oper)} (k:Chain (Df P cx fz) ops Rt nb m' lg' σ' Q) (h:Gm P cx fz ops Rt nb m lg σ m' lg' σ':=by exact aMb):Chain (Df P cx fz) ops Rt nb m lg σ Q:=h Q k
end
theorem ag_ {p:Prop} (h:p:=by
    repeat' first
      | exact Nk.nil
      | exact Ag.val
      | exact Ag.sl
      | exact Ag.nils
      | exact Ag.elt
      | exact Ag.fn
      | exact Ag.ptr rfl
      | exact Ag.rowK rfl
      | exact Ag.row rfl (by repeat first | exact List.Mem.head _ | refine List.Mem.tail _ ?_) rfl
      | refine Ag.agg ?_
      | refine Ag.clo ?_
      | refine Nk.cons ?_ ?_
    first | done | fail):p:=h
theorem bx_ {p:Prop} (h:p:=by
    repeat' first
      | exact (rfl:_=[])
      | refine⟨_,_,_,rfl,(.head _),⟨_,rfl,?_⟩,?_⟩
      | refine⟨_,_,_,rfl,(.tail _ (.head _)),⟨_,rfl,?_⟩,?_⟩
      | refine⟨_,_,_,rfl,(.head _),rfl,?_⟩
      | refine⟨_,_,_,rfl,(.tail _ (.head _)),rfl,?_⟩
      | exact Nk.nil
      | exact Ag.val
      | exact Ag.sl
      | exact Ag.nils
      | exact Ag.elt
      | exact Ag.ptr rfl
      | refine Nk.cons ?_ ?_
    first | done | fail):p:=h
theorem Qs {cx:Cx} {σ:St} {fl:List (Nat×DV)} {ll:List (Nat×LB)} {n:Nat} (k:Nat) (h0:Nat.beq k n=true) (h:O5 cx σ (mk fl ll n)):O5 cx σ (mk fl ll n):=h
theorem su_ {p:Prop} (h:p:=by first | exact Qs 0 rfl (B9 []) | exact Qs 1 rfl (B9 [(0,0)]) | exact Qs 1 rfl (B9 [(0,_)]) | exact Qs 2 rfl (B9 [(0,0),(1,_)]) | exact Qs 2 rfl (B9 [(0,0),(1,1)]) | exact Qs 2 rfl (B9 [(0,_),(1,_)]) | exact Qs 3 rfl (B9 [(0,0),(1,_),(2,_)]) | exact Qs 3 rfl (B9 [(0,0),(1,1),(2,2)]) | exact Qs 3 rfl (B9 [(0,0),(1,1),(2,_)]) | exact Qs 3 rfl (B9 [(0,_),(1,_),(2,_)]) | exact Qs 4 rfl (B9 [(0,0),(1,_),(2,_),(3,_)]) | exact Qs 4 rfl (B9 [(0,0),(1,1),(2,2),(3,3)]) | exact Qs 4 rfl (B9 [(0,0),(1,1),(2,2),(3,_)]) | exact Qs 4 rfl (B9 [(0,0),(1,1),(2,_),(3,_)]) | exact Qs 4 rfl (B9 [(0,_),(1,_),(2,_),(3,_)]) | exact Qs 5 rfl (B9 [(0,0),(1,_),(2,_),(3,_),(4,_)]) | exact Qs 5 rfl (B9 [(0,0),(1,1),(2,2),(3,3),(4,4)]) | exact Qs 5 rfl (B9 [(0,0),(1,1),(2,2),(3,3),(4,_)]) | exact Qs 5 rfl (B9 [(0,0),(1,1),(2,2),(3,_),(4,_)]) | exact Qs 5 rfl (B9 [(0,0),(1,1),(2,_),(3,_),(4,_)]) | exact Qs 5 rfl (B9 [(0,_),(1,_),(2,_),(3,_),(4,_)]) | exact Qs 6 rfl (B9 [(0,0),(1,_),(2,_),(3,_),(4,_),(5,_)]) | exact Qs 6 rfl (B9 [(0,0),(1,1),(2,2),(3,3),(4,4),(5,5)]) | exact Qs 6 rfl (B9 [(0,0),(1,1),(2,2),(3,3),(4,4),(5,_)]) | exact Qs 6 rfl (B9 [(0,0),(1,1),(2,2),(3,3),(4,_),(5,_)]) | exact Qs 6 rfl (B9 [(0,0),(1,1),(2,2),(3,_),(4,_),(5,_)]) | exact Qs 6 rfl (B9 [(0,0),(1,1),(2,_),(3,_),(4,_),(5,_)]) | exact Qs 6 rfl (B9 [(0,_),(1,_),(2,_),(3,_),(4,_),(5,_)]) | exact Qs 7 rfl (B9 [(0,0),(1,_),(2,_),(3,_),(4,_),(5,_),(6,_)]) | exact Qs 7 rfl (B9 [(0,0),(1,1),(2,2),(3,3),(4,4),(5,5),(6,6)]) | exact Qs 7 rfl (B9 [(0,0),(1,1),(2,2),(3,3),(4,4),(5,5),(6,_)]) | exact Qs 7 rfl (B9 [(0,0),(1,1),(2,2),(3,3),(4,4),(5,_),(6,_)]) | exact Qs 7 rfl (B9 [(0,0),(1,1),(2,2),(3,3),(4,_),(5,_),(6,_)]) | exact Qs 7 rfl (B9 [(0,0),(1,1),(2,2),(3,_),(4,_),(5,_),(6,_)]) | exact Qs 7 rfl (B9 [(0,0),(1,1),(2,_),(3,_),(4,_),(5,_),(6,_)]) | exact Qs 7 rfl (B9 [(0,_),(1,_),(2,_),(3,_),(4,_),(5,_),(6,_)]) | exact Qs 8 rfl (B9 [(0,0),(1,_),(2,_),(3,_),(4,_),(5,_),(6,_),(7,_)]) | exact Qs 8 rfl (B9 [(0,0),(1,1),(2,2),(3,3),(4,4),(5,5),(6,6),(7,7)]) | exact Qs 8 rfl (B9 [(0,0),(1,1),(2,2),(3,3),(4,4),(5,5),(6,6),(7,_)]) | exact Qs 8 rfl (B9 [(0,0),(1,1),(2,2),(3,3),(4,4),(5,5),(6,_),(7,_)]) | exact Qs 8 rfl (B9 [(0,0),(1,1),(2,2),(3,3),(4,4),(5,_),(6,_),(7,_)]) | exact Qs 8 rfl (B9 [(0,0),(1,1),(2,2),(3,3),(4,_),(5,_),(6,_),(7,_)]) | exact Qs 8 rfl (B9 [(0,0),(1,1),(2,2),(3,_),(4,_),(5,_),(6,_),(7,_)]) | exact Qs 8 rfl (B9 [(0,0),(1,1),(2,_),(3,_),(4,_),(5,_),(6,_),(7,_)]) | exact Qs 8 rfl (B9 [(0,_),(1,_),(2,_),(3,_),(4,_),(5,_),(6,_),(7,_)]) | fail):p:=h
theorem op_ {p:Prop} (h:p:=by
    first
      | exact aIl (by exact rfl) inferInstance (by with_reducible assumption) (by exact rfl)
      | exact aJb (by exact rfl) inferInstance (by with_reducible assumption) (by exact rfl)
      | exact aH3 inferInstance (by with_reducible assumption) (by exact rfl)
      | exact aJg inferInstance (by with_reducible assumption) (by exact yT) (by exact rfl)
      | exact aIr inferInstance (by with_reducible assumption) (by exact rfl)
      | exact aJ2 inferInstance (by with_reducible assumption) (by exact rfl)
      | exact oC Ys.h Ys.h
      | exact gA Ys.h Ys.h
      | exact fL Ys.h Ys.h
      | exact aBn Ys.h Ys.h
      | exact aAx Ys.h Ys.h Ys.h
      | exact aFe
      | exact aHs
      | exact aHe
      | exact aGn
      | exact aFw Ys.h
      | exact aGe
      | exact aFh
      | exact aHj
      | exact aFt Ys.h
      | exact aKt
      | fail):p:=h
theorem aMw {p:Prop} (h:p:=by
    first
      | exact aKi inferInstance hy
      | exact aIg inferInstance hy
      | exact Lc Ww.h Pd.h .row rfl .sl rfl hy rfl
      | exact Lc Ww.h Pd.h .row rfl .row rfl hy rfl
      | exact Lc Ww.h Pd.h .nil rfl .sl rfl hy rfl
      | exact aKo hy
      | exact aIs hy
      | exact jD hy
      | exact aEx hy
      | exact wG Ys.h hy
      | exact aJj hy
      | exact rH Ww.h Pd.h hy
      | exact rE Ww.h Pd.h hy
      | exact fU Ww.h Pd.h hy
      | fail):p:=h
theorem aMa {p:Prop} (h:p:=by
    first
      | exact aKi inferInstance (by with_reducible assumption)
      | exact aIg inferInstance (by with_reducible assumption)
      | fail):p:=h
theorem oZ {p:Prop} (h:p:=by
    intro hk hq _
    have G:=G
    try have B:=B
    try ((with_reducible refine isC ?_); refine eE ?_)
    repeat' first
      | (with_reducible refine isC ?_
         first
          | ((apply aBs); (try clear B); intro B)
          | (replace hk:=Fu.dec hk
             (with_reducible replace G:=Ak G)
             obtain⟨_,hy,G⟩:=G
             first
              | (apply aM4; intro hw; (first | (apply yM (hw hy); exact rfl; exact ag_; exact Kf; exact rfl; exact rfl; exact rfl) | (apply aMq (hw hy); exact rfl; exact rfl; exact ag_; exact bx_; exact Kf; exact rfl; exact rfl; exact rfl; exact rfl; exact rfl)); clear hw)
              | (apply aL0; exact rfl; intro hw; apply aMg (hw hy); exact rfl; exact rfl; exact ag_; exact Kf; exact rfl; exact rfl; exact rfl; clear hw)
              | ((first | apply yM (hrec hy) | apply yM (hrec _ hy) | apply yM (hrec _ _ hy) | apply yM (hrec _ _ _ hy)); exact rfl; exact ag_; exact Kf; exact rfl; exact rfl; exact rfl)
              | ((first | apply aKf (hf _ _ hy) | apply aKf (hf _ _ _ hy)); exact rfl; exact rfl; exact ag_; exact Kf; exact rfl; exact rfl; exact rfl)
              | (apply u_s; exact rfl; exact aMw; exact yT; exact Kf; exact rfl)
             refine eE ?_)
          | (apply u_s; exact rfl; exact aMa; exact yT; exact Kf; exact rfl; refine eE ?_)
          | (replace hk:=Fu.dec hk; apply aLr; exact rfl; exact inferInstance; (with_reducible assumption); exact rfl; exact Kf; exact rfl; exact rfl; exact rfl; refine eE ?_)
          | (replace hk:=Fu.dec hk; apply aLf; exact rfl; exact inferInstance; (with_reducible assumption); exact yT; exact Kf; exact rfl; exact rfl; exact rfl; refine eE ?_)
          | (replace hk:=Fu.dec hk; apply aLw; exact rfl; exact inferInstance; (with_reducible assumption); exact yT; exact Kf; exact rfl; exact rfl; exact rfl; refine eE ?_)
          | (replace hk:=Fu.dec hk; apply u_s; exact rfl; exact op_; exact yT; exact Kf; exact rfl; refine eE ?_)
          | ((with_reducible replace G:=isB G); revert hk; revert G; refine aLh (fun hk _ G=>?_) fun hk _ G=>?_; (all_goals refine eE ?_)))
      | (with_reducible refine isA ?_
         first
          | (replace hk:=Fu.dec hk
             first
              | (apply aMp; (first | exact Ji | with_reducible assumption); ((try simp only [↓aLg,↓aTd,Nat.reduceAdd,Nat.reduceMul]); exact rfl); exact rfl; refine eE ?_)
              | (apply aMj; (first | exact Ji | with_reducible assumption); ((try simp only [↓aLg,↓aTd,Nat.reduceAdd,Nat.reduceMul]); exact rfl); exact rfl; refine eE ?_)
              | apply Au
              | apply Fg
              | refine Vc ?_
              | refine ex_ ?_
              | refine aBa ?_)
          | ((with_reducible replace G:=isB G); revert hk; revert G; refine aL3 rfl (fun hk _ G=>?_) fun hk _ G=>?_))
      | ((with_reducible replace G:=isU G); replace G:=mL G (by with_reducible assumption))
      | ((with_reducible refine isE ?_)
         first
          | ((with_reducible refine⟨(_,_,_,_,_,_,_),G,?_⟩); exact su_)
          | ((with_reducible refine⟨(_,_,_,_,_,_),G,?_⟩); exact su_)
          | ((with_reducible refine⟨(_,_,_,_,_),G,?_⟩); exact su_)
          | ((with_reducible refine⟨(_,_,_,_),G,?_⟩); exact su_)
          | ((with_reducible refine⟨(_,_,_),G,?_⟩); exact su_)
          | ((with_reducible refine⟨(_,_),G,?_⟩); exact su_)
          | ((with_reducible replace G:=oi_ G); clear hq hk; subst G; exact⟨(_,_),aOx _,nx_ (by with_reducible assumption),su_⟩)
          | ((with_reducible refine⟨_,G,?_⟩); exact su_)
          | fail)
      | (clear hq hk; (with_reducible replace G:=oi_ G); subst G; first | exact Tk [] ⟨rfl,rfl⟩ | exact Tk [(0,0)] ⟨rfl,rfl⟩ | exact Tk [(0,_)] ⟨rfl,rfl⟩ | exact Tk [(0,0),(1,_)] ⟨rfl,rfl⟩ | exact Tk [(0,0),(1,1)] ⟨rfl,rfl⟩ | exact Tk [(0,_),(1,_)] ⟨rfl,rfl⟩ | exact Tk [(0,0),(1,_),(2,_)] ⟨rfl,rfl⟩ | exact Tk [(0,0),(1,1),(2,2)] ⟨rfl,rfl⟩ | exact Tk [(0,0),(1,1),(2,_)] ⟨rfl,rfl⟩ | exact Tk [(0,_),(1,_),(2,_)] ⟨rfl,rfl⟩ | exact Tk [(0,0),(1,_),(2,_),(3,_)] ⟨rfl,rfl⟩ | exact Tk [(0,0),(1,1),(2,2),(3,3)] ⟨rfl,rfl⟩ | exact Tk [(0,0),(1,1),(2,2),(3,_)] ⟨rfl,rfl⟩ | exact Tk [(0,0),(1,1),(2,_),(3,_)] ⟨rfl,rfl⟩ | exact Tk [(0,_),(1,_),(2,_),(3,_)] ⟨rfl,rfl⟩ | fail)
    all_goals
      clear hk
      (try replace B:=B)
      replace G:=G
      revert G
      (try revert B)
      repeat (rename_i z; first | exact aMh z hq | revert z)):p:=h
theorem vU {p:Prop} (h:p:=by
    intro hk hq hm
    try dsimp only at G
    refine R3 rfl ?_
    revert hk hq hm
    exact oZ):p:=h
theorem Bt (n:Nat) {p q:Prop} (k:q) (h:Fu (.e n)->Kq q->Mk->p:=by exact oZ):p:=h trivial ⟨k⟩ .mk
theorem Md (n:mS) {p q:Prop} (k:q) (h:Fu n->Kq q->Mk->p:=by exact oZ):p:=h trivial ⟨k⟩ .mk
theorem Cf {p:Prop} (h:Fu (.e 9999)->Kq True->Mk->p:=by exact oZ):p:=h trivial ⟨trivial⟩ .mk
theorem I9 (n:Nat) {p q:Prop} (k:q) (h:Fu (.e n)->Kq q->Mk->p:=by exact vU):p:=h trivial ⟨k⟩ .mk
theorem D4 (n:mS) {p q:Prop} (k:q) (h:Fu n->Kq q->Mk->p:=by exact vU):p:=h trivial ⟨k⟩ .mk
theorem Hf {p:Prop} (h:Fu (.e 9999)->Kq True->Mk->p:=by exact vU):p:=h trivial ⟨trivial⟩ .mk
end Go.Proofs.YtbpchmikjiinpaaGreat
