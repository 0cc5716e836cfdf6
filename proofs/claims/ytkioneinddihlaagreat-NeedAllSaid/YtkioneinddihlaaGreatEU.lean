import Derived.Test.YtkioneinddihlaaGreatEG
set_option linter.unusedVariables false
set_option linter.unusedSimpArgs false
namespace Go.Proofs.YtkioneinddihlaaGreat
open Go.RowKit
inductive jL
  | e (n:Nat)
  | l (n:Nat) (p:jL)
  | r (n:Nat) (p:jL)
def Fu (_:jL):Prop:=True
class Dec (p:jL) (q:outParam jL):Prop
instance {n:Nat}:Dec (.e (n + 1)) (.e n):=⟨⟩
instance {n:Nat} {p:jL}:Dec (.l (n + 1) p) (.l n p):=⟨⟩
instance {n:Nat} {p:jL}:Dec (.r (n + 1) p) (.r n p):=⟨⟩
theorem Fu.dec {p q:jL} [Dec p q] (_:Fu p):Fu q:=trivial
class Two (p:jL) (a b:outParam jL):Prop
instance {n:Nat}:Two (.e (n + 1)) (.e n) (.e n):=⟨⟩
instance {p:jL}:Two (.l 0 p) (.e 9999) p:=⟨⟩
instance {p:jL}:Two (.r 0 p) p (.e 9999):=⟨⟩
inductive Mk:Prop
  | mk
structure Kq (q:Prop):Prop where
  h:q
theorem aJo {q:Prop} (_:Mk) (h:Kq q):q:=h.h
class Wk (f:Nat) where
  s:Prop
  h:s
section
variable {P:Program} {cx:Cx} {Q:Exit->St->Prop} {σ:St} {x y:Code} {id:Nat} {l:List Oper} {nb nb':Nat}
theorem isA (h:N1 P cx x Q σ):N1 P cx x Q σ:=h
theorem aIb (B:∀ k,nb<=k->σ.U k=false) (hn:nb + 8 * l.length=nb') (hd:dO cx.N l=true) (h:Chain (Dx P cx []) l.toArray none nb (idx 0 l) [] σ (fun σ'=>(∀ j,nb'<=j->σ'.U j=false)->vG (N1 P cx y Q) Q .normal σ')):N1 P cx (.seq (.region id l.toArray false) y) Q σ:=
  Xs nb nb' B h (aNs (aO0 hn)) hd
theorem aIe (B:∀ k,nb<=k->σ.U k=false) (hn:nb + 8 * l.length=nb') (hd:dO cx.N l=true) (h:Chain (Dx P cx []) l.toArray none nb (idx 0 l) [] σ (fun σ'=>(∀ j,nb'<=j->σ'.U j=false)->Q .normal σ')):N1 P cx (.region id l.toArray false) Q σ:=
  Cn (Dx _ _ []) nb nb' B (aNs (aO0 hn)) hd h
theorem aJq {R:Type} {p a b':jL} [Two p a b'] {t:Nat} {b:Bool} {X Y:Option R} {r:R} (hc:σ.F t=some (.val (.bool b))) (h1:Fu a->b=true->X=some r->N1 P cx x Q σ) (h2:Fu b'->b=false->Y=some r->N1 P cx y Q σ) (G:cond b X Y=some r) (_:Fu p):N1 P cx (.cond (.tmp t) x y) Q σ:=
  Ja hc G (h1 trivial) (h2 trivial)
end
theorem Ez {P:Program} {f np:Nat} {fn:Func} {c:Code} {args:List DV} {bx:List LB} {R:DV->List LB->Prop} (nq N:Nat) (hf:P.funcs[f]?=some fn) (h:∀ w0 I ρ0,N1 P ⟨w0,I,ρ0,np,nq,N⟩ c (aFe P fn np R) (mk (aD 0 args) (ix 0 bx) nq)) (hb:fn.body=some c:=by rfl) (hn:(fn.name == "runtime.NumGoroutine")=false:=by rfl)
    (hq:bx.length=nq:=by rfl) (hN:fn.ntmps=N:=by rfl) (hchk:(aK bx.length args && (bx.all (ltB bx.length) && Nat.ble args.length fn.ntmps && Nat.ble np bx.length))=true:=by rfl):Fn P f np args bx R:=by
  subst hq hN
  exact Fn.of hf hb hn hchk h
theorem Nl {P:Program} {cx:Cx} {Q:Exit->St->Prop} {σ:St} {c:Code} {fl:List (Nat×DV)} {ll:List (Nat×LB)} {n:Nat} (e:σ=mk fl ll n) (h:N1 P cx c Q (mk fl ll n)):N1 P cx c Q σ:=e ▸ h
theorem isE {ι:Type} {p:ι->Prop} (h:∃ i,p i):∃ i,p i:=h
theorem isU {S R:Type} {x:Option R} {o:Lp S R} (h:up x=some o):up x=some o:=h
theorem isB {R:Type} {b:Bool} {X Y:Option R} {r:R} (h:cond b X Y=some r):cond b X Y=some r:=h
theorem nx_ {S R:Type} {it:S->Option R} {s:S} {r:R} (h:W0 it (.next s)=some r):it s=some r:=h
section
variable {α:Type} {f:α->List C} {L:List α} {a:α} {n:Int} {m o off sz s g' ft t tk:Nat} {P:Program} {X:Operand} {ty:TypeId} {b1:Option LB} {ag:Bool}
theorem aFd {L:List α} {x y:Operand} {e by_:Nat} {kk:IntKind} {q1 q2:Option LB} [S:Sg P t e sz by_] (E:Nc f sz) (hx:Bo L n=some a):Fi P tk (.indexAddr t x y) ty [(.sl sz (Ak f L),q1),(.val (.int kk n),q2)] [] (v0 (.elt ((Ak f L).drop (n.toNat * sz)))):=
  tF S.h E.h (H6 hx) (Cc hx)
theorem aFr {L:List α} {x y:Operand} {e e' by_ k:Nat} {kk:IntKind} {q2:Option LB} [S:Sg P t e sz by_] (E:Nc f sz) (hx:Bo L n=some a):Fi P tk (.indexAddr t x y) ty [(.row k,some (.row e' sz (Ak f L))),(.val (.int kk n),q2)] [] (v0 (.ptr k (n.toNat * sz))):=
  rR S.h E.h (H6 hx) (Cc hx)
theorem aF3 [F:Kz P s g' off ft] [T:L1 P ft ag sz] (hz:Nat.blt 0 sz=true) (E:Nc f m) (he:Bo L n=some a) (ho:Nat.blt off m=true):Fi P tk (.fieldAddr s X g') ty [(.elt ((Ak f L).drop (n.toNat * m)),b1)] [] (v0 (.elt ((Ak f L).drop (n.toNat * m + off)))):=
  T7 F.h T.h (aEn hz) (Tt E.h (Cc he) (aEn ho) rfl)
theorem aG0 [F:Kz P s g' off ft] [T:L1 P ft ag sz] (hz:Nat.blt 0 sz=true) (E:Nc f m) (he:Bo L n=some a) (ho:Nat.blt (o + off) m=true):Fi P tk (.fieldAddr s X g') ty [(.elt ((Ak f L).drop (n.toNat * m + o)),b1)] [] (v0 (.elt ((Ak f L).drop (n.toNat * m + o + off)))):=
  T7 F.h T.h (aEn hz) (Tt E.h (Cc he) (aEn ho) (Nat.add_assoc _ _ _))
theorem aHg {c:C} [T:L1 P t false sz] (E:Nc f m) (he:Bo L n=some a) (hc:(f a)[o]?=some c):Fi P tk (.load t X) ty [(.elt ((Ak f L).drop (n.toNat * m + o)),b1)] [] (v0 (P3 c)):=
  Fr T.h (Fj E.h (Cc he) hc rfl)
theorem aHi {cs:List C} [T:L1 P t true sz] (E:Nc f m) (he:Bo L n=some a) (hs:((f a).drop o).take sz=cs) (ho:Nat.ble (o + sz) m=true):Fi P tk (.load t X) ty [(.elt ((Ak f L).drop (n.toNat * m + o)),b1)] [] (v0 (.agg (cs.map P3))):=
  Mn T.h (Iy E.h (Cc he) hs (aEn ho) rfl) (Fe E.h (Cc he) (aEn ho) rfl)
theorem aGm {c:C} {kr e':Nat} [T:L1 P t false sz] (E:Nc f m) (he:Bo L n=some a) (hc:(f a)[0]?=some c):Fi P tk (.load t X) ty [(.ptr kr (n.toNat * m),some (.row e' m (Ak f L)))] [] (v0 (P3 c)):=
  .loadR1 T.h (Fj E.h (Cc he) hc rfl)
theorem aG5 {c:C} {kr e':Nat} [T:L1 P t false sz] (E:Nc f m) (he:Bo L n=some a) (hc:(f a)[o]?=some c):Fi P tk (.load t X) ty [(.ptr kr (n.toNat * m + o),some (.row e' m (Ak f L)))] [] (v0 (P3 c)):=
  .loadR1 T.h (Fj E.h (Cc he) hc rfl)
end
section
variable {P:Program} {cx:Cx} {ops:Array Oper} {Rt:Option (List Nat)} {nb i:Nat} {l:List Oper} {lg:fT} {σ:St} {Q:St->Prop} {fz:List Nat} {dst:Option Tmp} {op:Op} {ty:TypeId} {pos:String} {af:Array Edge} {g:Option (Nat×Bool)}
theorem isC {m:List (Nat×Oper)} (h:Chain (Dx P cx fz) ops Rt nb m lg σ Q):Chain (Dx P cx fz) ops Rt nb m lg σ Q:=h
theorem u_s {ds:List (DV×Option LB)} {rd wr:List Nat} {e:Lz} (hds:Ef σ (Jc op) op.operands.toList=some ds) (h:Fi P (nb + 8 * i) op ty ds wr e) (hrd:(bif Jc op then Kk (K3 op) ds else [])=rd) (G:I7 ops σ ⟨dst,op,ty,pos,af,g⟩=some true)
    (hok:(Ju Rt i false (nb + 8 * i) rd wr lg && (Nat.beq (zM fz (nb + 8 * i)) 0 && M1 cx.np op wr))=true) (k:Chain (Dx P cx fz) ops Rt nb (idx (i + 1) l) ((i,false,nb + 8 * i,rd,wr) :: lg) (σ.app dst e) Q):Chain (Dx P cx fz) ops Rt nb (idx i (⟨dst,op,ty,pos,af,g⟩ :: l)) lg σ Q:=by
  simp only [aEs] at hok
  exact Ik G hds h hrd hok.1 k (aEr hok.2.1) hok.2.2
theorem aIc {R:Type} {p a b':jL} [Two p a b'] {b:Bool} {X Y:Option R} {r:R} {m:List (Nat×Oper)} (h1:Fu a->b=true->X=some r->Chain (Dx P cx fz) ops Rt nb m lg σ Q) (h2:Fu b'->b=false->Y=some r->Chain (Dx P cx fz) ops Rt nb m lg σ Q) (G:cond b X Y=some r) (_:Fu p):Chain (Dx P cx fz) ops Rt nb m lg σ Q:=by
  rcases bc_ G with ⟨h,G⟩ | ⟨h,G⟩
  · exact h1 trivial h G
  · exact h2 trivial h G
section
variable {f:FuncId} {xs:Array Operand} {tys:Array TypeId} {dsA:List (DV×Option LB)} {args:List DV} {bx:List LB} {d:DV} {b:List LB} {p:Nat} {s:Prop} {t:Tmp} {q:Option LB} {n:Nat} {cs:List DV}
theorem aJj [W:Wk f] (k:W.s->Chain (Dx P cx fz) ops Rt nb (idx i (⟨dst,.call ⟨.value (.func f),xs,tys⟩,ty,pos,af,g⟩ :: l)) lg σ Q):Chain (Dx P cx fz) ops Rt nb (idx i (⟨dst,.call ⟨.value (.func f),xs,tys⟩,ty,pos,af,g⟩ :: l)) lg σ Q:=k W.h
theorem aI6 (hc:ev σ true (.tmp t)=some (.val (.func (.func f) #[] #[]),q)) [W:Wk f] (k:W.s->Chain (Dx P cx fz) ops Rt nb (idx i (⟨dst,.call ⟨.value (.tmp t),xs,tys⟩,ty,pos,af,g⟩ :: l)) lg σ Q):Chain (Dx P cx fz) ops Rt nb (idx i (⟨dst,.call ⟨.value (.tmp t),xs,tys⟩,ty,pos,af,g⟩ :: l)) lg σ Q:=k W.h
theorem tI (hF:Fn P f 0 args [] (fun d' b'=>d'=d/\b'=[])) (hds:Ef σ true xs.toList=some dsA) (hA:Of false ([] ++ []) (Kj σ []) (dsA.map (·.1)) args) (G:I7 ops σ ⟨dst,.call ⟨.value (.func f),xs,tys⟩,ty,pos,af,g⟩=some true)
    (hrd:M9 σ 3 (Oe dsA)=[]) (hok:Ju Rt i true (nb + 8 * i) [] [] lg=true) (hr:Hq d=[]) (k:Chain (Dx P cx fz) ops Rt nb (idx (i + 1) l) ((i,true,nb + 8 * i,[],[]) :: lg) (σ.app dst (Ym [] [] d [])) Q) :
    Chain (Dx P cx fz) ops Rt nb (idx i (⟨dst,.call ⟨.value (.func f),xs,tys⟩,ty,pos,af,g⟩ :: l)) lg σ Q:=
  Mb hF k hds hA G hrd hok hr
theorem aJa (hF:Fn P f 0 args [] (fun d' b'=>d'=d/\b'=[])) (hc:ev σ true (.tmp t)=some (.val (.func (.func f) #[] #[]),q)) (hds:Ef σ true xs.toList=some dsA) (hA:Of false ([] ++ []) (Kj σ []) (dsA.map (·.1)) args) (G:I7 ops σ ⟨dst,.call ⟨.value (.tmp t),xs,tys⟩,ty,pos,af,g⟩=some true)
    (hrd:M9 σ 3 (Oe dsA)=[]) (hok:Ju Rt i true (nb + 8 * i) [] [] lg=true) (hr:Hq d=[]) (k:Chain (Dx P cx fz) ops Rt nb (idx (i + 1) l) ((i,true,nb + 8 * i,[],[]) :: lg) (σ.app dst (Ym [] [] d [])) Q) :
    Chain (Dx P cx fz) ops Rt nb (idx i (⟨dst,.call ⟨.value (.tmp t),xs,tys⟩,ty,pos,af,g⟩ :: l)) lg σ Q:=
  Pw (rd:=[]) (ps:=[]) (gs:=[]) false G hc hF hds hrd hA rfl rfl (fun h=>by cases h) hok hr rfl rfl k
theorem aF8 (hF:Fn P f 0 args [] (fun d' b'=>d'=d/\b'=[])) (hc:ev σ true (.tmp t)=some (.clo f n cs,q)) (hds:Ef σ true xs.toList=some dsA) (hA:Of false ([] ++ []) (Kj σ []) (cs.take n ++ (dsA.map (·.1) ++ cs.drop n)) args) (G:I7 ops σ ⟨dst,.call ⟨.value (.tmp t),xs,tys⟩,ty,pos,af,g⟩=some true)
    (hrd:M9 σ 3 (L5 cs ++ Oe dsA)=[]) (hok:Ju Rt i true (nb + 8 * i) [] [] lg=true) (hr:Hq d=[]) (k:Chain (Dx P cx fz) ops Rt nb (idx (i + 1) l) ((i,true,nb + 8 * i,[],[]) :: lg) (σ.app dst (Ym [] [] d [])) Q) :
    Chain (Dx P cx fz) ops Rt nb (idx i (⟨dst,.call ⟨.value (.tmp t),xs,tys⟩,ty,pos,af,g⟩ :: l)) lg σ Q:=
  E0 (rd:=[]) (ps:=[]) (gs:=[]) false G hc hF hds hrd hA rfl rfl (fun h=>by cases h) hok hr rfl rfl k
theorem aIt (hF:Fn P f 1 args bx (fun d' b'=>d'=d/\b'=b)) (hds:Ef σ true xs.toList=some dsA) (hrd:M9 σ 3 (Oe dsA)=[p]) (hA:Of false ([p] ++ []) (Kj σ [p]) (dsA.map (·.1)) args) (hB:Xz false ([p] ++ []) (Kj σ [p]) ([p] ++ []) bx) (G:I7 ops σ ⟨dst,.call ⟨.value (.func f),xs,tys⟩,ty,pos,af,g⟩=some true)
    (hnd:Pl cx.np [p] []=true) (hok:Ju Rt i true (nb + 8 * i) [p] ([p] ++ []) lg=true) (hr:Hq d=[]) (hl:b.length=1) (hb:b.flatMap Xg=[]) (k:Chain (Dx P cx fz) ops Rt nb (idx (i + 1) l) ((i,true,nb + 8 * i,[p],[p] ++ []) :: lg) (σ.app dst (Ym [p] [] d b)) Q) :
    Chain (Dx P cx fz) ops Rt nb (idx i (⟨dst,.call ⟨.value (.func f),xs,tys⟩,ty,pos,af,g⟩ :: l)) lg σ Q:=
  Zu (rd:=[p]) (ps:=[p]) (gs:=[]) false G hF hds hrd hA hB hnd (fun h=>by cases h) hok hr hl hb k
end
section
variable {α:Type} {f:α->List C} {L:List α} {a:α} {n:Int} {m:Nat} {t:TypeId} {X:Operand}
theorem aIv {b1:Option LB} {cs:List C} [T:L1 P t true m] (hds:Ef σ true [X]=some [(.elt ((Ak f L).drop (n.toNat * m)),b1)]) (E:Nc f m) (he:Bo L n=some a) (hc:f a=cs) (G:I7 ops σ ⟨dst,.load t X,ty,pos,af,g⟩=some true)
    (hok:Ju Rt i false (nb + 8 * i) [] [] lg=true) (hz:zM fz (nb + 8 * i)=0) (hap:M1 cx.np (.load t X) []=true) (k:Chain (Dx P cx fz) ops Rt nb (idx (i + 1) l) ((i,false,nb + 8 * i,[],[]) :: lg) (σ.app dst (v0 (.agg (cs.map P3)))) Q):Chain (Dx P cx fz) ops Rt nb (idx i (⟨dst,.load t X,ty,pos,af,g⟩ :: l)) lg σ Q:=
  lE_ he k hds E hc G hok hz hap
theorem aJv {b1:Option LB} {c:C} {sz:Nat} [T:L1 P t false sz] (hds:Ef σ true [X]=some [(.elt ((Ak f L).drop (n.toNat * 1)),b1)]) (E:Nc f 1) (he:Bo L n=some a) (hc:f a=[c]) (G:I7 ops σ ⟨dst,.load t X,ty,pos,af,g⟩=some true)
    (hok:Ju Rt i false (nb + 8 * i) [] [] lg=true) (hz:zM fz (nb + 8 * i)=0) (hap:M1 cx.np (.load t X) []=true) (k:Chain (Dx P cx fz) ops Rt nb (idx (i + 1) l) ((i,false,nb + 8 * i,[],[]) :: lg) (σ.app dst (v0 (P3 c))) Q):Chain (Dx P cx fz) ops Rt nb (idx i (⟨dst,.load t X,ty,pos,af,g⟩ :: l)) lg σ Q:=
  l1_ he k hds E hc G hok hz hap
theorem aI8 {kr e':Nat} {cs:List C} [T:L1 P t true m] (hds:Ef σ true [X]=some [(.ptr kr (n.toNat * m),some (.row e' m (Ak f L)))]) (E:Nc f m) (he:Bo L n=some a) (hc:f a=cs) (G:I7 ops σ ⟨dst,.load t X,ty,pos,af,g⟩=some true)
    (hok:Ju Rt i false (nb + 8 * i) [kr] [] lg=true) (hz:zM fz (nb + 8 * i)=0) (hap:M1 cx.np (.load t X) []=true) (k:Chain (Dx P cx fz) ops Rt nb (idx (i + 1) l) ((i,false,nb + 8 * i,[kr],[]) :: lg) (σ.app dst (v0 (.agg (cs.map P3)))) Q):Chain (Dx P cx fz) ops Rt nb (idx i (⟨dst,.load t X,ty,pos,af,g⟩ :: l)) lg σ Q:=
  lR_ he k hds E hc G hok hz hap
end
end
section
variable {P:Program} {cx:Cx} {ops:Array Oper} {Rt:Option (List Nat)} {nb i:Nat} {l:List Oper} {lg lg':fT} {σ σ':St} {Q:St->Prop} {fz:List Nat} {m':List (Nat×Oper)}
theorem aJi {p:Prop} (h:p:=by
    repeat first
      | (apply Gm.move; exact rfl; exact I5; exact rfl)
      | (apply Gm.assign; exact rfl; exact I5; exact rfl)
      | (apply Gm.fieldP; exact rfl; (exact rfl); exact I5; exact rfl)
      | (apply Gm.load1; exact rfl; (exact rfl); exact I5; exact rfl)
      | (apply Gm.loadA; exact rfl; (exact rfl); exact I5; exact rfl)
      | (apply Gm.pickF; exact rfl; (first | with_reducible assumption | with_reducible rfl | with_reducible exact Zb (by with_reducible assumption)); exact I5; exact rfl)
      | (apply Gm.pickT; exact rfl; (first | with_reducible assumption | with_reducible rfl | with_reducible exact Y3 (by with_reducible assumption)); exact I5; exact rfl)
      | (apply Gm.k; (first | exact tV rfl rfl (by first | with_reducible assumption | with_reducible rfl | with_reducible exact Zb (by with_reducible assumption) | with_reducible exact Y3 (by with_reducible assumption)) | exact qX rfl rfl (by first | with_reducible assumption | with_reducible rfl | with_reducible exact Zb (by with_reducible assumption) | with_reducible exact Y3 (by with_reducible assumption)) | exact zS rfl rfl); exact rfl)
      | (apply Gm.storeB; exact rfl; (exact rfl); (exact rfl); (exact rfl); (focus repeat first | exact (rfl:_=[]) | (apply aBb; exact rfl)); (first | exact (rfl:_=[_]) | exact (rfl:_=[_,_]) | exact (rfl:_=[_,_,_])); exact I5; exact rfl)
      | (apply Gm.extract; exact rfl; (exact rfl); exact I5; exact rfl)
      | (apply Gm.lss; exact rfl; exact I5; exact rfl)
      | (apply Gm.eql; exact rfl; exact I5; exact rfl)
      | (apply Gm.gtr; exact rfl; exact I5; exact rfl)
      | (apply Gm.leq; exact rfl; exact I5; exact rfl)
      | (apply Gm.geq; exact rfl; exact I5; exact rfl)
      | (apply Gm.neq; exact rfl; exact I5; exact rfl)
      | (apply Gm.seql; exact rfl; exact I5; exact rfl)
      | (apply Gm.sneq; exact rfl; exact I5; exact rfl)
      | (apply Gm.add; exact rfl; exact I5; exact rfl)
      | (apply Gm.sub; exact rfl; exact I5; exact rfl)
      | (apply Gm.mul; exact rfl; exact I5; exact rfl)
      | (apply Gm.alloc; exact rfl; exact I5; exact rfl)
      | (apply Gm.box; exact rfl; (exact rfl); exact I5; exact rfl)
      | (apply Gm.not; exact rfl; exact I5; exact rfl)
      | (apply Gm.lenS; exact rfl; (exact inferInstance); exact I5; exact rfl)
      | (apply Gm.lenR; exact rfl; (exact inferInstance); exact I5; exact rfl)
      | (apply Gm.nilP; exact rfl; exact I5; exact rfl)
      | (apply Gm.nilE; exact rfl; exact I5; exact rfl)
      | (apply Gm.field1; exact rfl; (exact rfl); exact I5; exact rfl)
      | (apply Gm.fieldA; exact rfl; exact I5; exact rfl)
      | (apply Gm.makeF; exact rfl; exact I5; exact rfl)
    exact Gm.z):p:=h
theorem aG {m:List (Nat×Oper)} (k:Chain (Dx P cx fz) ops Rt nb m' lg' σ' Q) (h:Gm P cx fz ops Rt nb m lg σ m' lg' σ':=by exact aJi):Chain (Dx P cx fz) ops Rt nb m lg σ Q:=h Q k
end
theorem ag_ {p:Prop} (h:p:=by
    repeat' first
      | exact Of.nil
      | exact Ag.val
      | exact Ag.sl
      | exact Ag.nils
      | exact Ag.elt
      | exact Ag.fn
      | exact Ag.ptr rfl
      | exact Ag.rowK rfl
      | exact Ag.row rfl (by repeat first | exact List.Mem.head _ | refine List.Mem.tail _ ?_) rfl
      | refine Ag.agg ?_
      | refine Ag.clo ?_
      | refine Of.cons ?_ ?_
    first | done | fail):p:=h
theorem bx_ {p:Prop} (h:p:=by
    repeat' first
      | exact (rfl:_=[])
      | refine⟨_,_,_,rfl,(.head _),⟨_,rfl,?_⟩,?_⟩
      | refine⟨_,_,_,rfl,(.tail _ (.head _)),⟨_,rfl,?_⟩,?_⟩
      | refine⟨_,_,_,rfl,(.head _),rfl,?_⟩
      | refine⟨_,_,_,rfl,(.tail _ (.head _)),rfl,?_⟩
      | exact Of.nil
      | exact Ag.val
      | exact Ag.sl
      | exact Ag.nils
      | exact Ag.elt
      | exact Ag.ptr rfl
      | refine Of.cons ?_ ?_
    first | done | fail):p:=h
theorem Oh {cx:Cx} {σ:St} {fl:List (Nat×DV)} {ll:List (Nat×LB)} {n:Nat} (k:Nat) (h0:Nat.beq k n=true) (h:P4 cx σ (mk fl ll n)):P4 cx σ (mk fl ll n):=h
theorem zZ {p:Prop} (h:p:=by first | exact Oh 0 rfl (B9 []) | exact Oh 1 rfl (B9 [(0,0)]) | exact Oh 1 rfl (B9 [(0,_)]) | exact Oh 2 rfl (B9 [(0,0),(1,_)]) | exact Oh 2 rfl (B9 [(0,0),(1,1)]) | exact Oh 2 rfl (B9 [(0,_),(1,_)]) | exact Oh 3 rfl (B9 [(0,0),(1,_),(2,_)]) | exact Oh 3 rfl (B9 [(0,0),(1,1),(2,2)]) | exact Oh 3 rfl (B9 [(0,0),(1,1),(2,_)]) | exact Oh 3 rfl (B9 [(0,_),(1,_),(2,_)]) | exact Oh 4 rfl (B9 [(0,0),(1,_),(2,_),(3,_)]) | exact Oh 4 rfl (B9 [(0,0),(1,1),(2,2),(3,3)]) | exact Oh 4 rfl (B9 [(0,0),(1,1),(2,2),(3,_)]) | exact Oh 4 rfl (B9 [(0,0),(1,1),(2,_),(3,_)]) | exact Oh 4 rfl (B9 [(0,_),(1,_),(2,_),(3,_)]) | exact Oh 5 rfl (B9 [(0,0),(1,_),(2,_),(3,_),(4,_)]) | exact Oh 5 rfl (B9 [(0,0),(1,1),(2,2),(3,3),(4,4)]) | exact Oh 5 rfl (B9 [(0,0),(1,1),(2,2),(3,3),(4,_)]) | exact Oh 5 rfl (B9 [(0,0),(1,1),(2,2),(3,_),(4,_)]) | exact Oh 5 rfl (B9 [(0,0),(1,1),(2,_),(3,_),(4,_)]) | exact Oh 5 rfl (B9 [(0,_),(1,_),(2,_),(3,_),(4,_)]) | exact Oh 6 rfl (B9 [(0,0),(1,_),(2,_),(3,_),(4,_),(5,_)]) | exact Oh 6 rfl (B9 [(0,0),(1,1),(2,2),(3,3),(4,4),(5,5)]) | exact Oh 6 rfl (B9 [(0,0),(1,1),(2,2),(3,3),(4,4),(5,_)]) | exact Oh 6 rfl (B9 [(0,0),(1,1),(2,2),(3,3),(4,_),(5,_)]) | exact Oh 6 rfl (B9 [(0,0),(1,1),(2,2),(3,_),(4,_),(5,_)]) | exact Oh 6 rfl (B9 [(0,0),(1,1),(2,_),(3,_),(4,_),(5,_)]) | exact Oh 6 rfl (B9 [(0,_),(1,_),(2,_),(3,_),(4,_),(5,_)]) | exact Oh 7 rfl (B9 [(0,0),(1,_),(2,_),(3,_),(4,_),(5,_),(6,_)]) | exact Oh 7 rfl (B9 [(0,0),(1,1),(2,2),(3,3),(4,4),(5,5),(6,6)]) | exact Oh 7 rfl (B9 [(0,0),(1,1),(2,2),(3,3),(4,4),(5,5),(6,_)]) | exact Oh 7 rfl (B9 [(0,0),(1,1),(2,2),(3,3),(4,4),(5,_),(6,_)]) | exact Oh 7 rfl (B9 [(0,0),(1,1),(2,2),(3,3),(4,_),(5,_),(6,_)]) | exact Oh 7 rfl (B9 [(0,0),(1,1),(2,2),(3,_),(4,_),(5,_),(6,_)]) | exact Oh 7 rfl (B9 [(0,0),(1,1),(2,_),(3,_),(4,_),(5,_),(6,_)]) | exact Oh 7 rfl (B9 [(0,_),(1,_),(2,_),(3,_),(4,_),(5,_),(6,_)]) | exact Oh 8 rfl (B9 [(0,0),(1,_),(2,_),(3,_),(4,_),(5,_),(6,_),(7,_)]) | exact Oh 8 rfl (B9 [(0,0),(1,1),(2,2),(3,3),(4,4),(5,5),(6,6),(7,7)]) | exact Oh 8 rfl (B9 [(0,0),(1,1),(2,2),(3,3),(4,4),(5,5),(6,6),(7,_)]) | exact Oh 8 rfl (B9 [(0,0),(1,1),(2,2),(3,3),(4,4),(5,5),(6,_),(7,_)]) | exact Oh 8 rfl (B9 [(0,0),(1,1),(2,2),(3,3),(4,4),(5,_),(6,_),(7,_)]) | exact Oh 8 rfl (B9 [(0,0),(1,1),(2,2),(3,3),(4,_),(5,_),(6,_),(7,_)]) | exact Oh 8 rfl (B9 [(0,0),(1,1),(2,2),(3,_),(4,_),(5,_),(6,_),(7,_)]) | exact Oh 8 rfl (B9 [(0,0),(1,1),(2,_),(3,_),(4,_),(5,_),(6,_),(7,_)]) | exact Oh 8 rfl (B9 [(0,_),(1,_),(2,_),(3,_),(4,_),(5,_),(6,_),(7,_)]) | fail):p:=h
theorem op_ {p:Prop} (h:p:=by
    first
      | exact aF3 (by exact rfl) inferInstance (by with_reducible assumption) (by exact rfl)
      | exact aG0 (by exact rfl) inferInstance (by with_reducible assumption) (by exact rfl)
      | exact aHg inferInstance (by with_reducible assumption) (by exact rfl)
      | exact aHi inferInstance (by with_reducible assumption) (by exact vI) (by exact rfl)
      | exact aGm inferInstance (by with_reducible assumption) (by exact rfl)
      | exact aG5 inferInstance (by with_reducible assumption) (by exact rfl)
      | exact kA V6.h V6.h
      | exact cG V6.h V6.h
      | exact cA V6.h V6.h
      | exact wO V6.h V6.h
      | exact xR V6.h V6.h V6.h
      | exact aBr
      | exact aB0
      | exact aC2
      | exact aC4
      | exact aCq V6.h
      | exact aAp
      | exact aA0 V6.h
      | exact aHm
      | fail):p:=h
theorem aIu {p:Prop} (h:p:=by
    first
      | exact aFd inferInstance hy
      | exact aFr inferInstance hy
      | exact J0 Sg.h Nc.h .row rfl .sl rfl hy rfl
      | exact J0 Sg.h Nc.h .row rfl .row rfl hy rfl
      | exact J0 Sg.h Nc.h .nil rfl .sl rfl hy rfl
      | exact aGs hy
      | exact aF9 hy
      | exact dG hy
      | exact aAq hy
      | exact rM V6.h hy
      | exact aGr hy
      | exact oM Sg.h Nc.h hy
      | exact oC Sg.h Nc.h hy
      | exact oE Sg.h Nc.h hy
      | exact bW Sg.h Nc.h hy
      | fail):p:=h
theorem aIj {p:Prop} (h:p:=by
    first
      | exact aFd inferInstance (by with_reducible assumption)
      | exact aFr inferInstance (by with_reducible assumption)
      | fail):p:=h
theorem mX {p:Prop} (h:p:=by
    intro hk hq _
    have G:=G
    try have B:=B
    try ((with_reducible refine isC ?_); refine aG ?_)
    repeat' first
      | (with_reducible refine isC ?_
         first
          | ((apply vO); (try clear B); intro B)
          | (replace hk:=Fu.dec hk
             (with_reducible replace G:=Aq G)
             obtain⟨_,hy,G⟩:=G
             first
              | (apply aJj; intro hw; (first | (apply tI (hw hy); exact rfl; exact ag_; exact I5; exact rfl; exact rfl; exact rfl) | (apply aIt (hw hy); exact rfl; exact rfl; exact ag_; exact bx_; exact I5; exact rfl; exact rfl; exact rfl; exact rfl; exact rfl)); clear hw)
              | (apply aI6; exact rfl; intro hw; apply aJa (hw hy); exact rfl; exact rfl; exact ag_; exact I5; exact rfl; exact rfl; exact rfl; clear hw)
              | ((first | apply tI (hrec hy) | apply tI (hrec _ hy) | apply tI (hrec _ _ hy) | apply tI (hrec _ _ _ hy)); exact rfl; exact ag_; exact I5; exact rfl; exact rfl; exact rfl)
              | ((first | apply aF8 (hf _ _ hy) | apply aF8 (hf _ _ _ hy)); exact rfl; exact rfl; exact ag_; exact I5; exact rfl; exact rfl; exact rfl)
              | (apply u_s; exact rfl; exact aIu; exact vI; exact I5; exact rfl)
             refine aG ?_)
          | (apply u_s; exact rfl; exact aIj; exact vI; exact I5; exact rfl; refine aG ?_)
          | (replace hk:=Fu.dec hk; apply aJv; exact rfl; exact inferInstance; (with_reducible assumption); exact rfl; exact I5; exact rfl; exact rfl; exact rfl; refine aG ?_)
          | (replace hk:=Fu.dec hk; apply aIv; exact rfl; exact inferInstance; (with_reducible assumption); exact vI; exact I5; exact rfl; exact rfl; exact rfl; refine aG ?_)
          | (replace hk:=Fu.dec hk; apply aI8; exact rfl; exact inferInstance; (with_reducible assumption); exact vI; exact I5; exact rfl; exact rfl; exact rfl; refine aG ?_)
          | (replace hk:=Fu.dec hk; apply u_s; exact rfl; exact op_; exact vI; exact I5; exact rfl; refine aG ?_)
          | ((with_reducible replace G:=isB G); revert hk; revert G; refine aIc (fun hk _ G=>?_) fun hk _ G=>?_; (all_goals refine aG ?_)))
      | (with_reducible refine isA ?_
         first
          | (replace hk:=Fu.dec hk
             first
              | (apply aIb; (first | exact Ha | with_reducible assumption); ((try simp only [↓aIx,↓List.length_nil,Nat.reduceAdd,Nat.reduceMul]); exact rfl); exact rfl; refine aG ?_)
              | (apply aIe; (first | exact Ha | with_reducible assumption); ((try simp only [↓aIx,↓List.length_nil,Nat.reduceAdd,Nat.reduceMul]); exact rfl); exact rfl; refine aG ?_)
              | apply A8
              | apply I1
              | refine jP ?_
              | refine ex_ ?_
              | refine yI ?_)
          | ((with_reducible replace G:=isB G); revert hk; revert G; refine aJq rfl (fun hk _ G=>?_) fun hk _ G=>?_))
      | ((with_reducible replace G:=isU G); replace G:=bK G (by with_reducible assumption))
      | ((with_reducible refine isE ?_)
         first
          | ((with_reducible refine⟨(_,_,_,_,_,_,_),G,?_⟩); exact zZ)
          | ((with_reducible refine⟨(_,_,_,_,_,_),G,?_⟩); exact zZ)
          | ((with_reducible refine⟨(_,_,_,_,_),G,?_⟩); exact zZ)
          | ((with_reducible refine⟨(_,_,_,_),G,?_⟩); exact zZ)
          | ((with_reducible refine⟨(_,_,_),G,?_⟩); exact zZ)
          | ((with_reducible refine⟨(_,_),G,?_⟩); exact zZ)
          | ((with_reducible replace G:=oi_ G); clear hq hk; subst G; exact⟨(_,_),aM2 _,nx_ (by with_reducible assumption),zZ⟩)
          | ((with_reducible refine⟨_,G,?_⟩); exact zZ)
          | fail)
      | (clear hq hk; (with_reducible replace G:=oi_ G); subst G; first | exact Q2 [] ⟨rfl,rfl⟩ | exact Q2 [(0,0)] ⟨rfl,rfl⟩ | exact Q2 [(0,_)] ⟨rfl,rfl⟩ | exact Q2 [(0,0),(1,_)] ⟨rfl,rfl⟩ | exact Q2 [(0,0),(1,1)] ⟨rfl,rfl⟩ | exact Q2 [(0,_),(1,_)] ⟨rfl,rfl⟩ | exact Q2 [(0,0),(1,_),(2,_)] ⟨rfl,rfl⟩ | exact Q2 [(0,0),(1,1),(2,2)] ⟨rfl,rfl⟩ | exact Q2 [(0,0),(1,1),(2,_)] ⟨rfl,rfl⟩ | exact Q2 [(0,_),(1,_),(2,_)] ⟨rfl,rfl⟩ | exact Q2 [(0,0),(1,_),(2,_),(3,_)] ⟨rfl,rfl⟩ | exact Q2 [(0,0),(1,1),(2,2),(3,3)] ⟨rfl,rfl⟩ | exact Q2 [(0,0),(1,1),(2,2),(3,_)] ⟨rfl,rfl⟩ | exact Q2 [(0,0),(1,1),(2,_),(3,_)] ⟨rfl,rfl⟩ | exact Q2 [(0,_),(1,_),(2,_),(3,_)] ⟨rfl,rfl⟩ | fail)
    all_goals
      clear hk
      (try replace B:=B)
      replace G:=G
      revert G
      (try revert B)
      repeat (rename_i z; first | exact aJo z hq | revert z)):p:=h
theorem uO {p:Prop} (h:p:=by
    intro hk hq hm
    try dsimp only at G
    refine Nl rfl ?_
    revert hk hq hm
    exact mX):p:=h
theorem B7 (n:Nat) {p q:Prop} (k:q) (h:Fu (.e n)->Kq q->Mk->p:=by exact mX):p:=h trivial ⟨k⟩ .mk
theorem Jv (n:jL) {p q:Prop} (k:q) (h:Fu n->Kq q->Mk->p:=by exact mX):p:=h trivial ⟨k⟩ .mk
theorem C1 {p:Prop} (h:Fu (.e 9999)->Kq True->Mk->p:=by exact mX):p:=h trivial ⟨trivial⟩ .mk
theorem Iw (n:Nat) {p q:Prop} (k:q) (h:Fu (.e n)->Kq q->Mk->p:=by exact uO):p:=h trivial ⟨k⟩ .mk
theorem Dl (n:jL) {p q:Prop} (k:q) (h:Fu n->Kq q->Mk->p:=by exact uO):p:=h trivial ⟨k⟩ .mk
theorem F0 {p:Prop} (h:Fu (.e 9999)->Kq True->Mk->p:=by exact uO):p:=h trivial ⟨trivial⟩ .mk
end Go.Proofs.YtkioneinddihlaaGreat
