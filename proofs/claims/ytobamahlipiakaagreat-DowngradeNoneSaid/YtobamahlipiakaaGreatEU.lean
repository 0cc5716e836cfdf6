import Derived.Test.YtobamahlipiakaaGreatEH
set_option linter.unusedVariables false
set_option linter.unusedSimpArgs false
namespace Go.Proofs.YtobamahlipiakaaGreat
open Go.RowKit
inductive tT
  | e (n:Nat)
  | l (n:Nat) (p:tT)
  | r (n:Nat) (p:tT)
def Fu (_:tT):Prop:=True
class Dec (p:tT) (q:outParam tT):Prop
instance {n:Nat}:Dec (.e (n + 1)) (.e n):=⟨⟩
instance {n:Nat} {p:tT}:Dec (.l (n + 1) p) (.l n p):=⟨⟩
instance {n:Nat} {p:tT}:Dec (.r (n + 1) p) (.r n p):=⟨⟩
theorem Fu.dec {p q:tT} [Dec p q] (_:Fu p):Fu q:=trivial
class Two (p:tT) (a b:outParam tT):Prop
instance {n:Nat}:Two (.e (n + 1)) (.e n) (.e n):=⟨⟩
instance {p:tT}:Two (.l 0 p) (.e 9999) p:=⟨⟩
instance {p:tT}:Two (.r 0 p) p (.e 9999):=⟨⟩
inductive Mk:Prop
  | mk
structure Kq (q:Prop):Prop where
  h:q
theorem aTd {q:Prop} (_:Mk) (h:Kq q):q:=h.h
class Wk (f:Nat) where
  s:Prop
  h:s
section
variable {P:Program} {cx:Cx} {Q:Exit->St->Prop} {σ:St} {x y:Code} {id:Nat} {l:List Oper} {nb nb':Nat}
theorem isA (h:M1 P cx x Q σ):M1 P cx x Q σ:=h
theorem aTx (B:∀ k,nb<=k->σ.U k=false) (hn:nb + 8 * l.length=nb') (hd:nE cx.N l=true) (h:Chain (D9 P cx []) l.toArray none nb (idx 0 l) [] σ (fun σ'=>(∀ j,nb'<=j->σ'.U j=false)->thn (M1 P cx y Q) Q .normal σ')):M1 P cx (.seq (.region id l.toArray false) y) Q σ:=
  jF nb nb' B h (aT7 (aZo hn)) hd
theorem aS3 (B:∀ k,nb<=k->σ.U k=false) (hn:nb + 8 * l.length=nb') (hd:nE cx.N l=true) (h:Chain (D9 P cx []) l.toArray none nb (idx 0 l) [] σ (fun σ'=>(∀ j,nb'<=j->σ'.U j=false)->Q .normal σ')):M1 P cx (.region id l.toArray false) Q σ:=
  Ci (D9 _ _ []) nb nb' B (aT7 (aZo hn)) hd h
theorem aTb {R:Type} {p a b':tT} [Two p a b'] {t:Nat} {b:Bool} {X Y:Option R} {r:R} (hc:σ.F t=some (.val (.bool b))) (h1:Fu a->b=true->X=some r->M1 P cx x Q σ) (h2:Fu b'->b=false->Y=some r->M1 P cx y Q σ) (G:cond b X Y=some r) (_:Fu p):M1 P cx (.cond (.tmp t) x y) Q σ:=
  Kd hc G (h1 trivial) (h2 trivial)
end
theorem Ea {P:Program} {f np:Nat} {fn:Func} {c:Code} {args:List DV} {bx:List LB} {R:DV->List LB->Prop} (nq N:Nat) (hf:P.funcs[f]?=some fn) (h:∀ w0 I ρ0,M1 P ⟨w0,I,ρ0,np,nq,N,none⟩ c (aIz P fn np R) (mk (jQ 0 args) (ix 0 bx) nq)) (hb:fn.body=some c:=by rfl) (hn:(fn.name == "runtime.NumGoroutine")=false:=by rfl)
    (hq:bx.length=nq:=by rfl) (hN:fn.ntmps=N:=by rfl) (hchk:(U8 bx.length args && (bx.all (ltB bx.length) && Nat.ble args.length fn.ntmps && Nat.ble np bx.length))=true:=by rfl):Fn P f np args bx R:=by
  subst hq hN
  exact Fn.of hf hb hn hchk h
theorem Rp {P:Program} {cx:Cx} {Q:Exit->St->Prop} {σ:St} {c:Code} {fl:List (Nat×DV)} {ll:List (Nat×LB)} {n:Nat} (e:σ=mk fl ll n) (h:M1 P cx c Q (mk fl ll n)):M1 P cx c Q σ:=e ▸ h
theorem isE {ι:Type} {p:ι->Prop} (h:∃ i,p i):∃ i,p i:=h
theorem isU {S R:Type} {x:Option R} {o:Lp S R} (h:up x=some o):up x=some o:=h
theorem isB {R:Type} {b:Bool} {X Y:Option R} {r:R} (h:cond b X Y=some r):cond b X Y=some r:=h
theorem nx_ {S R:Type} {it:S->Option R} {s:S} {r:R} (h:R4 it (.next s)=some r):it s=some r:=h
section
variable {α:Type} {f:α->List C} {L:List α} {a:α} {n:Int} {m o off sz s g' ft t tk:Nat} {P:Program} {X:Operand} {ty:TypeId} {b1:Option LB} {ag:Bool}
theorem aPt {L:List α} {x y:Operand} {e by_:Nat} {kk:IntKind} {q1 q2:Option LB} [S:Xd P t e sz by_] (E:P0 f sz) (hx:Bm L n=some a):Gw P tk (.indexAddr t x y) ty [(.sl sz (Ai f L),q1),(.val (.int kk n),q2)] [] (v0 (.elt ((Ai f L).drop (n.toNat * sz)))):=
  aFh S.h E.h (Tl hx) (D5 hx)
theorem aQ7 {L:List α} {x y:Operand} {e e' by_ k:Nat} {kk:IntKind} {q2:Option LB} [S:Xd P t e sz by_] (E:P0 f sz) (hx:Bm L n=some a):Gw P tk (.indexAddr t x y) ty [(.row k,some (.row e' sz (Ai f L))),(.val (.int kk n),q2)] [] (v0 (.ptr k (n.toNat * sz))):=
  aFy S.h E.h (Tl hx) (D5 hx)
theorem aQi [F:Lk P s g' off ft] [T:Ot P ft ag sz] (hz:Nat.blt 0 sz=true) (E:P0 f m) (he:Bm L n=some a) (ho:Nat.blt off m=true):Gw P tk (.fieldAddr s X g') ty [(.elt ((Ai f L).drop (n.toNat * m)),b1)] [] (v0 (.elt ((Ai f L).drop (n.toNat * m + off)))):=
  Jy F.h T.h (aEi hz) (aFk E.h (D5 he) (aEi ho) rfl)
theorem aPu [F:Lk P s g' off ft] [T:Ot P ft ag sz] (hz:Nat.blt 0 sz=true) (E:P0 f m) (he:Bm L n=some a) (ho:Nat.blt (o + off) m=true):Gw P tk (.fieldAddr s X g') ty [(.elt ((Ai f L).drop (n.toNat * m + o)),b1)] [] (v0 (.elt ((Ai f L).drop (n.toNat * m + o + off)))):=
  Jy F.h T.h (aEi hz) (aFk E.h (D5 he) (aEi ho) (bBl _ _ _))
theorem aRn {c:C} [T:Ot P t false sz] (E:P0 f m) (he:Bm L n=some a) (hc:(f a)[o]?=some c):Gw P tk (.load t X) ty [(.elt ((Ai f L).drop (n.toNat * m + o)),b1)] [] (v0 (V2 c)):=
  Gq T.h (Pu E.h (D5 he) hc rfl)
theorem aO0 {cs:List C} [T:Ot P t true sz] (E:P0 f m) (he:Bm L n=some a) (hs:((f a).drop o).take sz=cs) (ho:Nat.ble (o + sz) m=true):Gw P tk (.load t X) ty [(.elt ((Ai f L).drop (n.toNat * m + o)),b1)] [] (v0 (.agg (cs.map V2))):=
  I2 T.h (Jj E.h (D5 he) hs (aEi ho) rfl) (Ga E.h (D5 he) (aEi ho) rfl)
theorem aRd {c:C} {kr e':Nat} [T:Ot P t false sz] (E:P0 f m) (he:Bm L n=some a) (hc:(f a)[0]?=some c):Gw P tk (.load t X) ty [(.ptr kr (n.toNat * m),some (.row e' m (Ai f L)))] [] (v0 (V2 c)):=
  .loadR1 T.h (Pu E.h (D5 he) hc rfl)
theorem aPm {c:C} {kr e':Nat} [T:Ot P t false sz] (E:P0 f m) (he:Bm L n=some a) (hc:(f a)[o]?=some c):Gw P tk (.load t X) ty [(.ptr kr (n.toNat * m + o),some (.row e' m (Ai f L)))] [] (v0 (V2 c)):=
  .loadR1 T.h (Pu E.h (D5 he) hc rfl)
end
section
variable {P:Program} {cx:Cx} {ops:Array Oper} {Rt:Option (List Nat)} {nb i:Nat} {l:List Oper} {lg:oP} {σ:St} {Q:St->Prop} {fz:List Nat} {dst:Option Tmp} {op:Op} {ty:TypeId} {pos:String} {af:Array Edge} {g:Option (Nat×Bool)}
theorem isC {m:List (Nat×Oper)} (h:Chain (D9 P cx fz) ops Rt nb m lg σ Q):Chain (D9 P cx fz) ops Rt nb m lg σ Q:=h
theorem u_s {ds:List (DV×Option LB)} {rd wr:List Nat} {e:Ow} (hds:Fz σ (K7 op) op.operands.toList=some ds) (h:Gw P (nb + 8 * i) op ty ds wr e) (hrd:(bif K7 op then Mw (Nm op) ds else [])=rd) (G:Kr ops σ ⟨dst,op,ty,pos,af,g⟩=some true)
    (hok:(Mc Rt i false (nb + 8 * i) rd wr lg && (Nat.beq (zM fz (nb + 8 * i)) 0 && P2 cx.np op wr))=true) (k:Chain (D9 P cx fz) ops Rt nb (idx (i + 1) l) ((i,false,nb + 8 * i,rd,wr) :: lg) (σ.app dst e) Q):Chain (D9 P cx fz) ops Rt nb (idx i (⟨dst,op,ty,pos,af,g⟩ :: l)) lg σ Q:=by
  simp only [aF1] at hok
  exact Sk G hds h hrd hok.1 k (aF5 hok.2.1) hok.2.2
theorem aT5 {R:Type} {p a b':tT} [Two p a b'] {b:Bool} {X Y:Option R} {r:R} {m:List (Nat×Oper)} (h1:Fu a->b=true->X=some r->Chain (D9 P cx fz) ops Rt nb m lg σ Q) (h2:Fu b'->b=false->Y=some r->Chain (D9 P cx fz) ops Rt nb m lg σ Q) (G:cond b X Y=some r) (_:Fu p):Chain (D9 P cx fz) ops Rt nb m lg σ Q:=by
  rcases bc_ G with ⟨h,G⟩ | ⟨h,G⟩
  · exact h1 trivial h G
  · exact h2 trivial h G
section
variable {f:FuncId} {xs:Array Operand} {tys:Array TypeId} {dsA:List (DV×Option LB)} {args:List DV} {bx:List LB} {d:DV} {b:List LB} {p:Nat} {s:Prop} {t:Tmp} {q:Option LB} {n:Nat} {cs:List DV}
theorem aSa [W:Wk f] (k:W.s->Chain (D9 P cx fz) ops Rt nb (idx i (⟨dst,.call ⟨.value (.func f),xs,tys⟩,ty,pos,af,g⟩ :: l)) lg σ Q):Chain (D9 P cx fz) ops Rt nb (idx i (⟨dst,.call ⟨.value (.func f),xs,tys⟩,ty,pos,af,g⟩ :: l)) lg σ Q:=k W.h
theorem aT2 (hc:ev σ true (.tmp t)=some (.val (.func (.func f) #[] #[]),q)) [W:Wk f] (k:W.s->Chain (D9 P cx fz) ops Rt nb (idx i (⟨dst,.call ⟨.value (.tmp t),xs,tys⟩,ty,pos,af,g⟩ :: l)) lg σ Q):Chain (D9 P cx fz) ops Rt nb (idx i (⟨dst,.call ⟨.value (.tmp t),xs,tys⟩,ty,pos,af,g⟩ :: l)) lg σ Q:=k W.h
theorem aB8 (hF:Fn P f 0 args [] (fun d' b'=>d'=d/\b'=[])) (hds:Fz σ true xs.toList=some dsA) (hA:K0 false ([] ++ []) (Jc σ []) (dsA.map (·.1)) args) (G:Kr ops σ ⟨dst,.call ⟨.value (.func f),xs,tys⟩,ty,pos,af,g⟩=some true)
    (hrd:Qe σ 3 (Rm dsA)=[]) (hok:Mc Rt i true (nb + 8 * i) [] [] lg=true) (hr:Me d=[]) (k:Chain (D9 P cx fz) ops Rt nb (idx (i + 1) l) ((i,true,nb + 8 * i,[],[]) :: lg) (σ.app dst (eP [] [] d [])) Q) :
    Chain (D9 P cx fz) ops Rt nb (idx i (⟨dst,.call ⟨.value (.func f),xs,tys⟩,ty,pos,af,g⟩ :: l)) lg σ Q:=
  L9 hF k hds hA G hrd hok hr
theorem aSq (hF:Fn P f 0 args [] (fun d' b'=>d'=d/\b'=[])) (hc:ev σ true (.tmp t)=some (.val (.func (.func f) #[] #[]),q)) (hds:Fz σ true xs.toList=some dsA) (hA:K0 false ([] ++ []) (Jc σ []) (dsA.map (·.1)) args) (G:Kr ops σ ⟨dst,.call ⟨.value (.tmp t),xs,tys⟩,ty,pos,af,g⟩=some true)
    (hrd:Qe σ 3 (Rm dsA)=[]) (hok:Mc Rt i true (nb + 8 * i) [] [] lg=true) (hr:Me d=[]) (k:Chain (D9 P cx fz) ops Rt nb (idx (i + 1) l) ((i,true,nb + 8 * i,[],[]) :: lg) (σ.app dst (eP [] [] d [])) Q) :
    Chain (D9 P cx fz) ops Rt nb (idx i (⟨dst,.call ⟨.value (.tmp t),xs,tys⟩,ty,pos,af,g⟩ :: l)) lg σ Q:=
  So (rd:=[]) (ps:=[]) (gs:=[]) false G hc hF hds hrd hA rfl rfl (fun h=>by cases h) hok hr rfl rfl k
theorem aQf (hF:Fn P f 0 args [] (fun d' b'=>d'=d/\b'=[])) (hc:ev σ true (.tmp t)=some (.clo f n cs,q)) (hds:Fz σ true xs.toList=some dsA) (hA:K0 false ([] ++ []) (Jc σ []) (cs.take n ++ (dsA.map (·.1) ++ cs.drop n)) args) (G:Kr ops σ ⟨dst,.call ⟨.value (.tmp t),xs,tys⟩,ty,pos,af,g⟩=some true)
    (hrd:Qe σ 3 (O3 cs ++ Rm dsA)=[]) (hok:Mc Rt i true (nb + 8 * i) [] [] lg=true) (hr:Me d=[]) (k:Chain (D9 P cx fz) ops Rt nb (idx (i + 1) l) ((i,true,nb + 8 * i,[],[]) :: lg) (σ.app dst (eP [] [] d [])) Q) :
    Chain (D9 P cx fz) ops Rt nb (idx i (⟨dst,.call ⟨.value (.tmp t),xs,tys⟩,ty,pos,af,g⟩ :: l)) lg σ Q:=
  E1 (rd:=[]) (ps:=[]) (gs:=[]) false G hc hF hds hrd hA rfl rfl (fun h=>by cases h) hok hr rfl rfl k
theorem aSo (hF:Fn P f 1 args bx (fun d' b'=>d'=d/\b'=b)) (hds:Fz σ true xs.toList=some dsA) (hrd:Qe σ 3 (Rm dsA)=[p]) (hA:K0 false ([p] ++ []) (Jc σ [p]) (dsA.map (·.1)) args) (hB:X8 false ([p] ++ []) (Jc σ [p]) ([p] ++ []) bx) (G:Kr ops σ ⟨dst,.call ⟨.value (.func f),xs,tys⟩,ty,pos,af,g⟩=some true)
    (hnd:N1 cx.np [p] []=true) (hok:Mc Rt i true (nb + 8 * i) [p] ([p] ++ []) lg=true) (hr:Me d=[]) (hl:b.length=1) (hb:b.flatMap rD=[]) (k:Chain (D9 P cx fz) ops Rt nb (idx (i + 1) l) ((i,true,nb + 8 * i,[p],[p] ++ []) :: lg) (σ.app dst (eP [p] [] d b)) Q) :
    Chain (D9 P cx fz) ops Rt nb (idx i (⟨dst,.call ⟨.value (.func f),xs,tys⟩,ty,pos,af,g⟩ :: l)) lg σ Q:=
  gD (rd:=[p]) (ps:=[p]) (gs:=[]) false G hF hds hrd hA hB hnd (fun h=>by cases h) hok hr hl hb k
end
section
variable {α:Type} {f:α->List C} {L:List α} {a:α} {n:Int} {m:Nat} {t:TypeId} {X:Operand}
theorem aSg {b1:Option LB} {cs:List C} [T:Ot P t true m] (hds:Fz σ true [X]=some [(.elt ((Ai f L).drop (n.toNat * m)),b1)]) (E:P0 f m) (he:Bm L n=some a) (hc:f a=cs) (G:Kr ops σ ⟨dst,.load t X,ty,pos,af,g⟩=some true)
    (hok:Mc Rt i false (nb + 8 * i) [] [] lg=true) (hz:zM fz (nb + 8 * i)=0) (hap:P2 cx.np (.load t X) []=true) (k:Chain (D9 P cx fz) ops Rt nb (idx (i + 1) l) ((i,false,nb + 8 * i,[],[]) :: lg) (σ.app dst (v0 (.agg (cs.map V2)))) Q):Chain (D9 P cx fz) ops Rt nb (idx i (⟨dst,.load t X,ty,pos,af,g⟩ :: l)) lg σ Q:=
  lE_ he k hds E hc G hok hz hap
theorem aSz {b1:Option LB} {c:C} {sz:Nat} [T:Ot P t false sz] (hds:Fz σ true [X]=some [(.elt ((Ai f L).drop (n.toNat * 1)),b1)]) (E:P0 f 1) (he:Bm L n=some a) (hc:f a=[c]) (G:Kr ops σ ⟨dst,.load t X,ty,pos,af,g⟩=some true)
    (hok:Mc Rt i false (nb + 8 * i) [] [] lg=true) (hz:zM fz (nb + 8 * i)=0) (hap:P2 cx.np (.load t X) []=true) (k:Chain (D9 P cx fz) ops Rt nb (idx (i + 1) l) ((i,false,nb + 8 * i,[],[]) :: lg) (σ.app dst (v0 (V2 c))) Q):Chain (D9 P cx fz) ops Rt nb (idx i (⟨dst,.load t X,ty,pos,af,g⟩ :: l)) lg σ Q:=
  l1_ he k hds E hc G hok hz hap
theorem aT1 {kr e':Nat} {cs:List C} [T:Ot P t true m] (hds:Fz σ true [X]=some [(.ptr kr (n.toNat * m),some (.row e' m (Ai f L)))]) (E:P0 f m) (he:Bm L n=some a) (hc:f a=cs) (G:Kr ops σ ⟨dst,.load t X,ty,pos,af,g⟩=some true)
    (hok:Mc Rt i false (nb + 8 * i) [kr] [] lg=true) (hz:zM fz (nb + 8 * i)=0) (hap:P2 cx.np (.load t X) []=true) (k:Chain (D9 P cx fz) ops Rt nb (idx (i + 1) l) ((i,false,nb + 8 * i,[kr],[]) :: lg) (σ.app dst (v0 (.agg (cs.map V2)))) Q):Chain (D9 P cx fz) ops Rt nb (idx i (⟨dst,.load t X,ty,pos,af,g⟩ :: l)) lg σ Q:=
  lR_ he k hds E hc G hok hz hap
end
end
section
variable {P:Program} {cx:Cx} {ops:Array Oper} {Rt:Option (List Nat)} {nb i:Nat} {l:List Oper} {lg lg':oP} {σ σ':St} {Q:St->Prop} {fz:List Nat} {m':List (Nat×Oper)}
theorem aTf {p:Prop} (h:p:=by
    repeat first
      | (apply Gm.move; exact rfl; exact K1; exact rfl)
      | (apply Gm.assign; exact rfl; exact K1; exact rfl)
      | (apply Gm.fieldP; exact rfl; (exact rfl); exact K1; exact rfl)
      | (apply Gm.load1; exact rfl; (exact rfl); exact K1; exact rfl)
      | (apply Gm.loadA; exact rfl; (exact rfl); exact K1; exact rfl)
      | (apply Gm.pickF; exact rfl; (first | with_reducible assumption | with_reducible rfl | with_reducible exact hQ (by with_reducible assumption)); exact K1; exact rfl)
      | (apply Gm.pickT; exact rfl; (first | with_reducible assumption | with_reducible rfl | with_reducible exact fG (by with_reducible assumption)); exact K1; exact rfl)
      | (apply Gm.k; (first | exact aCr rfl rfl (by first | with_reducible assumption | with_reducible rfl | with_reducible exact hQ (by with_reducible assumption) | with_reducible exact fG (by with_reducible assumption)) | exact aCo rfl rfl (by first | with_reducible assumption | with_reducible rfl | with_reducible exact hQ (by with_reducible assumption) | with_reducible exact fG (by with_reducible assumption)) | exact aJu rfl rfl); exact rfl)
      | (apply Gm.storeB; exact rfl; (exact rfl); (exact rfl); (exact rfl); (focus repeat first | exact (rfl:_=[]) | (apply aLs; exact rfl)); (first | exact (rfl:_=[_]) | exact (rfl:_=[_,_]) | exact (rfl:_=[_,_,_])); exact K1; exact rfl)
      | (apply Gm.extract; exact rfl; (exact rfl); exact K1; exact rfl)
      | (apply Gm.lss; exact rfl; exact K1; exact rfl)
      | (apply Gm.eql; exact rfl; exact K1; exact rfl)
      | (apply Gm.gtr; exact rfl; exact K1; exact rfl)
      | (apply Gm.leq; exact rfl; exact K1; exact rfl)
      | (apply Gm.geq; exact rfl; exact K1; exact rfl)
      | (apply Gm.neq; exact rfl; exact K1; exact rfl)
      | (apply Gm.seql; exact rfl; exact K1; exact rfl)
      | (apply Gm.sneq; exact rfl; exact K1; exact rfl)
      | (apply Gm.add; exact rfl; exact K1; exact rfl)
      | (apply Gm.sub; exact rfl; exact K1; exact rfl)
      | (apply Gm.mul; exact rfl; exact K1; exact rfl)
      | (apply Gm.alloc; exact rfl; exact K1; exact rfl)
      | (apply Gm.box; exact rfl; (exact rfl); exact K1; exact rfl)
      | (apply Gm.not; exact rfl; exact K1; exact rfl)
      | (apply Gm.lenS; exact rfl; (exact inferInstance); exact K1; exact rfl)
      | (apply Gm.lenR; exact rfl; (exact inferInstance); exact K1; exact rfl)
      | (apply Gm.nilP; exact rfl; exact K1; exact rfl)
      | (apply Gm.nilE; exact rfl; exact K1; exact rfl)
      | (apply Gm.field1; exact rfl; (exact rfl); exact K1; exact rfl)
      | (apply Gm.fieldA; exact rfl; exact K1; exact rfl)
      | (apply Gm.makeF; exact rfl; exact K1; exact rfl)
    exact Gm.z):p:=h
theorem jZ {m:List (Nat×Oper)} (k:Chain (D9 P cx fz) ops Rt nb m' lg' σ' Q) (h:Gm P cx fz ops Rt nb m lg σ m' lg' σ':=by exact aTf):Chain (D9 P cx fz) ops Rt nb m lg σ Q:=h Q k
end
theorem aBj {p:Prop} (h:p:=by
    repeat' first
      | exact K0.nil
      | exact Ag.val
      | exact Ag.sl
      | exact Ag.nils
      | exact Ag.elt
      | exact Ag.fn
      | exact Ag.ptr rfl
      | exact Ag.rowK rfl
      | exact Ag.row rfl (by repeat first | exact List.Mem.head _ | refine List.Mem.tail _ ?_) rfl
      | refine Ag.agg ?_
      | refine Ag.clo ?_
      | refine K0.cons ?_ ?_
    first | done | fail):p:=h
theorem bx_ {p:Prop} (h:p:=by
    repeat' first
      | exact (rfl:_=[])
      | refine⟨_,_,_,rfl,(.head _),⟨_,rfl,?_⟩,?_⟩
      | refine⟨_,_,_,rfl,(.tail _ (.head _)),⟨_,rfl,?_⟩,?_⟩
      | refine⟨_,_,_,rfl,(.head _),rfl,?_⟩
      | refine⟨_,_,_,rfl,(.tail _ (.head _)),rfl,?_⟩
      | exact K0.nil
      | exact Ag.val
      | exact Ag.sl
      | exact Ag.nils
      | exact Ag.elt
      | exact Ag.ptr rfl
      | refine K0.cons ?_ ?_
    first | done | fail):p:=h
theorem Ro {cx:Cx} {σ:St} {fl:List (Nat×DV)} {ll:List (Nat×LB)} {n:Nat} (k:Nat) (h0:Nat.beq k n=true) (h:Rr cx σ (mk fl ll n)):Rr cx σ (mk fl ll n):=h
theorem su_ {p:Prop} (h:p:=by first | exact Ro 0 rfl (Cd []) | exact Ro 1 rfl (Cd [(0,0)]) | exact Ro 1 rfl (Cd [(0,_)]) | exact Ro 2 rfl (Cd [(0,0),(1,_)]) | exact Ro 2 rfl (Cd [(0,0),(1,1)]) | exact Ro 2 rfl (Cd [(0,_),(1,_)]) | exact Ro 3 rfl (Cd [(0,0),(1,_),(2,_)]) | exact Ro 3 rfl (Cd [(0,0),(1,1),(2,2)]) | exact Ro 3 rfl (Cd [(0,0),(1,1),(2,_)]) | exact Ro 3 rfl (Cd [(0,_),(1,_),(2,_)]) | exact Ro 4 rfl (Cd [(0,0),(1,_),(2,_),(3,_)]) | exact Ro 4 rfl (Cd [(0,0),(1,1),(2,2),(3,3)]) | exact Ro 4 rfl (Cd [(0,0),(1,1),(2,2),(3,_)]) | exact Ro 4 rfl (Cd [(0,0),(1,1),(2,_),(3,_)]) | exact Ro 4 rfl (Cd [(0,_),(1,_),(2,_),(3,_)]) | exact Ro 5 rfl (Cd [(0,0),(1,_),(2,_),(3,_),(4,_)]) | exact Ro 5 rfl (Cd [(0,0),(1,1),(2,2),(3,3),(4,4)]) | exact Ro 5 rfl (Cd [(0,0),(1,1),(2,2),(3,3),(4,_)]) | exact Ro 5 rfl (Cd [(0,0),(1,1),(2,2),(3,_),(4,_)]) | exact Ro 5 rfl (Cd [(0,0),(1,1),(2,_),(3,_),(4,_)]) | exact Ro 5 rfl (Cd [(0,_),(1,_),(2,_),(3,_),(4,_)]) | exact Ro 6 rfl (Cd [(0,0),(1,_),(2,_),(3,_),(4,_),(5,_)]) | exact Ro 6 rfl (Cd [(0,0),(1,1),(2,2),(3,3),(4,4),(5,5)]) | exact Ro 6 rfl (Cd [(0,0),(1,1),(2,2),(3,3),(4,4),(5,_)]) | exact Ro 6 rfl (Cd [(0,0),(1,1),(2,2),(3,3),(4,_),(5,_)]) | exact Ro 6 rfl (Cd [(0,0),(1,1),(2,2),(3,_),(4,_),(5,_)]) | exact Ro 6 rfl (Cd [(0,0),(1,1),(2,_),(3,_),(4,_),(5,_)]) | exact Ro 6 rfl (Cd [(0,_),(1,_),(2,_),(3,_),(4,_),(5,_)]) | exact Ro 7 rfl (Cd [(0,0),(1,_),(2,_),(3,_),(4,_),(5,_),(6,_)]) | exact Ro 7 rfl (Cd [(0,0),(1,1),(2,2),(3,3),(4,4),(5,5),(6,6)]) | exact Ro 7 rfl (Cd [(0,0),(1,1),(2,2),(3,3),(4,4),(5,5),(6,_)]) | exact Ro 7 rfl (Cd [(0,0),(1,1),(2,2),(3,3),(4,4),(5,_),(6,_)]) | exact Ro 7 rfl (Cd [(0,0),(1,1),(2,2),(3,3),(4,_),(5,_),(6,_)]) | exact Ro 7 rfl (Cd [(0,0),(1,1),(2,2),(3,_),(4,_),(5,_),(6,_)]) | exact Ro 7 rfl (Cd [(0,0),(1,1),(2,_),(3,_),(4,_),(5,_),(6,_)]) | exact Ro 7 rfl (Cd [(0,_),(1,_),(2,_),(3,_),(4,_),(5,_),(6,_)]) | exact Ro 8 rfl (Cd [(0,0),(1,_),(2,_),(3,_),(4,_),(5,_),(6,_),(7,_)]) | exact Ro 8 rfl (Cd [(0,0),(1,1),(2,2),(3,3),(4,4),(5,5),(6,6),(7,7)]) | exact Ro 8 rfl (Cd [(0,0),(1,1),(2,2),(3,3),(4,4),(5,5),(6,6),(7,_)]) | exact Ro 8 rfl (Cd [(0,0),(1,1),(2,2),(3,3),(4,4),(5,5),(6,_),(7,_)]) | exact Ro 8 rfl (Cd [(0,0),(1,1),(2,2),(3,3),(4,4),(5,_),(6,_),(7,_)]) | exact Ro 8 rfl (Cd [(0,0),(1,1),(2,2),(3,3),(4,_),(5,_),(6,_),(7,_)]) | exact Ro 8 rfl (Cd [(0,0),(1,1),(2,2),(3,_),(4,_),(5,_),(6,_),(7,_)]) | exact Ro 8 rfl (Cd [(0,0),(1,1),(2,_),(3,_),(4,_),(5,_),(6,_),(7,_)]) | exact Ro 8 rfl (Cd [(0,_),(1,_),(2,_),(3,_),(4,_),(5,_),(6,_),(7,_)]) | fail):p:=h
theorem op_ {p:Prop} (h:p:=by
    first
      | exact aQi (by exact rfl) inferInstance (by with_reducible assumption) (by exact rfl)
      | exact aPu (by exact rfl) inferInstance (by with_reducible assumption) (by exact rfl)
      | exact aRn inferInstance (by with_reducible assumption) (by exact rfl)
      | exact aO0 inferInstance (by with_reducible assumption) (by exact nl_) (by exact rfl)
      | exact aRd inferInstance (by with_reducible assumption) (by exact rfl)
      | exact aPm inferInstance (by with_reducible assumption) (by exact rfl)
      | exact vK Xm.h Xm.h
      | exact mO Xm.h Xm.h
      | exact lG Xm.h Xm.h
      | exact aGe Xm.h Xm.h
      | exact aIe Xm.h Xm.h Xm.h
      | exact aN7
      | exact aMn
      | exact aMw
      | exact aNw
      | exact aKn Xm.h
      | exact aMt
      | exact aOk Xm.h
      | exact aN9 Xm.h
      | exact aPs
      | exact aQd
      | fail):p:=h
theorem aTl {p:Prop} (h:p:=by
    first
      | exact aPt inferInstance hy
      | exact aQ7 inferInstance hy
      | exact Lw Xd.h P0.h .row rfl .sl rfl hy rfl
      | exact Lw Xd.h P0.h .row rfl .row rfl hy rfl
      | exact Lw Xd.h P0.h .nil rfl .row rfl hy rfl
      | exact aO4 hy
      | exact aPb hy
      | exact nF hy
      | exact aL7 hy
      | exact aLi hy
      | exact aEg Xm.h hy
      | exact aP2 hy
      | exact zN Xd.h P0.h hy
      | exact zU Xd.h P0.h hy
      | exact yV Xd.h P0.h hy
      | exact yQ Xd.h P0.h hy
      | fail):p:=h
theorem aS7 {p:Prop} (h:p:=by
    first
      | exact aPt inferInstance (by with_reducible assumption)
      | exact aQ7 inferInstance (by with_reducible assumption)
      | fail):p:=h
theorem xC {p:Prop} (h:p:=by
    intro hk hq _
    have G:=G
    try have B:=B
    try ((with_reducible refine isC ?_); refine jZ ?_)
    repeat' first
      | (with_reducible refine isC ?_
         first
          | ((apply qK); (try clear B); intro B)
          | (replace hk:=Fu.dec hk
             (with_reducible replace G:=An G)
             obtain⟨_,hy,G⟩:=G
             first
              | (apply aSa; intro hw; (first | (apply aB8 (hw hy); exact rfl; exact aBj; exact K1; exact rfl; exact rfl; exact rfl) | (apply aSo (hw hy); exact rfl; exact rfl; exact aBj; exact bx_; exact K1; exact rfl; exact rfl; exact rfl; exact rfl; exact rfl)); clear hw)
              | (apply aT2; exact rfl; intro hw; apply aSq (hw hy); exact rfl; exact rfl; exact aBj; exact K1; exact rfl; exact rfl; exact rfl; clear hw)
              | ((first | apply aB8 (hrec hy) | apply aB8 (hrec _ hy) | apply aB8 (hrec _ _ hy) | apply aB8 (hrec _ _ _ hy)); exact rfl; exact aBj; exact K1; exact rfl; exact rfl; exact rfl)
              | ((first | apply aQf (hf _ _ hy) | apply aQf (hf _ _ _ hy)); exact rfl; exact rfl; exact aBj; exact K1; exact rfl; exact rfl; exact rfl)
              | (apply u_s; exact rfl; exact aTl; exact nl_; exact K1; exact rfl)
             refine jZ ?_)
          | (apply u_s; exact rfl; exact aS7; exact nl_; exact K1; exact rfl; refine jZ ?_)
          | (replace hk:=Fu.dec hk; apply aSz; exact rfl; exact inferInstance; (with_reducible assumption); exact rfl; exact K1; exact rfl; exact rfl; exact rfl; refine jZ ?_)
          | (replace hk:=Fu.dec hk; apply aSg; exact rfl; exact inferInstance; (with_reducible assumption); exact nl_; exact K1; exact rfl; exact rfl; exact rfl; refine jZ ?_)
          | (replace hk:=Fu.dec hk; apply aT1; exact rfl; exact inferInstance; (with_reducible assumption); exact nl_; exact K1; exact rfl; exact rfl; exact rfl; refine jZ ?_)
          | (replace hk:=Fu.dec hk; apply u_s; exact rfl; exact op_; exact nl_; exact K1; exact rfl; refine jZ ?_)
          | ((with_reducible replace G:=isB G); revert hk; revert G; refine aT5 (fun hk _ G=>?_) fun hk _ G=>?_; (all_goals refine jZ ?_)))
      | (with_reducible refine isA ?_
         first
          | (replace hk:=Fu.dec hk
             first
              | (apply aTx; (first | exact Ij | with_reducible assumption); ((try simp only [↓aJw,↓bAt,Nat.reduceAdd,Nat.reduceMul]); exact rfl); exact rfl; refine jZ ?_)
              | (apply aS3; (first | exact Ij | with_reducible assumption); ((try simp only [↓aJw,↓bAt,Nat.reduceAdd,Nat.reduceMul]); exact rfl); exact rfl; refine jZ ?_)
              | apply Ay
              | apply Ly
              | refine sk_ ?_
              | refine ex_ ?_
              | refine aCd ?_)
          | ((with_reducible replace G:=isB G); revert hk; revert G; refine aTb rfl (fun hk _ G=>?_) fun hk _ G=>?_))
      | ((with_reducible replace G:=isU G); replace G:=sU G (by with_reducible assumption))
      | ((with_reducible refine isE ?_)
         first
          | ((with_reducible refine⟨(_,_,_,_,_,_,_),G,?_⟩); exact su_)
          | ((with_reducible refine⟨(_,_,_,_,_,_),G,?_⟩); exact su_)
          | ((with_reducible refine⟨(_,_,_,_,_),G,?_⟩); exact su_)
          | ((with_reducible refine⟨(_,_,_,_),G,?_⟩); exact su_)
          | ((with_reducible refine⟨(_,_,_),G,?_⟩); exact su_)
          | ((with_reducible refine⟨(_,_),G,?_⟩); exact su_)
          | ((with_reducible replace G:=oi_ G); clear hq hk; subst G; exact⟨(_,_),bAn _,nx_ (by with_reducible assumption),su_⟩)
          | ((with_reducible refine⟨_,G,?_⟩); exact su_)
          | fail)
      | (clear hq hk; (with_reducible replace G:=oi_ G); subst G; first | exact Sb [] ⟨rfl,rfl⟩ | exact Sb [(0,0)] ⟨rfl,rfl⟩ | exact Sb [(0,_)] ⟨rfl,rfl⟩ | exact Sb [(0,0),(1,_)] ⟨rfl,rfl⟩ | exact Sb [(0,0),(1,1)] ⟨rfl,rfl⟩ | exact Sb [(0,_),(1,_)] ⟨rfl,rfl⟩ | exact Sb [(0,0),(1,_),(2,_)] ⟨rfl,rfl⟩ | exact Sb [(0,0),(1,1),(2,2)] ⟨rfl,rfl⟩ | exact Sb [(0,0),(1,1),(2,_)] ⟨rfl,rfl⟩ | exact Sb [(0,_),(1,_),(2,_)] ⟨rfl,rfl⟩ | exact Sb [(0,0),(1,_),(2,_),(3,_)] ⟨rfl,rfl⟩ | exact Sb [(0,0),(1,1),(2,2),(3,3)] ⟨rfl,rfl⟩ | exact Sb [(0,0),(1,1),(2,2),(3,_)] ⟨rfl,rfl⟩ | exact Sb [(0,0),(1,1),(2,_),(3,_)] ⟨rfl,rfl⟩ | exact Sb [(0,_),(1,_),(2,_),(3,_)] ⟨rfl,rfl⟩ | fail)
    all_goals
      clear hk
      (try replace B:=B)
      replace G:=G
      revert G
      (try revert B)
      repeat (rename_i z; first | exact aTd z hq | revert z)):p:=h
theorem aB5 {p:Prop} (h:p:=by
    intro hk hq hm
    try dsimp only at G
    refine Rp rfl ?_
    revert hk hq hm
    exact xC):p:=h
theorem Br (n:Nat) {p q:Prop} (k:q) (h:Fu (.e n)->Kq q->Mk->p:=by exact xC):p:=h trivial ⟨k⟩ .mk
theorem Jf (n:tT) {p q:Prop} (k:q) (h:Fu n->Kq q->Mk->p:=by exact xC):p:=h trivial ⟨k⟩ .mk
theorem Cj {p:Prop} (h:Fu (.e 9999)->Kq True->Mk->p:=by exact xC):p:=h trivial ⟨trivial⟩ .mk
theorem Lg (n:Nat) {p q:Prop} (k:q) (h:Fu (.e n)->Kq q->Mk->p:=by exact aB5):p:=h trivial ⟨k⟩ .mk
theorem Dx (n:tT) {p q:Prop} (k:q) (h:Fu n->Kq q->Mk->p:=by exact aB5):p:=h trivial ⟨k⟩ .mk
theorem Gn {p:Prop} (h:Fu (.e 9999)->Kq True->Mk->p:=by exact aB5):p:=h trivial ⟨trivial⟩ .mk
end Go.Proofs.YtobamahlipiakaaGreat
