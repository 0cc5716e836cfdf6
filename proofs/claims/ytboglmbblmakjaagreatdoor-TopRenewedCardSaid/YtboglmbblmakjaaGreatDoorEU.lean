import Derived.Test.YtboglmbblmakjaaGreatDoorEH
set_option linter.unusedVariables false
set_option linter.unusedSimpArgs false
namespace Go.Proofs.YtboglmbblmakjaaGreatDoor
open Go.RowKit
inductive tN
  | e (n:Nat)
  | l (n:Nat) (p:tN)
  | r (n:Nat) (p:tN)
def Fu (_:tN):Prop:=True
class Dec (p:tN) (q:outParam tN):Prop
instance {n:Nat}:Dec (.e (n + 1)) (.e n):=⟨⟩
instance {n:Nat} {p:tN}:Dec (.l (n + 1) p) (.l n p):=⟨⟩
instance {n:Nat} {p:tN}:Dec (.r (n + 1) p) (.r n p):=⟨⟩
theorem Fu.dec {p q:tN} [Dec p q] (_:Fu p):Fu q:=trivial
class Two (p:tN) (a b:outParam tN):Prop
instance {n:Nat}:Two (.e (n + 1)) (.e n) (.e n):=⟨⟩
instance {p:tN}:Two (.l 0 p) (.e 9999) p:=⟨⟩
instance {p:tN}:Two (.r 0 p) p (.e 9999):=⟨⟩
inductive Mk:Prop
  | mk
structure Kq (q:Prop):Prop where
  h:q
theorem aVf {q:Prop} (_:Mk) (h:Kq q):q:=h.h
class Wk (f:Nat) where
  s:Prop
  h:s
section
variable {P:Program} {cx:Cx} {Q:Exit->St->Prop} {σ:St} {x y:Code} {id:Nat} {l:List Oper} {nb nb':Nat}
theorem isA (h:Kb P cx x Q σ):Kb P cx x Q σ:=h
theorem aVt (B:∀ k,nb<=k->σ.U k=false) (hn:nb + 8 * l.length=nb') (hd:oH cx.N l=true) (h:Chain (E4 P cx []) l.toArray none nb (Ft 0 l) [] σ (fun σ'=>(∀ j,nb'<=j->σ'.U j=false)->thn (Kb P cx y Q) Q .normal σ')):Kb P cx (.seq (.region id l.toArray false) y) Q σ:=
  Q1 nb nb' B h (aUg (bB3 hn)) hd
theorem aWc (B:∀ k,nb<=k->σ.U k=false) (hn:nb + 8 * l.length=nb') (hd:oH cx.N l=true) (h:Chain (E4 P cx []) l.toArray none nb (Ft 0 l) [] σ (fun σ'=>(∀ j,nb'<=j->σ'.U j=false)->Q .normal σ')):Kb P cx (.region id l.toArray false) Q σ:=
  B7 (E4 _ _ []) nb nb' B (aUg (bB3 hn)) hd h
theorem aW4 {R:Type} {p a b':tN} [Two p a b'] {t:Nat} {b:Bool} {X Y:Option R} {r:R} (hc:σ.F t=some (.val (.bool b))) (h1:Fu a->b=true->X=some r->Kb P cx x Q σ) (h2:Fu b'->b=false->Y=some r->Kb P cx y Q σ) (G:cond b X Y=some r) (_:Fu p):Kb P cx (.cond (.tmp t) x y) Q σ:=
  Ji hc G (h1 trivial) (h2 trivial)
end
theorem Ea {P:Program} {f np:Nat} {fn:Func} {c:Code} {args:List DV} {bx:List LB} {R:DV->List LB->Prop} (nq N:Nat) (hf:P.funcs[f]?=some fn) (h:∀ w0 I ρ0,Kb P ⟨w0,I,ρ0,np,nq,N,none⟩ c (aJ7 P fn np R) (mk (lU 0 args) (ix 0 bx) nq)) (hb:fn.body=some c:=by rfl) (hn:(fn.name == "runtime.NumGoroutine")=false:=by rfl)
    (hq:bx.length=nq:=by rfl) (hN:fn.ntmps=N:=by rfl) (hchk:(Xz bx.length args && (bx.all (ltB bx.length) && Nat.ble args.length fn.ntmps && Nat.ble np bx.length))=true:=by rfl):Fn P f np args bx R:=by
  subst hq hN
  exact Fn.of hf hb hn hchk h
theorem X5 {P:Program} {cx:Cx} {Q:Exit->St->Prop} {σ:St} {c:Code} {fl:List (Nat×DV)} {ll:List (Nat×LB)} {n:Nat} (e:σ=mk fl ll n) (h:Kb P cx c Q (mk fl ll n)):Kb P cx c Q σ:=e ▸ h
theorem isE {ι:Type} {p:ι->Prop} (h:∃ i,p i):∃ i,p i:=h
theorem isU {S R:Type} {x:Option R} {o:Lp S R} (h:up x=some o):up x=some o:=h
theorem isB {R:Type} {b:Bool} {X Y:Option R} {r:R} (h:cond b X Y=some r):cond b X Y=some r:=h
theorem nx_ {S R:Type} {it:S->Option R} {s:S} {r:R} (h:U1 it (.next s)=some r):it s=some r:=h
section
variable {α:Type} {f:α->List C} {L:List α} {a:α} {n:Int} {m o off sz s g' ft t tk:Nat} {P:Program} {X:Operand} {ty:TypeId} {b1:Option LB} {ag:Bool}
theorem aT2 {L:List α} {x y:Operand} {e by_:Nat} {kk:IntKind} {q1 q2:Option LB} [S:Up P t e sz by_] (E:O2 f sz) (hx:Bn L n=some a):Ha P tk (.indexAddr t x y) ty [(.sl sz (Ac f L),q1),(.val (.int kk n),q2)] [] (v0 (.elt ((Ac f L).drop (n.toNat * sz)))):=
  aFc S.h E.h (L0 hx) (Cf hx)
theorem aR3 {L:List α} {x y:Operand} {e e' by_ k:Nat} {kk:IntKind} {q2:Option LB} [S:Up P t e sz by_] (E:O2 f sz) (hx:Bn L n=some a):Ha P tk (.indexAddr t x y) ty [(.row k,some (.row e' sz (Ac f L))),(.val (.int kk n),q2)] [] (v0 (.ptr k (n.toNat * sz))):=
  aC0 S.h E.h (L0 hx) (Cf hx)
theorem aSd [F:I8 P s g' off ft] [T:M3 P ft ag sz] (hz:Nat.blt 0 sz=true) (E:O2 f m) (he:Bn L n=some a) (ho:Nat.blt off m=true):Ha P tk (.fieldAddr s X g') ty [(.elt ((Ac f L).drop (n.toNat * m)),b1)] [] (v0 (.elt ((Ac f L).drop (n.toNat * m + off)))):=
  Ja F.h T.h (aC1 hz) (vV E.h (Cf he) (aC1 ho) rfl)
theorem aQ3 [F:I8 P s g' off ft] [T:M3 P ft ag sz] (hz:Nat.blt 0 sz=true) (E:O2 f m) (he:Bn L n=some a) (ho:Nat.blt (o + off) m=true):Ha P tk (.fieldAddr s X g') ty [(.elt ((Ac f L).drop (n.toNat * m + o)),b1)] [] (v0 (.elt ((Ac f L).drop (n.toNat * m + o + off)))):=
  Ja F.h T.h (aC1 hz) (vV E.h (Cf he) (aC1 ho) (Nat.add_assoc _ _ _))
theorem aTf {c:C} [T:M3 P t false sz] (E:O2 f m) (he:Bn L n=some a) (hc:(f a)[o]?=some c):Ha P tk (.load t X) ty [(.elt ((Ac f L).drop (n.toNat * m + o)),b1)] [] (v0 (Wx c)):=
  Eb T.h (G3 E.h (Cf he) hc rfl)
theorem aTx {cs:List C} [T:M3 P t true sz] (E:O2 f m) (he:Bn L n=some a) (hs:((f a).drop o).take sz=cs) (ho:Nat.ble (o + sz) m=true):Ha P tk (.load t X) ty [(.elt ((Ac f L).drop (n.toNat * m + o)),b1)] [] (v0 (.agg (cs.map Wx))):=
  Kr T.h (K9 E.h (Cf he) hs (aC1 ho) rfl) (Fh E.h (Cf he) (aC1 ho) rfl)
theorem aTn {c:C} {kr e':Nat} [T:M3 P t false sz] (E:O2 f m) (he:Bn L n=some a) (hc:(f a)[0]?=some c):Ha P tk (.load t X) ty [(.ptr kr (n.toNat * m),some (.row e' m (Ac f L)))] [] (v0 (Wx c)):=
  .loadR1 T.h (G3 E.h (Cf he) hc rfl)
theorem aSe {c:C} {kr e':Nat} [T:M3 P t false sz] (E:O2 f m) (he:Bn L n=some a) (hc:(f a)[o]?=some c):Ha P tk (.load t X) ty [(.ptr kr (n.toNat * m + o),some (.row e' m (Ac f L)))] [] (v0 (Wx c)):=
  .loadR1 T.h (G3 E.h (Cf he) hc rfl)
end
section
variable {P:Program} {cx:Cx} {ops:Array Oper} {Rt:Option (List Nat)} {nb i:Nat} {l:List Oper} {lg:pF} {σ:St} {Q:St->Prop} {fz:List Nat} {dst:Option Tmp} {op:Op} {ty:TypeId} {pos:String} {af:Array Edge} {g:Option (Nat×Bool)}
theorem isC {m:List (Nat×Oper)} (h:Chain (E4 P cx fz) ops Rt nb m lg σ Q):Chain (E4 P cx fz) ops Rt nb m lg σ Q:=h
theorem u_s {ds:List (DV×Option LB)} {rd wr:List Nat} {e:Q6} (hds:Gk σ (Mp op) op.operands.toList=some ds) (h:Ha P (nb + 8 * i) op ty ds wr e) (hrd:(bif Mp op then Ol (Po op) ds else [])=rd) (G:Ly ops σ ⟨dst,op,ty,pos,af,g⟩=some true)
    (hok:(Nj Rt i false (nb + 8 * i) rd wr lg && (Nat.beq (zM fz (nb + 8 * i)) 0 && Sl cx.np op wr))=true) (k:Chain (E4 P cx fz) ops Rt nb (Ft (i + 1) l) ((i,false,nb + 8 * i,rd,wr) :: lg) (σ.app dst e) Q):Chain (E4 P cx fz) ops Rt nb (Ft i (⟨dst,op,ty,pos,af,g⟩ :: l)) lg σ Q:=by
  simp only [aF5] at hok
  exact Lk G hds h hrd hok.1 k (aFs hok.2.1) hok.2.2
theorem aV8 {R:Type} {p a b':tN} [Two p a b'] {b:Bool} {X Y:Option R} {r:R} {m:List (Nat×Oper)} (h1:Fu a->b=true->X=some r->Chain (E4 P cx fz) ops Rt nb m lg σ Q) (h2:Fu b'->b=false->Y=some r->Chain (E4 P cx fz) ops Rt nb m lg σ Q) (G:cond b X Y=some r) (_:Fu p):Chain (E4 P cx fz) ops Rt nb m lg σ Q:=by
  rcases bc_ G with ⟨h,G⟩ | ⟨h,G⟩
  · exact h1 trivial h G
  · exact h2 trivial h G
section
variable {f:FuncId} {xs:Array Operand} {tys:Array TypeId} {dsA:List (DV×Option LB)} {args:List DV} {bx:List LB} {d:DV} {b:List LB} {p:Nat} {s:Prop} {t:Tmp} {q:Option LB} {n:Nat} {cs:List DV}
theorem aWs [W:Wk f] (k:W.s->Chain (E4 P cx fz) ops Rt nb (Ft i (⟨dst,.call ⟨.value (.func f),xs,tys⟩,ty,pos,af,g⟩ :: l)) lg σ Q):Chain (E4 P cx fz) ops Rt nb (Ft i (⟨dst,.call ⟨.value (.func f),xs,tys⟩,ty,pos,af,g⟩ :: l)) lg σ Q:=k W.h
theorem aV4 (hc:ev σ true (.tmp t)=some (.val (.func (.func f) #[] #[]),q)) [W:Wk f] (k:W.s->Chain (E4 P cx fz) ops Rt nb (Ft i (⟨dst,.call ⟨.value (.tmp t),xs,tys⟩,ty,pos,af,g⟩ :: l)) lg σ Q):Chain (E4 P cx fz) ops Rt nb (Ft i (⟨dst,.call ⟨.value (.tmp t),xs,tys⟩,ty,pos,af,g⟩ :: l)) lg σ Q:=k W.h
theorem aB0 (hF:Fn P f 0 args [] (fun d' b'=>d'=d/\b'=[])) (hds:Gk σ true xs.toList=some dsA) (hA:H1 false ([] ++ []) (Kz σ []) (dsA.map (·.1)) args) (G:Ly ops σ ⟨dst,.call ⟨.value (.func f),xs,tys⟩,ty,pos,af,g⟩=some true)
    (hrd:Ss σ 3 (Tz dsA)=[]) (hok:Nj Rt i true (nb + 8 * i) [] [] lg=true) (hr:K0 d=[]) (k:Chain (E4 P cx fz) ops Rt nb (Ft (i + 1) l) ((i,true,nb + 8 * i,[],[]) :: lg) (σ.app dst (fI [] [] d [])) Q) :
    Chain (E4 P cx fz) ops Rt nb (Ft i (⟨dst,.call ⟨.value (.func f),xs,tys⟩,ty,pos,af,g⟩ :: l)) lg σ Q:=
  P9 hF k hds hA G hrd hok hr
theorem aWk (hF:Fn P f 0 args [] (fun d' b'=>d'=d/\b'=[])) (hc:ev σ true (.tmp t)=some (.val (.func (.func f) #[] #[]),q)) (hds:Gk σ true xs.toList=some dsA) (hA:H1 false ([] ++ []) (Kz σ []) (dsA.map (·.1)) args) (G:Ly ops σ ⟨dst,.call ⟨.value (.tmp t),xs,tys⟩,ty,pos,af,g⟩=some true)
    (hrd:Ss σ 3 (Tz dsA)=[]) (hok:Nj Rt i true (nb + 8 * i) [] [] lg=true) (hr:K0 d=[]) (k:Chain (E4 P cx fz) ops Rt nb (Ft (i + 1) l) ((i,true,nb + 8 * i,[],[]) :: lg) (σ.app dst (fI [] [] d [])) Q) :
    Chain (E4 P cx fz) ops Rt nb (Ft i (⟨dst,.call ⟨.value (.tmp t),xs,tys⟩,ty,pos,af,g⟩ :: l)) lg σ Q:=
  U8 (rd:=[]) (ps:=[]) (gs:=[]) false G hc hF hds hrd hA rfl rfl (fun h=>by cases h) hok hr rfl rfl k
theorem aSz (hF:Fn P f 0 args [] (fun d' b'=>d'=d/\b'=[])) (hc:ev σ true (.tmp t)=some (.clo f n cs,q)) (hds:Gk σ true xs.toList=some dsA) (hA:H1 false ([] ++ []) (Kz σ []) (cs.take n ++ (dsA.map (·.1) ++ cs.drop n)) args) (G:Ly ops σ ⟨dst,.call ⟨.value (.tmp t),xs,tys⟩,ty,pos,af,g⟩=some true)
    (hrd:Ss σ 3 (P0 cs ++ Tz dsA)=[]) (hok:Nj Rt i true (nb + 8 * i) [] [] lg=true) (hr:K0 d=[]) (k:Chain (E4 P cx fz) ops Rt nb (Ft (i + 1) l) ((i,true,nb + 8 * i,[],[]) :: lg) (σ.app dst (fI [] [] d [])) Q) :
    Chain (E4 P cx fz) ops Rt nb (Ft i (⟨dst,.call ⟨.value (.tmp t),xs,tys⟩,ty,pos,af,g⟩ :: l)) lg σ Q:=
  F5 (rd:=[]) (ps:=[]) (gs:=[]) false G hc hF hds hrd hA rfl rfl (fun h=>by cases h) hok hr rfl rfl k
theorem aVo (hF:Fn P f 1 args bx (fun d' b'=>d'=d/\b'=b)) (hds:Gk σ true xs.toList=some dsA) (hrd:Ss σ 3 (Tz dsA)=[p]) (hA:H1 false ([p] ++ []) (Kz σ [p]) (dsA.map (·.1)) args) (hB:Zv false ([p] ++ []) (Kz σ [p]) ([p] ++ []) bx) (G:Ly ops σ ⟨dst,.call ⟨.value (.func f),xs,tys⟩,ty,pos,af,g⟩=some true)
    (hnd:O5 cx.np [p] []=true) (hok:Nj Rt i true (nb + 8 * i) [p] ([p] ++ []) lg=true) (hr:K0 d=[]) (hl:b.length=1) (hb:b.flatMap dR=[]) (k:Chain (E4 P cx fz) ops Rt nb (Ft (i + 1) l) ((i,true,nb + 8 * i,[p],[p] ++ []) :: lg) (σ.app dst (fI [p] [] d b)) Q) :
    Chain (E4 P cx fz) ops Rt nb (Ft i (⟨dst,.call ⟨.value (.func f),xs,tys⟩,ty,pos,af,g⟩ :: l)) lg σ Q:=
  kX (rd:=[p]) (ps:=[p]) (gs:=[]) false G hF hds hrd hA hB hnd (fun h=>by cases h) hok hr hl hb k
end
section
variable {α:Type} {f:α->List C} {L:List α} {a:α} {n:Int} {m:Nat} {t:TypeId} {X:Operand}
theorem aWx {b1:Option LB} {cs:List C} [T:M3 P t true m] (hds:Gk σ true [X]=some [(.elt ((Ac f L).drop (n.toNat * m)),b1)]) (E:O2 f m) (he:Bn L n=some a) (hc:f a=cs) (G:Ly ops σ ⟨dst,.load t X,ty,pos,af,g⟩=some true)
    (hok:Nj Rt i false (nb + 8 * i) [] [] lg=true) (hz:zM fz (nb + 8 * i)=0) (hap:Sl cx.np (.load t X) []=true) (k:Chain (E4 P cx fz) ops Rt nb (Ft (i + 1) l) ((i,false,nb + 8 * i,[],[]) :: lg) (σ.app dst (v0 (.agg (cs.map Wx)))) Q):Chain (E4 P cx fz) ops Rt nb (Ft i (⟨dst,.load t X,ty,pos,af,g⟩ :: l)) lg σ Q:=
  lE_ he k hds E hc G hok hz hap
theorem aVp {b1:Option LB} {c:C} {sz:Nat} [T:M3 P t false sz] (hds:Gk σ true [X]=some [(.elt ((Ac f L).drop (n.toNat * 1)),b1)]) (E:O2 f 1) (he:Bn L n=some a) (hc:f a=[c]) (G:Ly ops σ ⟨dst,.load t X,ty,pos,af,g⟩=some true)
    (hok:Nj Rt i false (nb + 8 * i) [] [] lg=true) (hz:zM fz (nb + 8 * i)=0) (hap:Sl cx.np (.load t X) []=true) (k:Chain (E4 P cx fz) ops Rt nb (Ft (i + 1) l) ((i,false,nb + 8 * i,[],[]) :: lg) (σ.app dst (v0 (Wx c))) Q):Chain (E4 P cx fz) ops Rt nb (Ft i (⟨dst,.load t X,ty,pos,af,g⟩ :: l)) lg σ Q:=
  l1_ he k hds E hc G hok hz hap
theorem aW8 {kr e':Nat} {cs:List C} [T:M3 P t true m] (hds:Gk σ true [X]=some [(.ptr kr (n.toNat * m),some (.row e' m (Ac f L)))]) (E:O2 f m) (he:Bn L n=some a) (hc:f a=cs) (G:Ly ops σ ⟨dst,.load t X,ty,pos,af,g⟩=some true)
    (hok:Nj Rt i false (nb + 8 * i) [kr] [] lg=true) (hz:zM fz (nb + 8 * i)=0) (hap:Sl cx.np (.load t X) []=true) (k:Chain (E4 P cx fz) ops Rt nb (Ft (i + 1) l) ((i,false,nb + 8 * i,[kr],[]) :: lg) (σ.app dst (v0 (.agg (cs.map Wx)))) Q):Chain (E4 P cx fz) ops Rt nb (Ft i (⟨dst,.load t X,ty,pos,af,g⟩ :: l)) lg σ Q:=
  lR_ he k hds E hc G hok hz hap
end
end
section
variable {P:Program} {cx:Cx} {ops:Array Oper} {Rt:Option (List Nat)} {nb i:Nat} {l:List Oper} {lg lg':pF} {σ σ':St} {Q:St->Prop} {fz:List Nat} {m':List (Nat×Oper)}
theorem aUy {p:Prop} (h:p:=by
    repeat first
      | (apply Gm.move; exact rfl; exact Mi; exact rfl)
      | (apply Gm.assign; exact rfl; exact Mi; exact rfl)
      | (apply Gm.fieldP; exact rfl; (exact rfl); exact Mi; exact rfl)
      | (apply Gm.load1; exact rfl; (exact rfl); exact Mi; exact rfl)
      | (apply Gm.loadA; exact rfl; (exact rfl); exact Mi; exact rfl)
      | (apply Gm.pickF; exact rfl; (first | with_reducible assumption | with_reducible rfl | with_reducible exact kE (by with_reducible assumption)); exact Mi; exact rfl)
      | (apply Gm.pickT; exact rfl; (first | with_reducible assumption | with_reducible rfl | with_reducible exact iQ (by with_reducible assumption)); exact Mi; exact rfl)
      | (apply Gm.k; (first | exact aDd rfl rfl (by first | with_reducible assumption | with_reducible rfl | with_reducible exact kE (by with_reducible assumption) | with_reducible exact iQ (by with_reducible assumption)) | exact aDy rfl rfl (by first | with_reducible assumption | with_reducible rfl | with_reducible exact kE (by with_reducible assumption) | with_reducible exact iQ (by with_reducible assumption)) | exact aKk rfl rfl); exact rfl)
      | (apply Gm.storeB; exact rfl; (exact rfl); (exact rfl); (exact rfl); (focus repeat first | exact (rfl:_=[]) | (apply aL1; exact rfl)); (first | exact (rfl:_=[_]) | exact (rfl:_=[_,_]) | exact (rfl:_=[_,_,_])); exact Mi; exact rfl)
      | (apply Gm.extract; exact rfl; (exact rfl); exact Mi; exact rfl)
      | (apply Gm.lss; exact rfl; exact Mi; exact rfl)
      | (apply Gm.eql; exact rfl; exact Mi; exact rfl)
      | (apply Gm.gtr; exact rfl; exact Mi; exact rfl)
      | (apply Gm.leq; exact rfl; exact Mi; exact rfl)
      | (apply Gm.geq; exact rfl; exact Mi; exact rfl)
      | (apply Gm.neq; exact rfl; exact Mi; exact rfl)
      | (apply Gm.seql; exact rfl; exact Mi; exact rfl)
      | (apply Gm.sneq; exact rfl; exact Mi; exact rfl)
      | (apply Gm.add; exact rfl; exact Mi; exact rfl)
      | (apply Gm.sub; exact rfl; exact Mi; exact rfl)
      | (apply Gm.mul; exact rfl; exact Mi; exact rfl)
      | (apply Gm.alloc; exact rfl; exact Mi; exact rfl)
      | (apply Gm.box; exact rfl; (exact rfl); exact Mi; exact rfl)
      | (apply Gm.not; exact rfl; exact Mi; exact rfl)
      | (apply Gm.lenS; exact rfl; (exact inferInstance); exact Mi; exact rfl)
      | (apply Gm.lenR; exact rfl; (exact inferInstance); exact Mi; exact rfl)
      | (apply Gm.nilP; exact rfl; exact Mi; exact rfl)
      | (apply Gm.nilE; exact rfl; exact Mi; exact rfl)
      | (apply Gm.field1; exact rfl; (exact rfl); exact Mi; exact rfl)
      | (apply Gm.fieldA; exact rfl; exact Mi; exact rfl)
      | (apply Gm.makeF; exact rfl; exact Mi; exact rfl)
    exact Gm.z):p:=h
theorem lB {m:List (Nat×Oper)} (k:Chain (E4 P cx fz) ops Rt nb m' lg' σ' Q) (h:Gm P cx fz ops Rt nb m lg σ m' lg' σ':=by exact aUy):Chain (E4 P cx fz) ops Rt nb m lg σ Q:=h Q k
end
theorem aBq {p:Prop} (h:p:=by
    repeat' first
      | exact H1.nil
      | exact Ag.val
      | exact Ag.sl
      | exact Ag.nils
      | exact Ag.elt
      | exact Ag.fn
      | exact Ag.ptr rfl
      | exact Ag.rowK rfl
      | exact Ag.row rfl (by repeat first | exact List.Mem.head _ | refine List.Mem.tail _ ?_) rfl
      | refine Ag.agg ?_
      | refine Ag.clo ?_
      | refine H1.cons ?_ ?_
    first | done | fail):p:=h
theorem bx_ {p:Prop} (h:p:=by
    repeat' first
      | exact (rfl:_=[])
      | refine⟨_,_,_,rfl,(.head _),⟨_,rfl,?_⟩,?_⟩
      | refine⟨_,_,_,rfl,(.tail _ (.head _)),⟨_,rfl,?_⟩,?_⟩
      | refine⟨_,_,_,rfl,(.head _),rfl,?_⟩
      | refine⟨_,_,_,rfl,(.tail _ (.head _)),rfl,?_⟩
      | exact H1.nil
      | exact Ag.val
      | exact Ag.sl
      | exact Ag.nils
      | exact Ag.elt
      | exact Ag.ptr rfl
      | refine H1.cons ?_ ?_
    first | done | fail):p:=h
theorem Tx {cx:Cx} {σ:St} {fl:List (Nat×DV)} {ll:List (Nat×LB)} {n:Nat} (k:Nat) (h0:Nat.beq k n=true) (h:Rs cx σ (mk fl ll n)):Rs cx σ (mk fl ll n):=h
theorem su_ {p:Prop} (h:p:=by first | exact Tx 0 rfl (B5 []) | exact Tx 1 rfl (B5 [(0,0)]) | exact Tx 1 rfl (B5 [(0,_)]) | exact Tx 2 rfl (B5 [(0,0),(1,_)]) | exact Tx 2 rfl (B5 [(0,0),(1,1)]) | exact Tx 2 rfl (B5 [(0,_),(1,_)]) | exact Tx 3 rfl (B5 [(0,0),(1,_),(2,_)]) | exact Tx 3 rfl (B5 [(0,0),(1,1),(2,2)]) | exact Tx 3 rfl (B5 [(0,0),(1,1),(2,_)]) | exact Tx 3 rfl (B5 [(0,_),(1,_),(2,_)]) | exact Tx 4 rfl (B5 [(0,0),(1,_),(2,_),(3,_)]) | exact Tx 4 rfl (B5 [(0,0),(1,1),(2,2),(3,3)]) | exact Tx 4 rfl (B5 [(0,0),(1,1),(2,2),(3,_)]) | exact Tx 4 rfl (B5 [(0,0),(1,1),(2,_),(3,_)]) | exact Tx 4 rfl (B5 [(0,_),(1,_),(2,_),(3,_)]) | exact Tx 5 rfl (B5 [(0,0),(1,_),(2,_),(3,_),(4,_)]) | exact Tx 5 rfl (B5 [(0,0),(1,1),(2,2),(3,3),(4,4)]) | exact Tx 5 rfl (B5 [(0,0),(1,1),(2,2),(3,3),(4,_)]) | exact Tx 5 rfl (B5 [(0,0),(1,1),(2,2),(3,_),(4,_)]) | exact Tx 5 rfl (B5 [(0,0),(1,1),(2,_),(3,_),(4,_)]) | exact Tx 5 rfl (B5 [(0,_),(1,_),(2,_),(3,_),(4,_)]) | exact Tx 6 rfl (B5 [(0,0),(1,_),(2,_),(3,_),(4,_),(5,_)]) | exact Tx 6 rfl (B5 [(0,0),(1,1),(2,2),(3,3),(4,4),(5,5)]) | exact Tx 6 rfl (B5 [(0,0),(1,1),(2,2),(3,3),(4,4),(5,_)]) | exact Tx 6 rfl (B5 [(0,0),(1,1),(2,2),(3,3),(4,_),(5,_)]) | exact Tx 6 rfl (B5 [(0,0),(1,1),(2,2),(3,_),(4,_),(5,_)]) | exact Tx 6 rfl (B5 [(0,0),(1,1),(2,_),(3,_),(4,_),(5,_)]) | exact Tx 6 rfl (B5 [(0,_),(1,_),(2,_),(3,_),(4,_),(5,_)]) | exact Tx 7 rfl (B5 [(0,0),(1,_),(2,_),(3,_),(4,_),(5,_),(6,_)]) | exact Tx 7 rfl (B5 [(0,0),(1,1),(2,2),(3,3),(4,4),(5,5),(6,6)]) | exact Tx 7 rfl (B5 [(0,0),(1,1),(2,2),(3,3),(4,4),(5,5),(6,_)]) | exact Tx 7 rfl (B5 [(0,0),(1,1),(2,2),(3,3),(4,4),(5,_),(6,_)]) | exact Tx 7 rfl (B5 [(0,0),(1,1),(2,2),(3,3),(4,_),(5,_),(6,_)]) | exact Tx 7 rfl (B5 [(0,0),(1,1),(2,2),(3,_),(4,_),(5,_),(6,_)]) | exact Tx 7 rfl (B5 [(0,0),(1,1),(2,_),(3,_),(4,_),(5,_),(6,_)]) | exact Tx 7 rfl (B5 [(0,_),(1,_),(2,_),(3,_),(4,_),(5,_),(6,_)]) | exact Tx 8 rfl (B5 [(0,0),(1,_),(2,_),(3,_),(4,_),(5,_),(6,_),(7,_)]) | exact Tx 8 rfl (B5 [(0,0),(1,1),(2,2),(3,3),(4,4),(5,5),(6,6),(7,7)]) | exact Tx 8 rfl (B5 [(0,0),(1,1),(2,2),(3,3),(4,4),(5,5),(6,6),(7,_)]) | exact Tx 8 rfl (B5 [(0,0),(1,1),(2,2),(3,3),(4,4),(5,5),(6,_),(7,_)]) | exact Tx 8 rfl (B5 [(0,0),(1,1),(2,2),(3,3),(4,4),(5,_),(6,_),(7,_)]) | exact Tx 8 rfl (B5 [(0,0),(1,1),(2,2),(3,3),(4,_),(5,_),(6,_),(7,_)]) | exact Tx 8 rfl (B5 [(0,0),(1,1),(2,2),(3,_),(4,_),(5,_),(6,_),(7,_)]) | exact Tx 8 rfl (B5 [(0,0),(1,1),(2,_),(3,_),(4,_),(5,_),(6,_),(7,_)]) | exact Tx 8 rfl (B5 [(0,_),(1,_),(2,_),(3,_),(4,_),(5,_),(6,_),(7,_)]) | fail):p:=h
theorem op_ {p:Prop} (h:p:=by
    first
      | exact aSd (by exact rfl) inferInstance (by with_reducible assumption) (by exact rfl)
      | exact aQ3 (by exact rfl) inferInstance (by with_reducible assumption) (by exact rfl)
      | exact aTf inferInstance (by with_reducible assumption) (by exact rfl)
      | exact aTx inferInstance (by with_reducible assumption) (by exact nl_) (by exact rfl)
      | exact aTn inferInstance (by with_reducible assumption) (by exact rfl)
      | exact aSe inferInstance (by with_reducible assumption) (by exact rfl)
      | exact uU Wg.h Wg.h
      | exact mJ Wg.h Wg.h
      | exact Ya Wg.h Wg.h
      | exact aJs Wg.h Wg.h
      | exact aJg Wg.h Wg.h Wg.h
      | exact aLk
      | exact aB9
      | exact uZ
      | exact mC
      | exact cI Wg.h
      | exact aNa
      | exact aP1 Wg.h
      | exact aPh Wg.h
      | exact aSc
      | exact aRe
      | fail):p:=h
theorem aVe {p:Prop} (h:p:=by
    first
      | exact aT2 inferInstance hy
      | exact aR3 inferInstance hy
      | exact Od Up.h O2.h .row rfl .sl rfl hy rfl
      | exact Od Up.h O2.h .row rfl .row rfl hy rfl
      | exact Od Up.h O2.h .nil rfl .sl rfl hy rfl
      | exact Od Up.h O2.h .nil rfl .row rfl hy rfl
      | exact aSm hy
      | exact aQq hy
      | exact jE hy
      | exact Zx hy
      | exact dU Wg.h hy
      | exact aQn hy
      | exact yS Up.h O2.h hy
      | exact aAt Up.h O2.h hy
      | exact aAx Up.h O2.h hy
      | exact mY Up.h O2.h hy
      | fail):p:=h
theorem aWy {p:Prop} (h:p:=by
    first
      | exact aT2 inferInstance (by with_reducible assumption)
      | exact aR3 inferInstance (by with_reducible assumption)
      | fail):p:=h
theorem wM {p:Prop} (h:p:=by
    intro hk hq _
    have G:=G
    try have B:=B
    try ((with_reducible refine isC ?_); refine lB ?_)
    repeat' first
      | (with_reducible refine isC ?_
         first
          | ((apply Xu); (try clear B); intro B)
          | (replace hk:=Fu.dec hk
             (with_reducible replace G:=Af G)
             obtain⟨_,hy,G⟩:=G
             first
              | (apply aWs; intro hw; (first | (apply aB0 (hw hy); exact rfl; exact aBq; exact Mi; exact rfl; exact rfl; exact rfl) | (apply aVo (hw hy); exact rfl; exact rfl; exact aBq; exact bx_; exact Mi; exact rfl; exact rfl; exact rfl; exact rfl; exact rfl)); clear hw)
              | (apply aV4; exact rfl; intro hw; apply aWk (hw hy); exact rfl; exact rfl; exact aBq; exact Mi; exact rfl; exact rfl; exact rfl; clear hw)
              | ((first | apply aB0 (hrec hy) | apply aB0 (hrec _ hy) | apply aB0 (hrec _ _ hy) | apply aB0 (hrec _ _ _ hy)); exact rfl; exact aBq; exact Mi; exact rfl; exact rfl; exact rfl)
              | ((first | apply aSz (hf _ _ hy) | apply aSz (hf _ _ _ hy)); exact rfl; exact rfl; exact aBq; exact Mi; exact rfl; exact rfl; exact rfl)
              | (apply u_s; exact rfl; exact aVe; exact nl_; exact Mi; exact rfl)
             refine lB ?_)
          | (apply u_s; exact rfl; exact aWy; exact nl_; exact Mi; exact rfl; refine lB ?_)
          | (replace hk:=Fu.dec hk; apply aVp; exact rfl; exact inferInstance; (with_reducible assumption); exact rfl; exact Mi; exact rfl; exact rfl; exact rfl; refine lB ?_)
          | (replace hk:=Fu.dec hk; apply aWx; exact rfl; exact inferInstance; (with_reducible assumption); exact nl_; exact Mi; exact rfl; exact rfl; exact rfl; refine lB ?_)
          | (replace hk:=Fu.dec hk; apply aW8; exact rfl; exact inferInstance; (with_reducible assumption); exact nl_; exact Mi; exact rfl; exact rfl; exact rfl; refine lB ?_)
          | (replace hk:=Fu.dec hk; apply u_s; exact rfl; exact op_; exact nl_; exact Mi; exact rfl; refine lB ?_)
          | ((with_reducible replace G:=isB G); revert hk; revert G; refine aV8 (fun hk _ G=>?_) fun hk _ G=>?_; (all_goals refine lB ?_)))
      | (with_reducible refine isA ?_
         first
          | (replace hk:=Fu.dec hk
             first
              | (apply aVt; (first | exact Gu | with_reducible assumption); ((try simp only [↓aP9,↓bCo,Nat.reduceAdd,Nat.reduceMul]); exact rfl); exact rfl; refine lB ?_)
              | (apply aWc; (first | exact Gu | with_reducible assumption); ((try simp only [↓aP9,↓bCo,Nat.reduceAdd,Nat.reduceMul]); exact rfl); exact rfl; refine lB ?_)
              | apply Ar
              | apply Da
              | refine Ts ?_
              | refine iC ?_
              | refine tQ ?_)
          | ((with_reducible replace G:=isB G); revert hk; revert G; refine aW4 rfl (fun hk _ G=>?_) fun hk _ G=>?_))
      | ((with_reducible replace G:=isU G); replace G:=Lt G (by with_reducible assumption))
      | ((with_reducible refine isE ?_)
         first
          | ((with_reducible refine⟨(_,_,_,_,_,_,_),G,?_⟩); exact su_)
          | ((with_reducible refine⟨(_,_,_,_,_,_),G,?_⟩); exact su_)
          | ((with_reducible refine⟨(_,_,_,_,_),G,?_⟩); exact su_)
          | ((with_reducible refine⟨(_,_,_,_),G,?_⟩); exact su_)
          | ((with_reducible refine⟨(_,_,_),G,?_⟩); exact su_)
          | ((with_reducible refine⟨(_,_),G,?_⟩); exact su_)
          | ((with_reducible replace G:=oi_ G); clear hq hk; subst G; exact⟨(_,_),aKf _,nx_ (by with_reducible assumption),su_⟩)
          | ((with_reducible refine⟨_,G,?_⟩); exact su_)
          | fail)
      | (clear hq hk; (with_reducible replace G:=oi_ G); subst G; first | exact Q5 [] ⟨rfl,rfl⟩ | exact Q5 [(0,0)] ⟨rfl,rfl⟩ | exact Q5 [(0,_)] ⟨rfl,rfl⟩ | exact Q5 [(0,0),(1,_)] ⟨rfl,rfl⟩ | exact Q5 [(0,0),(1,1)] ⟨rfl,rfl⟩ | exact Q5 [(0,_),(1,_)] ⟨rfl,rfl⟩ | exact Q5 [(0,0),(1,_),(2,_)] ⟨rfl,rfl⟩ | exact Q5 [(0,0),(1,1),(2,2)] ⟨rfl,rfl⟩ | exact Q5 [(0,0),(1,1),(2,_)] ⟨rfl,rfl⟩ | exact Q5 [(0,_),(1,_),(2,_)] ⟨rfl,rfl⟩ | exact Q5 [(0,0),(1,_),(2,_),(3,_)] ⟨rfl,rfl⟩ | exact Q5 [(0,0),(1,1),(2,2),(3,3)] ⟨rfl,rfl⟩ | exact Q5 [(0,0),(1,1),(2,2),(3,_)] ⟨rfl,rfl⟩ | exact Q5 [(0,0),(1,1),(2,_),(3,_)] ⟨rfl,rfl⟩ | exact Q5 [(0,_),(1,_),(2,_),(3,_)] ⟨rfl,rfl⟩ | fail)
    all_goals
      clear hk
      (try replace B:=B)
      replace G:=G
      revert G
      (try revert B)
      repeat (rename_i z; first | exact aVf z hq | revert z)):p:=h
theorem aC3 {p:Prop} (h:p:=by
    intro hk hq hm
    try dsimp only at G
    refine X5 rfl ?_
    revert hk hq hm
    exact wM):p:=h
theorem Cb (n:Nat) {p q:Prop} (k:q) (h:Fu (.e n)->Kq q->Mk->p:=by exact wM):p:=h trivial ⟨k⟩ .mk
theorem Qg (n:tN) {p q:Prop} (k:q) (h:Fu n->Kq q->Mk->p:=by exact wM):p:=h trivial ⟨k⟩ .mk
theorem C6 {p:Prop} (h:Fu (.e 9999)->Kq True->Mk->p:=by exact wM):p:=h trivial ⟨trivial⟩ .mk
theorem Q4 (n:Nat) {p q:Prop} (k:q) (h:Fu (.e n)->Kq q->Mk->p:=by exact aC3):p:=h trivial ⟨k⟩ .mk
theorem E6 (n:tN) {p q:Prop} (k:q) (h:Fu n->Kq q->Mk->p:=by exact aC3):p:=h trivial ⟨k⟩ .mk
theorem Ik {p:Prop} (h:Fu (.e 9999)->Kq True->Mk->p:=by exact aC3):p:=h trivial ⟨trivial⟩ .mk
end Go.Proofs.YtboglmbblmakjaaGreatDoor
