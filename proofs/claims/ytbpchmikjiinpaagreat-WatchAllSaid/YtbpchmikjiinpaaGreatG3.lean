/- Plain texts, joined. No program is in sight here. -/
import Derived.Test.YtbpchmikjiinpaaGreatF5
import Derived.Test.YtbpchmikjiinpaaGreatME
import Derived.KernelRfl
set_option autoImplicit false
set_option linter.unusedVariables false
set_option linter.unusedSimpArgs false
namespace Go.Proofs.YtbpchmikjiinpaaGreat
section
open Go
theorem bO {S R:Type} {body:S->Option (Lp S R)} (n:Nat) (G:Nat->S) (r:Option R) (h1:∀ i,i < n->body (G i)=some (.next (G (i + 1)))) (h2:body (G n)=up r):B2 body (G 0)=r:=by
 have:∀ k,k<=n->B2 body (G 0)=B2 body (G k):=by
  intro k
  induction k with
  | zero=>intro _; rfl
  | succ k ih=>intro hk; rw [ih (by omega)]; exact Fi (h1 k (by omega))
 rw [this n (aHx _)]
 exact Eo h2
def fE (at':Aa) (k:Int) (u:Aq) (n:Int):Aa:=⟨at'.Source,at'.Host,at'.Machine,at'.Day,at'.Confidence,k,at'.Subject,u,n,⟨#[]⟩⟩
def Zc (at':Aa):Aa:=fE at' 4 ⟨0,0⟩ 1
abbrev aEt:=Int×Int×ByteArray×Int×Int×Int×Int×ByteArray×Int×Int×Int×ByteArray×List Aa
def kI (A:Aa) (l:List Aa) (i:Int):aEt:=(i,A.Source,A.Host,A.Machine,A.Day,A.Confidence,A.Kind,A.Subject,A.Use.Alg,A.Use.Bits,A.Number,A.Text,l)
theorem gY (at':Aa) (l:List Aa) (k:Int) (u:Aq) (n:Int) (hl:l.length<=1000):D2 ⟨Zc at',l⟩ k u n=some ⟨Zc at',l ++ [fE at' k u n]⟩:=by
 unfold D2
 rw [Dw (by show (l.length + 1) * 1232<=_; omega)]
 rfl
theorem U8 {α R:Type} (at':Aa) (X:List α) (kd:Int) (us:α->Aq) (nm:α->Int) {body:aEt->Option (Lp aEt R)} {fin:List Aa->Option R}
  (hb:∀ (i:Int) l,body (kI (Zc at') l i)=cond (decide (i < (X.length:Int))) ((Bu X i).bind fun x=>(D2 ⟨Zc at',l⟩ kd (us x) (nm x)).bind fun y=>some (.next (kI y.at_ y.l (W (i + 1))))) (up (fin l)))
  (l:List Aa) (hl:l.length + X.length<=1000):B2 body (kI (Zc at') l 0)=fin (l ++ X.map fun x=>fE at' kd (us x) (nm x)):=by
 refine (bO (body:=body) X.length (fun i=>kI (Zc at') (l ++ (X.take i).map fun x=>fE at' kd (us x) (nm x)) (i:Int)) (fin (l ++ X.map fun x=>fE at' kd (us x) (nm x))) (fun i hi=>?_) ?_).symm.symm.trans rfl |> (fun h=>by simpa [kI] using h)
 ·obtain⟨x,hx⟩:∃ x,X[i]?=some x:=⟨_,aBx hi⟩
  rw [hb,Er hx,gY _ _ _ _ _ (by rw [aDd,aSp,aFl]; omega),aAc,Fm (by omega),Fl hx,aQj,aLp]
  rfl
 ·rw [hb,De,aLc]
def yS (at':Aa) (e:Ad):List Aa:=
 ((([fE at' 5 ⟨0,0⟩ e.Least,fE at' 4 ⟨0,0⟩ e.Most] ++ e.Suites.map fun n=>fE at' 2 ⟨0,0⟩ n) ++ e.Identities.map fun x=>fE at' 3 x.Key x.KeyId) ++ e.Anchors.map fun n=>fE at' 6 ⟨0,0⟩ n) ++ e.Hashes.map fun n=>fE at' 1 ⟨n,0⟩ 0
structure Jl (e:Ad):Prop where
 suites:e.Suites.length<=50
 ids:e.Identities.length<=50
 anchors:e.Anchors.length<=50
 hashes:e.Hashes.length<=50
theorem iX {at':Aa} (h:Jz at') (k:Int) (u:Aq) (n:Int):Jz (fE at' k u n):=⟨h.host,h.subj,by show (0:Nat)<=_; omega⟩
theorem gI {at':Aa} (h:Jz at') (e:Ad):∀ f∈yS at' e,Jz f:=by
 intro f hf
 have:∃ k u n,f=fE at' k u n:=by
  unfold yS at hf
  simp only [aHz,aC6,aD5,aLd,aLl] at hf
  rcases hf with (((((rfl | rfl) | ⟨_,-,rfl⟩) | ⟨_,-,rfl⟩) | ⟨_,-,rfl⟩) | ⟨_,-,rfl⟩) <;> exact⟨_,_,_,rfl⟩
 obtain⟨k,u,n,rfl⟩:=this
 exact iX h k u n
theorem gQ (at':Aa) {e:Ad} (h:Jl e):(yS at' e).length<=202:=by
 have h1:=h.suites
 have h2:=h.ids
 have h3:=h.anchors
 have h4:=h.hashes
 unfold yS
 simp only [aDd,aSp,aLg,aTd]
 omega
noncomputable def I6 (at':Aa) (e:Ad):List Aa×Int:=
 bif Rp (Zc at') then ([],24) else bif decide (Bq e=some 0) then Qv (yS at' e) else ([],19)
theorem aAs {at':Aa} (h:Jz at'):Ll at'=some (⟨Zc at',[]⟩,Tl (Zc at')):=by
 have:=We (iX h 4 ⟨0,0⟩ 1)
 unfold Ll
 show ((Br (Zc at')).bind _)=_
 rw [show Br (Zc at')=_ from this]
 rfl
theorem aAh {f:Aa} (h:Rp f=false):Tl f=0:=by
 unfold Rp at h
 simpa using h
theorem rM {at':Aa} (h:Jz at') {e:Ad} (he:Mu e) (hf:Jl e):Bm at' e=some (I6 at' e):=by
 have h1:=hf.suites
 have h2:=hf.ids
 have h3:=hf.anchors
 have h4:=hf.hashes
 unfold Bm I6
 rw [aAs h,aAc]
 cases hb:Rp (Zc at') with
 | true=>
  rw [Wn hb]
  rfl
 | false=>
  rw [aAh hb]
  obtain⟨c,hc,hcv⟩:=K5 he
  rw [hc]
  show Bm.j1 e _ c=_
  unfold Bm.j1
  rw [aCv]
  rcases hcv with ⟨rfl,-⟩ | ⟨rfl,-⟩
  ·rw [aBe rfl,aBe rfl,aLb,aCv,aDb]
   show ((D2 ⟨Zc at',[]⟩ 5 ⟨0,0⟩ e.Least).bind _)=_
   rw [gY _ _ _ _ _ (aI3 _),aAc,gY _ _ _ _ _ (by show (1:Nat)<=1000; omega),aAc]
   refine (U8 at' e.Suites 2 (fun _=>⟨0,0⟩) (fun n=>n) (fin:=fun l=>B2 (fun q'=>Bm.l3 e q'.1 q'.2.1 q'.2.2.1 q'.2.2.2.1 q'.2.2.2.2.1 q'.2.2.2.2.2.1 q'.2.2.2.2.2.2.1 q'.2.2.2.2.2.2.2.1 q'.2.2.2.2.2.2.2.2.1 q'.2.2.2.2.2.2.2.2.2.1 q'.2.2.2.2.2.2.2.2.2.2.1 q'.2.2.2.2.2.2.2.2.2.2.2.1 q'.2.2.2.2.2.2.2.2.2.2.2.2) (kI (Zc at') l 0)) (fun i l=>rfl) _ (by simp; omega)).trans ?_
   refine (U8 at' e.Identities 3 (fun x=>x.Key) (fun x=>x.KeyId) (fin:=fun l=>B2 (fun q'=>Bm.l4 e q'.1 q'.2.1 q'.2.2.1 q'.2.2.2.1 q'.2.2.2.2.1 q'.2.2.2.2.2.1 q'.2.2.2.2.2.2.1 q'.2.2.2.2.2.2.2.1 q'.2.2.2.2.2.2.2.2.1 q'.2.2.2.2.2.2.2.2.2.1 q'.2.2.2.2.2.2.2.2.2.2.1 q'.2.2.2.2.2.2.2.2.2.2.2.1 q'.2.2.2.2.2.2.2.2.2.2.2.2) (kI (Zc at') l 0)) (fun i l=>rfl) _ (by simp; omega)).trans ?_
   refine (U8 at' e.Anchors 6 (fun _=>⟨0,0⟩) (fun n=>n) (fin:=fun l=>B2 (fun q'=>Bm.l5 e q'.1 q'.2.1 q'.2.2.1 q'.2.2.2.1 q'.2.2.2.2.1 q'.2.2.2.2.2.1 q'.2.2.2.2.2.2.1 q'.2.2.2.2.2.2.2.1 q'.2.2.2.2.2.2.2.2.1 q'.2.2.2.2.2.2.2.2.2.1 q'.2.2.2.2.2.2.2.2.2.2.1 q'.2.2.2.2.2.2.2.2.2.2.2.1 q'.2.2.2.2.2.2.2.2.2.2.2.2) (kI (Zc at') l 0)) (fun i l=>rfl) _ (by simp; omega)).trans ?_
   refine (U8 at' e.Hashes 1 (fun n=>⟨n,0⟩) (fun _=>0) (fin:=fun l=>(Ex l).bind fun y=>some (y.1,y.2)) (fun i l=>rfl) _ (by simp; omega)).trans ?_
   show ((Ex (yS at' e)).bind _)=_
   rw [aJ8 _ (by have:=gQ at' hf; exact aK7 this (by omega)) (gI h e)]
   rfl
  ·rfl
end
section
open Go
def BtV (lo hi:Int) (l:List Int) (i:Nat):Prop:=∀ x,l[i]?=some x->(lo<=x/\x<=hi)/\x∉l.take i
theorem BtV.out {lo hi:Int} {l:List Int} {i:Nat} (h:l.length<=i):BtV lo hi l i:=fun x hx=>by have:=Il hx; omega
end
section
open Go
theorem tG.few {name:ByteArray} {e:Ad} (h:tG name e):Jl e:=by
 have h1:=h.sn
 have h2:=h.idn
 have ha:=h.anchors
 have hh:=h.hashes
 unfold aHl at ha
 unfold aGl at hh
 simp only [aC6,aD5,aLd] at ha hh
 refine⟨by omega,by omega,?_,?_⟩
 ·rcases ha with e | e | e | e | e <;> rw [e] <;> decide
 ·rcases hh with e | e | e <;> rw [e] <;> decide
end
end Go.Proofs.YtbpchmikjiinpaaGreat
