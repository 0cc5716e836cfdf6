/- Plain texts, joined. No program is in sight here. -/
import Derived.Test.YtkoflhimdenjaaaGreatF5
import Derived.Test.YtkoflhimdenjaaaGreatME
import Derived.KernelRfl
set_option autoImplicit false
set_option linter.unusedVariables false
set_option linter.unusedSimpArgs false
namespace Go.Proofs.YtkoflhimdenjaaaGreat
section
open Go
theorem lW {S R:Type} {body:S->Option (Lp S R)} (n:Nat) (G:Nat->S) (r:Option R) (h1:∀ i,i < n->body (G i)=some (.next (G (i + 1)))) (h2:body (G n)=up r):Cp body (G 0)=r:=by
 have:∀ k,k<=n->Cp body (G 0)=Cp body (G k):=by
  intro k
  induction k with
  | zero=>intro _; rfl
  | succ k ih=>intro hk; rw [ih (by omega)]; exact Fl (h1 k (by omega))
 rw [this n (aHl _)]
 exact Et h2
def Ps (at':Aa) (k:Int) (u:Ar) (n:Int):Aa:=⟨at'.Source,at'.Host,at'.Machine,at'.Day,at'.Confidence,k,at'.Subject,u,n,⟨#[]⟩⟩
def gQ (at':Aa):Aa:=Ps at' 4 ⟨0,0⟩ 1
abbrev aDi:=Int×Int×ByteArray×Int×Int×Int×Int×ByteArray×Int×Int×Int×ByteArray×List Aa
def iB (A:Aa) (l:List Aa) (i:Int):aDi:=(i,A.Source,A.Host,A.Machine,A.Day,A.Confidence,A.Kind,A.Subject,A.Use.Alg,A.Use.Bits,A.Number,A.Text,l)
theorem eP (at':Aa) (l:List Aa) (k:Int) (u:Ar) (n:Int) (hl:l.length<=1000):D0 ⟨gQ at',l⟩ k u n=some ⟨gQ at',l ++ [Ps at' k u n]⟩:=by
 unfold D0
 rw [Ek (by show (l.length + 1) * 1232<=_; omega)]
 rfl
theorem T9 {α R:Type} (at':Aa) (X:List α) (kd:Int) (us:α->Ar) (nm:α->Int) {body:aDi->Option (Lp aDi R)} {fin:List Aa->Option R}
  (hb:∀ (i:Int) l,body (iB (gQ at') l i)=cond (decide (i < (X.length:Int))) ((B5 X i).bind fun x=>(D0 ⟨gQ at',l⟩ kd (us x) (nm x)).bind fun y=>some (.next (iB y.at_ y.l (W (i + 1))))) (up (fin l)))
  (l:List Aa) (hl:l.length + X.length<=1000):Cp body (iB (gQ at') l 0)=fin (l ++ X.map fun x=>Ps at' kd (us x) (nm x)):=by
 refine (lW (body:=body) X.length (fun i=>iB (gQ at') (l ++ (X.take i).map fun x=>Ps at' kd (us x) (nm x)) (i:Int)) (fin (l ++ X.map fun x=>Ps at' kd (us x) (nm x))) (fun i hi=>?_) ?_).symm.symm.trans rfl |> (fun h=>by simpa [iB] using h)
 ·obtain⟨x,hx⟩:∃ x,X[i]?=some x:=⟨_,aA9 hi⟩
  rw [hb,Gt hx,eP _ _ _ _ _ (by rw [aEm,aK3,aEl]; omega),aAf,H6 (by omega),Fw hx,aJ3,aJj]
  rfl
 ·rw [hb,E4,aI7]
def bL (at':Aa) (e:Af):List Aa:=
 ((([Ps at' 5 ⟨0,0⟩ e.Least,Ps at' 4 ⟨0,0⟩ e.Most] ++ e.Suites.map fun n=>Ps at' 2 ⟨0,0⟩ n) ++ e.Identities.map fun x=>Ps at' 3 x.Key x.KeyId) ++ e.Anchors.map fun n=>Ps at' 6 ⟨0,0⟩ n) ++ e.Hashes.map fun n=>Ps at' 1 ⟨n,0⟩ 0
structure X8 (e:Af):Prop where
 suites:e.Suites.length<=50
 ids:e.Identities.length<=50
 anchors:e.Anchors.length<=50
 hashes:e.Hashes.length<=50
theorem gB {at':Aa} (h:Vw at') (k:Int) (u:Ar) (n:Int):Vw (Ps at' k u n):=⟨h.host,h.subj,by show (0:Nat)<=_; omega⟩
theorem xT {at':Aa} (h:Vw at') (e:Af):∀ f∈bL at' e,Vw f:=by
 intro f hf
 have:∃ k u n,f=Ps at' k u n:=by
  unfold bL at hf
  simp only [aHm,aDv,aFr,aJh,aIm] at hf
  rcases hf with (((((rfl | rfl) | ⟨_,-,rfl⟩) | ⟨_,-,rfl⟩) | ⟨_,-,rfl⟩) | ⟨_,-,rfl⟩) <;> exact⟨_,_,_,rfl⟩
 obtain⟨k,u,n,rfl⟩:=this
 exact gB h k u n
theorem fV (at':Aa) {e:Af} (h:X8 e):(bL at' e).length<=202:=by
 have h1:=h.suites
 have h2:=h.ids
 have h3:=h.anchors
 have h4:=h.hashes
 unfold bL
 simp only [aEm,aK3,aJg,aLh]
 omega
noncomputable def Y5 (at':Aa) (e:Af):List Aa×Int:=
 bif Xr (gQ at') then ([],24) else bif decide (Br e=some 0) then iI (bL at' e) else ([],19)
theorem wN {at':Aa} (h:Vw at'):Ks at'=some (⟨gQ at',[]⟩,Ur (gQ at')):=by
 have:=aV (gB h 4 ⟨0,0⟩ 1)
 unfold Ks
 show ((Bx (gQ at')).bind _)=_
 rw [show Bx (gQ at')=_ from this]
 rfl
theorem xD {f:Aa} (h:Xr f=false):Ur f=0:=by
 unfold Xr at h
 simpa using h
theorem cT {at':Aa} (h:Vw at') {e:Af} (he:Ze e) (hf:X8 e):Be at' e=some (Y5 at' e):=by
 have h1:=hf.suites
 have h2:=hf.ids
 have h3:=hf.anchors
 have h4:=hf.hashes
 unfold Be Y5
 rw [wN h,aAf]
 cases hb:Xr (gQ at') with
 | true=>
  rw [jD hb]
  rfl
 | false=>
  rw [xD hb]
  obtain⟨c,hc,hcv⟩:=Lq he
  rw [hc]
  show Be.j1 e _ c=_
  unfold Be.j1
  rw [aDk]
  rcases hcv with ⟨rfl,-⟩ | ⟨rfl,-⟩
  ·rw [aAv rfl,aAv rfl,aI6,aDk,aEn]
   show ((D0 ⟨gQ at',[]⟩ 5 ⟨0,0⟩ e.Least).bind _)=_
   rw [eP _ _ _ _ _ (aI3 _),aAf,eP _ _ _ _ _ (by show (1:Nat)<=1000; omega),aAf]
   refine (T9 at' e.Suites 2 (fun _=>⟨0,0⟩) (fun n=>n) (fin:=fun l=>Cp (fun q'=>Be.l3 e q'.1 q'.2.1 q'.2.2.1 q'.2.2.2.1 q'.2.2.2.2.1 q'.2.2.2.2.2.1 q'.2.2.2.2.2.2.1 q'.2.2.2.2.2.2.2.1 q'.2.2.2.2.2.2.2.2.1 q'.2.2.2.2.2.2.2.2.2.1 q'.2.2.2.2.2.2.2.2.2.2.1 q'.2.2.2.2.2.2.2.2.2.2.2.1 q'.2.2.2.2.2.2.2.2.2.2.2.2) (iB (gQ at') l 0)) (fun i l=>rfl) _ (by simp; omega)).trans ?_
   refine (T9 at' e.Identities 3 (fun x=>x.Key) (fun x=>x.KeyId) (fin:=fun l=>Cp (fun q'=>Be.l4 e q'.1 q'.2.1 q'.2.2.1 q'.2.2.2.1 q'.2.2.2.2.1 q'.2.2.2.2.2.1 q'.2.2.2.2.2.2.1 q'.2.2.2.2.2.2.2.1 q'.2.2.2.2.2.2.2.2.1 q'.2.2.2.2.2.2.2.2.2.1 q'.2.2.2.2.2.2.2.2.2.2.1 q'.2.2.2.2.2.2.2.2.2.2.2.1 q'.2.2.2.2.2.2.2.2.2.2.2.2) (iB (gQ at') l 0)) (fun i l=>rfl) _ (by simp; omega)).trans ?_
   refine (T9 at' e.Anchors 6 (fun _=>⟨0,0⟩) (fun n=>n) (fin:=fun l=>Cp (fun q'=>Be.l5 e q'.1 q'.2.1 q'.2.2.1 q'.2.2.2.1 q'.2.2.2.2.1 q'.2.2.2.2.2.1 q'.2.2.2.2.2.2.1 q'.2.2.2.2.2.2.2.1 q'.2.2.2.2.2.2.2.2.1 q'.2.2.2.2.2.2.2.2.2.1 q'.2.2.2.2.2.2.2.2.2.2.1 q'.2.2.2.2.2.2.2.2.2.2.2.1 q'.2.2.2.2.2.2.2.2.2.2.2.2) (iB (gQ at') l 0)) (fun i l=>rfl) _ (by simp; omega)).trans ?_
   refine (T9 at' e.Hashes 1 (fun n=>⟨n,0⟩) (fun _=>0) (fin:=fun l=>(D9 l).bind fun y=>some (y.1,y.2)) (fun i l=>rfl) _ (by simp; omega)).trans ?_
   show ((D9 (bL at' e)).bind _)=_
   rw [aGt _ (by have:=fV at' hf; exact aIp this (by omega)) (xT h e)]
   rfl
  ·rfl
end
section
open Go
def BtV (lo hi:Int) (l:List Int) (i:Nat):Prop:=∀ x,l[i]?=some x->(lo<=x/\x<=hi)/\x∉l.take i
theorem BtV.out {lo hi:Int} {l:List Int} {i:Nat} (h:l.length<=i):BtV lo hi l i:=fun x hx=>by have:=Jo hx; omega
end
section
open Go
theorem aDd {at':Aa} (h:Ur at'=0) {f:Aa} (h1:f.Source=at'.Source) (h2:f.Host=at'.Host) (h3:f.Machine=at'.Machine) (h4:f.Day=at'.Day) (h5:f.Confidence=at'.Confidence) (h6:f.Subject=at'.Subject) (hc:Vg f=true):Ur f=0:=by
 unfold Ur at h ⊢
 rw [h1,h2,h3,h4,h5,h6,hc]
 generalize (F8 at'.Host && (F8 at'.Subject && (decide (0<=at'.Machine) && decide (at'.Machine<=1099511627776))))=a at *
 generalize (decide (0<=at'.Day) && (decide (at'.Day<=40000) && (decide (1<=at'.Confidence) && decide (at'.Confidence<=100))))=b at *
 generalize decide (1<=at'.Source)=c at *
 generalize decide (at'.Source<=7)=d at *
 generalize Vg at'=x at *
 cases a <;> cases b <;> cases c <;> cases d <;> cases x <;> first | rfl | cases h
theorem Lc {at':Aa} (hf:Vw at') (h:Ur at'=0) {k n:Int} {u:Ar} (hc:Vg (Ps at' k u n)=true):Vw (Ps at' k u n)/\Ur (Ps at' k u n)=0:=⟨gB hf k u n,aDd h rfl rfl rfl rfl rfl rfl hc⟩
theorem Y8 (at':Aa) (k n:Int):Vx (Ps at' k ⟨0,0⟩ n)=true:=rfl
theorem aFt (at':Aa) {n:Int} (h:0<=n/\n<=65535):Vg (Ps at' 2 ⟨0,0⟩ n)=true:=by
 show (Vx (Ps at' 2 ⟨0,0⟩ n) && (decide (0<=n) && decide (n<=65535)))=true
 rw [Y8,aAv h.1,aAv h.2]; rfl
theorem mD (at':Aa) {k n:Int} (hk:k=4\/k=5) (h:1<=n/\n<=4):Vg (Ps at' k ⟨0,0⟩ n)=true:=by
 rcases hk with rfl | rfl
 ·show (Vx (Ps at' 4 ⟨0,0⟩ n) && (decide (1<=n) && decide (n<=4)))=true
  rw [Y8,aAv h.1,aAv h.2]; rfl
 ·show (Vx (Ps at' 5 ⟨0,0⟩ n) && (decide (1<=n) && decide (n<=4)))=true
  rw [Y8,aAv h.1,aAv h.2]; rfl
theorem aGj (at':Aa) {n:Int} (h:0<=n/\n<=2147483648):Vg (Ps at' 6 ⟨0,0⟩ n)=true:=by
 show (Vx (Ps at' 6 ⟨0,0⟩ n) && (decide (0<=n) && decide (n<=2147483648)))=true
 rw [Y8,aAv h.1,aAv h.2]; rfl
theorem aG0 (at':Aa) {u:Ar} (h:0 < Pw u):Vg (Ps at' 1 u 0)=true:=by
 unfold Vg
 show (bif decide ((1:Int)=1) || decide ((1:Int)=8) then decide (0 < Pw u) && _ else _)=true
 rw [aAv h]; rfl
theorem aG9 (at':Aa) {u:Ar} {n:Int} (h:Q7 u 2=true) (hn:0<=n/\n<=2147483648):Vg (Ps at' 3 u n)=true:=by
 unfold Q7 at h
 rw [aEw] at h
 have h1:decide (0 < Pw (Ps at' 3 u n).Use)=true:=h.1
 have h2:decide (Px (Ps at' 3 u n).Use.Alg=2)=true:=h.2
 have h3:decide (0<=(Ps at' 3 u n).Number)=true:=aAv hn.1
 have h4:decide ((Ps at' 3 u n).Number<=2147483648)=true:=aAv hn.2
 unfold Vg
 rw [h1,h2,h3,h4]
 rfl
theorem EpM.few {name:ByteArray} {e:Af} (h:EpM name e):X8 e:=by
 have h1:=h.sn
 have h2:=h.idn
 have ha:=h.anchors
 have hh:=h.hashes
 unfold zD at ha
 unfold wV at hh
 simp only [aDv,aFr,aJh] at ha hh
 refine⟨by omega,by omega,?_,?_⟩
 ·rcases ha with e | e | e | e | e <;> rw [e] <;> decide
 ·rcases hh with e | e | e <;> rw [e] <;> decide
end
end Go.Proofs.YtkoflhimdenjaaaGreat
