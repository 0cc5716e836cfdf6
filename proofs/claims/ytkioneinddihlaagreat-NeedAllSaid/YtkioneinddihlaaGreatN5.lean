import Derived.Test.YtkioneinddihlaaGreatN4
import Derived.KernelRfl
set_option autoImplicit false
set_option linter.unusedVariables false
set_option linter.unusedSimpArgs false
namespace Go.Proofs.YtkioneinddihlaaGreat
open Go
def Wr (e:An) (n:Nat) (l:List Ae):Prop:=l.length<=n/\∀ c∈l,Lq e c
theorem Wr.add {e:An} {n n':Nat} {l m:List Ae} (h:Wr e n l) (hn:n + m.length<=n') (hm:∀ c∈m,Lq e c):Wr e n' (l ++ m):=by
 refine⟨by rw [aEq]; have:=h.1; omega,fun c hc=>?_⟩
 rcases aH5.1 hc with hc | hc
 ·exact h.2 c hc
 ·exact hm c hc
theorem Wr.le {e:An} {n n':Nat} {l:List Ae} (h:Wr e n l) (hn:n<=n'):Wr e n' l:=⟨aH4 h.1 hn,h.2⟩
theorem Ww (l:List Int) (n:Int) (h:Lo l):Ok (Hg l n) (fun _=>True):=by
 refine⟨_,(R2 l (fun x=>decide (x=n)) true false h (fun i x hx=>?_) ?_),trivial⟩
 ·show Hg.l1 l n (i:Int)=_
  unfold Hg.l1
  rw [H3 hx]
  cases decide (x=n) <;> rfl
 ·show Hg.l1 l n (l.length:Int)=_
  unfold Hg.l1
  rw [Fz]; rfl
theorem zW {i:Nat} {e:Al} (h:aW i e):Lo e.Suites:=by
 obtain⟨c,hc,own,fall,x,hx,rfl⟩:=h
 have:=(Zf hc).2.1
 show c.2.length < _
 omega
theorem aCb {a:Int} (h:a∈([2,1]:List Int)):Ok (Hr (mM 1) (Av.mk 7 256) 201 a 901) (fun _=>True):=by
 simp only [aE7,aHp,aLl] at h
 exact (Uv (Y8 (by omega)).1 ecU (by omega) (by omega) (by omega)).mono fun _ _=>trivial
def MvQ (e:An) (y:List Ae×Ab):Prop:=Wr e 7 y.1/\Hj y.2
theorem pP {e:An} {k:Int} (hk:0<=k/\k<=100) {d:Ab} (hd:Hj d) {l:List Ae} (hl:Wr e 7 l):Ok (B1 (fun q'=>Au.l14 q'.1 q'.2.1 q'.2.2) (k,d,l)) (MvQ e):=by
 refine Ok.loop (fun s:Int×Ab×List Ae=>(0<=s.1/\s.1<=100)/\Hj s.2.1/\Wr e 7 s.2.2) (fun s=>s.1.toNat) ?_ ⟨hk,hd,hl⟩
 clear hk hd hl
 rintro⟨k,d,l⟩ ⟨hk,hd,hl⟩
 dsimp only at hk hd hl
 show Ok (Au.l14 k d l) _
 unfold Au.l14
 have J:∀ b:Bool,(b=true->0 < k/\1 < l.length)->Ok (Au.j15 k d l b) (S6 (fun s:Int×Ab×List Ae=>((0<=s.1/\s.1<=100)/\Hj s.2.1/\Wr e 7 s.2.2)/\s.1.toNat < k.toNat) (MvQ e)):=by
  intro b hb
  unfold Au.j15
  refine Ok.cond (fun h=>?_) (fun _=>Ok.up (Ok.ret ⟨hl,hd⟩))
  obtain⟨h1,h2⟩:=hb h
  have hlen:=hl.1
  rw [Db (x:=(l.length:Int) - 1) (by omega)]
  refine Ok.bind (D4 hd _ (by omega) (by omega)) fun y hy=>?_
  have hy1:=hy.1
  rw [Db (x:=y.1 + 1) (by omega)]
  refine Ok.bind (Gr (by omega) (by omega)) fun e3 h3=>?_
  refine Ok.bind (Gr (by omega) (by omega)) fun e4 h4=>?_
  refine Ok.bind (Gr (by omega) (by unfold Dj; rw [aOc]; omega)) fun e5 h5=>?_
  rw [Db (x:=k - 1) (by omega)]
  refine Ok.ret ⟨⟨by show 0<=k - 1/\k - 1<=100; omega,hy.2,?_,fun c hc=>?_⟩,by show (k - 1).toNat < k.toNat; omega⟩
  ·show (Dj (Dj l _ _) _ _).length<=7
   unfold Dj
   rw [aOc,aOc]; exact hlen
  ·have hc:c∈Dj (Dj l (y.1).toNat e3) (y.1 + 1).toNat e4:=hc
   unfold Dj at hc
   rcases aPl hc with hc | rfl
   ·rcases aPl hc with hc | rfl
    ·exact hl.2 c hc
    ·exact hl.2 _ h3
   ·exact hl.2 _ h4
 refine Ok.cond (fun hb=>J _ fun h=>⟨aCe hb,by have:=aCe h; omega⟩) (fun _=>J false fun h=>by cases h)
theorem oV {e:An} {d:Ab} (hd:Hj d) {l:List Ae} (hl:Wr e 1000 l):Ok (B1 (fun q'=>Au.l12 d q') l) (MvQ e):=by
 refine Ok.loop (fun s:List Ae=>Wr e 1000 s) (fun s=>s.length) ?_ hl
 clear hl
 intro l hl
 have hlen:=hl.1
 show Ok (Au.l12 d l) _
 unfold Au.l12
 refine Ok.cond (fun hb=>?_) (fun hb=>?_)
 ·have hb:=aCe hb
  rw [Db (x:=(l.length:Int) - 1) (by omega)]
  refine Ok.bind (Ro ⟨aO5 _,by omega,by omega⟩) fun _ _=>?_
  refine Ok.ret ⟨⟨by show (l.take _).length<=1000; rw [aGn]; omega,fun c hc=>hl.2 c (aOs hc)⟩,?_⟩
  show (l.take (((l.length:Int) - 1).toNat - (0:Int).toNat)).length < l.length
  rw [aGn]; omega
 ·have hb:=aDs hb
  refine Ok.up (Ok.bind (D4 hd _ (by omega) (by omega)) fun y hy=>?_)
  exact pP ⟨hy.1.1,by have:=hy.1.2; omega⟩ hy.2 ⟨by omega,hl.2⟩
theorem uG {d:Ab} (hd:Hj d) {e:An} (h:Z5 e):Ok (Au d e) (MvQ e):=by
 have hn2:=h.n2
 unfold Au
 refine Ok.bind (D4 hd _ (by omega) (by omega)) fun y hy=>?_
 refine Ok.bind (D4 hy.2 _ (by omega) (by omega)) fun y2 hy2=>?_
 refine Ok.bind (D4 hy2.2 _ (by omega) (by omega)) fun y3 hy3=>?_
 refine Ok.loop (fun s:Int×Ab×List Ae=>∃ i:Nat,s.1=(i:Int)/\i<=e.Endpoints.length/\Hj s.2.1/\Wr e (6 * i) s.2.2) (fun s=>e.Endpoints.length - s.1.toNat) ?_ ⟨0,rfl,aFf _,hy3.2,aFf _,fun c hc=>by cases hc⟩
 rintro⟨_,d1,l⟩ ⟨i,rfl,hi,hd1,hl⟩
 dsimp only at hd1 hl
 show Ok (Au.l1 e y y2 y3 (i:Int) d1 l) _
 unfold Au.l1
 refine Ok.cond (fun hb=>?_) (fun hb=>?_)
 ·have hil:i < e.Endpoints.length:=by have:=aCe hb; omega
  obtain⟨x,hx⟩:∃ x,e.Endpoints[i]?=some x:=⟨_,aAy hil⟩
  have hx1:=h.eps i x hx
  have nam:∀ c:Ae,c.Endpoint=(i:Int)->Lq e c:=fun c hc=>by unfold Lq; omega
  have one:∀ (n n':Nat) (l:List Ae) (c:Ae),Wr e n l->n + 1<=n'->c.Endpoint=(i:Int)->Wr e n' (l ++ [c]):=fun n n' l c h1 h2 h3=>h1.add h2 fun c' hc'=>by rw [aEp.1 hc']; exact nam c h3
  generalize hT:(S6 (fun s':Int×Ab×List Ae=>(∃ i:Nat,s'.1=(i:Int)/\i<=e.Endpoints.length/\Hj s'.2.1/\Wr e (6 * i) s'.2.2)/\e.Endpoints.length - s'.1.toNat < e.Endpoints.length - ((i:Int)).toNat) (MvQ e))=T
  have app:∀ (n:Nat) (l m:List Ae),Wr e n l->n<=100->m.length<=2->(l.length + m.length) * 640<=140737488355328:=fun n l m h1 h2 h3=>by have:=h1.1; omega
  have J11:∀ d l,Hj d->Wr e (6 * i + 6) l->Ok (Au.j11 (i:Int) d l) T:=by
   intro d l hd hl
   unfold Au.j11
   rw [<- hT,Db (by omega)]
   exact Ok.ret ⟨⟨i + 1,by show (i:Int) + 1=_; omega,hil,hd,hl.le (by omega)⟩,by show e.Endpoints.length - ((i:Int) + 1).toNat < e.Endpoints.length - ((i:Int)).toNat; omega⟩
  have J10:∀ d l b,Hj d->Wr e (6 * i + 4) l->Ok (Au.j10 (i:Int) d l b) T:=by
   intro d l b hd hl
   unfold Au.j10
   refine Ok.cond (fun _=>?_) (fun _=>J11 _ _ hd (hl.le (by omega)))
   refine Ok.bind (E6 (app _ _ _ hl (by omega) (by simp))) fun l' hl'=>?_
   subst hl'
   refine J11 _ _ hd (hl.add (aHy _) fun c hc=>nam c ?_)
   simp only [aE7,aHp,aLl] at hc
   rcases hc with rfl | rfl <;> rfl
  have J9:∀ d l,Hj d->Wr e (6 * i + 4) l->Ok (Au.j9 y3 (i:Int) x d l) T:=by
   intro d l hd hl
   unfold Au.j9
   exact Ok.cond (fun _=>J10 _ _ _ hd hl) (fun _=>J10 _ _ _ hd hl)
  have J8:∀ d l b,Hj d->Wr e (6 * i + 3) l->Ok (Au.j8 y3 (i:Int) x l b d) T:=by
   intro d l b hd hl
   unfold Au.j8
   refine Ok.cond (fun _=>?_) (fun _=>J9 _ _ hd (hl.le (by omega)))
   refine Ok.bind (E6 (app _ _ _ hl (by omega) (by simp))) fun l' hl'=>?_
   subst hl'
   exact J9 _ _ hd (one _ _ _ _ hl (by omega) rfl)
  have J7:∀ d l,Hj d->Wr e (6 * i + 3) l->Ok (Au.j7 y y3 (i:Int) x d l) T:=by
   intro d l hd hl
   unfold Au.j7
   refine Ok.cond (fun _=>?_) (fun _=>J8 _ _ _ hd hl)
   refine Ok.bind (Ww _ _ (zW hx1)) fun b _=>?_
   refine Ok.cond (fun _=>?_) (fun _=>J8 _ _ _ hd hl)
   refine Ok.bind (D4 hd _ (by omega) (by omega)) fun z hz=>J8 _ _ _ hz.2 hl
  have J6:∀ d l b,(b=true->i=1)->Hj d->Wr e (6 * i + 2) l->Ok (Au.j6 y y3 (i:Int) x d l b) T:=by
   intro d l b hb hd hl
   unfold Au.j6
   refine Ok.cond (fun h1=>?_) (fun _=>J7 _ _ hd (hl.le (by omega)))
   have hi1:=hb h1
   unfold Ng
   rw [aAc]
   refine Ok.bind (Ks hd _ (by decide) (by decide)) fun z hz=>?_
   have hnm:x.Name=mM 1:=by rw [lO hx1,hi1]
   rw [hnm]
   refine Ok.bind (aCb hz.1) fun w _=>?_
   refine Ok.bind (E6 (app _ _ _ hl (by omega) (by simp))) fun l' hl'=>?_
   subst hl'
   exact J7 _ _ hz.2 (one _ _ _ _ hl (by omega) rfl)
  have J5:∀ d l,Hj d->Wr e (6 * i + 2) l->Ok (Au.j5 y y2 y3 (i:Int) x d l) T:=by
   intro d l hd hl
   unfold Au.j5
   exact Ok.cond (fun _=>J6 _ _ _ (fun h=>by have:=aCe h; omega) hd hl) (fun _=>J6 _ _ _ (fun h=>by cases h) hd hl)
  have J4:∀ d l b,Hj d->Wr e (6 * i + 1) l->Ok (Au.j4 y y2 y3 (i:Int) x d l b) T:=by
   intro d l b hd hl
   unfold Au.j4
   refine Ok.cond (fun _=>?_) (fun _=>J5 _ _ hd (hl.le (by omega)))
   refine Ok.bind (E6 (app _ _ _ hl (by omega) (by simp))) fun l' hl'=>?_
   subst hl'
   exact J5 _ _ hd (one _ _ _ _ hl (by omega) rfl)
  have J3:∀ d l,Hj d->Wr e (6 * i + 1) l->Ok (Au.j3 y y2 y3 (i:Int) x d l) T:=by
   intro d l hd hl
   unfold Au.j3
   exact Ok.cond (fun _=>J4 _ _ _ hd hl) (fun _=>J4 _ _ _ hd hl)
  have J2:∀ b,Ok (Au.j2 y y2 y3 (i:Int) d1 l x b) T:=by
   intro b
   unfold Au.j2
   refine Ok.cond (fun _=>?_) (fun _=>J3 _ _ hd1 (hl.le (by omega)))
   refine Ok.bind (D4 hd1 _ (by omega) (by omega)) fun z hz=>?_
   refine Ok.bind (E6 (app _ _ _ hl (by omega) (by simp))) fun l' hl'=>?_
   subst hl'
   exact J3 _ _ hz.2 (one _ _ _ _ hl (by omega) rfl)
  rw [Cr,hx,aAc]
  refine Ok.cond (fun _=>?_) (fun _=>J2 _)
  refine Ok.bind (Ww _ _ (zW hx1)) fun b _=>J2 _
 ·exact Ok.up (oV hd1 (hl.le (by omega)))
end Go.Proofs.YtkioneinddihlaaGreat
