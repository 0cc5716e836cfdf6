import Derived.Test.YtkioneinddihlaaGreatEF
import Derived.ChangeKeysEq
set_option linter.unusedVariables false
set_option linter.unusedSimpArgs false
namespace Go.Proofs.YtkioneinddihlaaGreat
open Go.RowKit
section
variable {P:Program} {np tk:Nat} {ty:TypeId} {env:cK} {α:Type} {f:α->List C} {t e sz bytes:Nat}
theorem gJ (hf:∀ x,(f x).length=sz) (z:α):∀ m,Ak f (List.replicate m z)=(List.replicate m (f z)).flatten
 | 0=>rfl
 | m + 1=>by
  rw [aLr,aLr,aOu,<- gJ hf z m]
  rfl
theorem oD (hf:∀ x,(f x).length=sz) (l:List α) (n:Nat):(Ak f l).drop (n * sz)=Ak f (l.drop n):=by
 induction n generalizing l with
 | zero=>simp
 | succ n ih=>
  cases l with
  | nil=>simp [Ak]
  | cons x l=>
   have:Ak f (x :: l)=f x ++ Ak f l:=rfl
   rw [this,Nat.succ_mul,List.drop_append,hf,List.drop_of_length_le (by rw [hf]; omega),aOl,Nat.add_sub_cancel]
   exact ih l
theorem pV (hf:∀ x,(f x).length=sz) (l:List α) (n:Nat):(Ak f l).take (n * sz)=Ak f (l.take n):=by
 induction n generalizing l with
 | zero=>simp [Ak]
 | succ n ih=>
  cases l with
  | nil=>simp [Ak]
  | cons x l=>
   have e1:Ak f (x :: l)=f x ++ Ak f l:=rfl
   have e2:Ak f ((x :: l).take (n + 1))=f x ++ Ak f (l.take n):=rfl
   rw [e1,e2,Nat.succ_mul,Nat.add_comm,aPa,aHx (by rw [hf]; omega),hf,aOf,ih l]
theorem aHs {z:List Value} {ck:List (Option Nat)} {z0:α} (hz:Zt P e z) (hd:Gw ck (z.map DV.val) (f z0)):pG P e (f z0):=⟨z,ck,hz,hd⟩
theorem xN {x:Operand} {k a m:Nat} {b:Option LB} {l r:List α} {z0:α} (hS:Gl P t e sz bytes) (hf:∀ x,(f x).length=sz) (hz:pG P e (f z0)) (hL:(k,some (.row e sz (Ak f l)))∈env) (h:tK l a m z0=some r) :
  ExtR P np tk (.call ⟨.builtin .clear,#[x],#[t]⟩) ty [(.part k (a * sz) m,b)] env [k] (fun e'=>e'=Sr k (.row e sz (Ak f r)) (some (.tup []))):=by
 obtain⟨h1,rfl⟩:=pT h
 have:=ExtR.clearP (np:=np) (tk:=tk) (x:=x) (ty:=ty) (b:=b) (off:=a * sz) (m:=m) hS hz hL (by rw [F2 hf,<- aLf]; exact aIw _ h1)
 have e1:Cu (Ak f l) (a * sz) (List.replicate m (f z0)).flatten=Ak f (l.take a ++ List.replicate m z0 ++ l.drop (a + m)):=by
  unfold Cu
  rw [<- gJ hf,F2 hf,pV hf,List.length_replicate,<- aLf,oD hf,Kb,Kb]
 rwa [e1] at this
end
theorem aCr {P:Program} {t:TypeId} (hp:P.plainKey t=true) (em:Bool) (n:Nat) (v:Value) (w:World):(Instr.checkKey em (n + 1) t v).run P w=.ok () w:=by
 rw [Instr.checkKey]
 unfold Program.plainKey at hp
 cases hu:P.underlying t with
 | none=>rw [hu] at hp; simp at hp
 | some d=>
  rw [hu] at hp
  rw [Sem.run_bind,run_underlying hu,Result.andThen_ok]
  cases d <;> simp at hp <;> cases v <;> simp
theorem jV {P:Program} {kt:TypeId} {fs:Array Field} {cs:Array Value} {em:Bool} {w:World} (hu:P.underlying kt=some (.struct fs)) (h:∀ f∈fs.toList,P.plainKey f.type=true/\∃ v,cs[f.offset]?=some v):(Instr.checkKey em 10000 kt (.agg cs)).run P w=.ok () w:=by
 rw [show (10000:Nat)=9998 + 1 + 1 from rfl,Instr.checkKey]
 simp only [Sem.run_bind,run_underlying hu,Result.andThen_ok]
 rw [<- Array.forIn_toList]
 generalize fs.toList=L at h
 induction L with
 | nil=>simp
 | cons f L ih=>
  obtain⟨h1,v,h2⟩:=h f (.head _)
  have h3:=run_part_plain w h1 h2
  have h4:=aCr h1 em 9998 v w
  have ih:=ih fun g G=>h g (.tail _ G)
  by_cases hn:f.name = "_"
  ·simp only [List.forIn_cons,hn,ne_eq,not_true_eq_false,if_false,Sem.run_bind,Sem.run_pure,Result.andThen_ok]
   exact ih
  ·simp only [List.forIn_cons,hn,ne_eq,not_false_eq_true,if_true,Sem.run_bind,h3,h4,Sem.run_pure,Result.andThen_ok]
   exact ih
abbrev vB (x:Bool):Value:=.bool x
theorem aE1 {P:Program} {t:TypeId} {v:Value} (h:(P.info? t).bind (·.zero)=some v) (w:World):(zeroValue t).run P w=.ok v w:=by
 cases hi:P.info? t with
 | none=>rw [hi] at h; cases h
 | some i=>
  rw [hi] at h
  have:i.zero=some v:=h
  simp [zeroValue,typeInfo,hi,this]
theorem aI3 {P:Program} {t:TypeId} {κ:Type} [DecidableEq κ] {f:κ->Value} (hw:(match P.underlying t with | some (.array _ _) | some (.struct _)=>true | _=>false)=true) (hf:∀ x,∃ cs,f x=.agg cs) (hc:∀ (e:Bool) x w,(Instr.checkKey e 10000 t (f x)).run P w=.ok () w) (he:∀ x y w,(Op.equal t (f x) (f y)).run P w=.ok (decide (x=y)) w) (hs:∀ x,Instr.sameBits 10000 (f x) (f x)=true):aB P t f:=by
 refine⟨hc,fun x es xs w hes=>?_,hs⟩
 have ask:∀ (es:List MapEntry) (xs:List κ) (i:Nat),es.map (·.key)=xs.map f->((Instr.findAsking t (f x) es i).run P w=.ok none w/\x∉xs)\/∃ j e,(Instr.findAsking t (f x) es i).run P w=.ok (some (i + j,e.val)) w/\es[j]?=some e/\e.key=f x/\xs[j]?=some x/\∀ j',j' < j->xs[j']?≠some x:=by
  intro es
  induction es with
  | nil=>
   intro xs i h
   cases xs with
   | nil=>exact .inl ⟨rfl,by simp⟩
   | cons y ys=>simp at h
  | cons e es ih=>
   intro xs i h
   cases xs with
   | nil=>simp at h
   | cons y ys=>
    simp only [aLx,List.cons.injEq] at h
    obtain⟨h1,h2⟩:=h
    have hq:=he x y w
    by_cases hxy:x=y
    ·subst hxy
     refine .inr ⟨0,e,?_,rfl,h1,rfl,fun j' hj'=>by omega⟩
     rw [aAg rfl] at hq
     simp [Instr.findAsking,h1,hq]
    ·rw [aAk hxy] at hq
     have hf:(Instr.findAsking t (f x) (e :: es) i).run P w=(Instr.findAsking t (f x) es (i + 1)).run P w:=by
      simp [Instr.findAsking,h1,hq]
     rw [hf]
     rcases ih ys (i + 1) h2 with ⟨q1,q2⟩ | ⟨j,e',q1,q2,q3,q4,q5⟩
     ·exact .inl ⟨q1,by simp [hxy,q2]⟩
     ·refine .inr ⟨j + 1,e',by rw [q1]; congr 3; omega,by simpa using q2,q3,by simpa using q4,fun j' hj'=>?_⟩
      cases j' with
      | zero=>simp; exact fun h=>hxy h.symm
      | succ j'=>simpa using q5 j' (by omega)
 obtain⟨d,hd,hdw⟩:∃ d,P.underlying t=some d/\((∃ a b,d=.array a b)\/∃ a,d=.struct a):=by
  cases hu:P.underlying t with
  | none=>rw [hu] at hw; cases hw
  | some d=>
   rw [hu] at hw
   refine⟨d,rfl,?_⟩
   cases d with
   | array a b=>exact .inl ⟨_,_,rfl⟩
   | struct a=>exact .inr ⟨_,rfl⟩
   | _=>cases hw
 obtain⟨cs,hcs⟩:=hf x
 cases es with
 | nil=>
  cases xs with
  | nil=>exact⟨none,by simp [Instr.findKey,run_underlying hd,Instr.findNow],by simp⟩
  | cons y ys=>simp at hes
 | cons e es=>
  have hn:Instr.findNow d (f x) (e :: es) 0=none:=by
   rw [hcs]
   rcases hdw with ⟨a,b,rfl⟩ | ⟨a,rfl⟩ <;> simp [Instr.findNow,Instr.sameNow]
  have hr:(Instr.findKey t (f x) (e :: es)).run P w=(Instr.findAsking t (f x) (e :: es) 0).run P w:=by
   simp [Instr.findKey,run_underlying hd,hn]
  rw [hr]
  rcases ask (e :: es) xs 0 hes with ⟨q1,q2⟩ | ⟨j,e',q1,q2,q3,q4,q5⟩
  ·exact⟨none,q1,q2⟩
  ·rw [aI4] at q1
   exact⟨some (j,e'.val),q1,e',q2,rfl,q3,q4,q5⟩
section
variable {P:Program} {np tk:Nat} {ty:TypeId} {env:cK} {κ ν:Type} [DecidableEq κ] {f:κ->Value} {g:ν->Value} {t kt vt k:Nat} {x i:Operand} {b bk bv:Option LB} {kd vd:DV} {l:List (κ×ν)} {key:κ} {z v:ν}
theorem jC (ht:P.underlying t=some (.map kt vt)) (hK:aB P kt f) (hz:∀ w,(zeroValue vt).run P w=.ok (g z) w) (hzk:E4 (g z)=true) (hk:Kw kd=some (f key)) (hm:(k,some (.map (Re f g l)))∈env) :
  ExtR P np tk (.lookup t x i false) ty [(.row k,b),(kd,bk)] env [] (fun e=>e=v0 (.val (g (Ga l key z)))):=.lookR (ok:=false) ht hK hz hzk hm hk
theorem dM (ht:P.underlying t=some (.map kt vt)) (hK:aB P kt f) (hz:∀ w,(zeroValue vt).run P w=.ok (g z) w) (hzk:E4 (g z)=true) (hk:Kw kd=some (f key)) :
  ExtR P np tk (.lookup t x i false) ty [(.mp (Re f g l),b),(kd,bk)] env [] (fun e=>e=v0 (.val (g (Ga l key z)))):=.lookM (ok:=false) ht hK hz hzk hk
theorem gA {y':Operand} (ht:P.underlying t=some (.map kt vt)) (hK:aB P kt f) (hk:Kw kd=some (f key)) (hv:Kw vd=some (g v)) (hm:(k,some (.map (Re f g l)))∈env) :
  ExtR P np tk (.mapUpdate t x i y') ty [(.row k,b),(kd,bk),(vd,bv)] env [k] (fun e=>e=Sr k (.map (Re f g (Kg l key v))) none):=.put ht hK hm hk hv
end
end Go.Proofs.YtkioneinddihlaaGreat
