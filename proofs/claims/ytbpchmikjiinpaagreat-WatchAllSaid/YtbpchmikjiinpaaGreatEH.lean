import Derived.Test.YtbpchmikjiinpaaGreatEF
import Derived.ChangeKeysEq
set_option linter.unusedVariables false
set_option linter.unusedSimpArgs false
namespace Go.Proofs.YtbpchmikjiinpaaGreat
open Go.RowKit
section
variable {P:Program} {np tk:Nat} {ty:TypeId} {env:jU} {α:Type} {f:α->List C} {t e sz bytes:Nat}
theorem lI (hf:∀ x,(f x).length=sz) (z:α):∀ m,Aj f (List.replicate m z)=(List.replicate m (f z)).flatten
 | 0=>rfl
 | m + 1=>by
  rw [aRo,aRo,aSr,<- lI hf z m]
  rfl
theorem qU (hf:∀ x,(f x).length=sz) (l:List α) (n:Nat):(Aj f l).drop (n * sz)=Aj f (l.drop n):=by
 induction n generalizing l with
 | zero=>simp
 | succ n ih=>
  cases l with
  | nil=>simp [Aj]
  | cons x l=>
   have:Aj f (x :: l)=f x ++ Aj f l:=rfl
   rw [this,Nat.succ_mul,List.drop_append,hf,List.drop_of_length_le (by rw [hf]; omega),aQp,Nat.add_sub_cancel]
   exact ih l
theorem sP (hf:∀ x,(f x).length=sz) (l:List α) (n:Nat):(Aj f l).take (n * sz)=Aj f (l.take n):=by
 induction n generalizing l with
 | zero=>simp [Aj]
 | succ n ih=>
  cases l with
  | nil=>simp [Aj]
  | cons x l=>
   have e1:Aj f (x :: l)=f x ++ Aj f l:=rfl
   have e2:Aj f ((x :: l).take (n + 1))=f x ++ Aj f (l.take n):=rfl
   rw [e1,e2,Nat.succ_mul,Nat.add_comm,aSx,aH0 (by rw [hf]; omega),hf,aSg,ih l]
theorem aDg {z:List Value} {ck:List (Option Nat)} {z0:α} (hz:Zt P e z) (hd:Ly ck (z.map DV.val) (f z0)):rZ P e (f z0):=⟨z,ck,hz,hd⟩
theorem pF {x:Operand} {k a m:Nat} {b:Option LB} {l r:List α} {z0:α} (hS:Ix P t e sz bytes) (hf:∀ x,(f x).length=sz) (hz:rZ P e (f z0)) (hL:(k,some (.row e sz (Aj f l)))∈env) (h:nX l a m z0=some r) :
  ExtR P np tk (.call ⟨.builtin .clear,#[x],#[t]⟩) ty [(.part k (a * sz) m,b)] env [k] (fun e'=>e'=Yl k (.row e sz (Aj f r)) (some (.tup []))):=by
 obtain⟨h1,rfl⟩:=tA h
 have:=ExtR.clearP (np:=np) (tk:=tk) (x:=x) (ty:=ty) (b:=b) (off:=a * sz) (m:=m) hS hz hL (by rw [Hk hf,<- aNn]; exact aLi _ h1)
 have e1:Di (Aj f l) (a * sz) (List.replicate m (f z0)).flatten=Aj f (l.take a ++ List.replicate m z0 ++ l.drop (a + m)):=by
  unfold Di
  rw [<- lI hf,Hk hf,sP hf,List.length_replicate,<- aNn,qU hf,Mw,Mw]
 rwa [e1] at this
end
theorem tU {P:Program} {t:TypeId} (hp:P.plainKey t=true) (em:Bool) (n:Nat) (v:Value) (w:World):(Instr.checkKey em (n + 1) t v).run P w=.ok () w:=by
 rw [Instr.checkKey]
 unfold Program.plainKey at hp
 cases hu:P.underlying t with
 | none=>rw [hu] at hp; simp at hp
 | some d=>
  rw [hu] at hp
  rw [Sem.run_bind,run_underlying hu,Result.andThen_ok]
  cases d <;> simp at hp <;> cases v <;> simp
theorem aIc (a:ByteArray):(a == a)=true:=by
 exact (Go.MapKept.bytes_beq a a).2 rfl
theorem wQ {P:Program} {kt:TypeId} {fs:Array Field} {cs:Array Value} {em:Bool} {w:World} {n:Nat} (hu:P.underlying kt=some (.struct fs)) (h:∀ f∈fs.toList,∃ v,(part f.type cs f.offset).run P w=.ok v w/\(Instr.checkKey em (n + 1) f.type v).run P w=.ok () w):(Instr.checkKey em (n + 2) kt (.agg cs)).run P w=.ok () w:=by
 rw [Instr.checkKey]
 simp only [Sem.run_bind,run_underlying hu,Result.andThen_ok]
 rw [<- Array.forIn_toList]
 generalize fs.toList=L at h
 induction L with
 | nil=>simp
 | cons f L ih=>
  obtain⟨v,h3,h4⟩:=h f (.head _)
  have ih:=ih fun g G=>h g (.tail _ G)
  by_cases hn:f.name = "_"
  ·simp only [List.forIn_cons,hn,ne_eq,not_true_eq_false,if_false,Sem.run_bind,Sem.run_pure,Result.andThen_ok]
   exact ih
  ·simp only [List.forIn_cons,hn,ne_eq,not_false_eq_true,if_true,Sem.run_bind,h3,h4,Sem.run_pure,Result.andThen_ok]
   exact ih
theorem vT {P:Program} {kt:TypeId} {fs:Array Field} {cs:Array Value} {em:Bool} {w:World} (hu:P.underlying kt=some (.struct fs)) (h:∀ f∈fs.toList,(P.plainKey f.type=true/\∃ v,cs[f.offset]?=some v)\/∃ gs sz,P.underlying f.type=some (.struct gs)/\(P.info? f.type).isSome=true/\P.cellsOf f.type=sz/\∀ g∈gs.toList,P.plainKey g.type=true/\∃ v,(cs.extract f.offset (f.offset + sz))[g.offset]?=some v):(Instr.checkKey em 10000 kt (.agg cs)).run P w=.ok () w:=by
 refine wQ (n:=9998) hu fun f hf=>?_
 rcases h f hf with ⟨h1,v,h2⟩ | ⟨gs,sz,h1,h2,h3,h4⟩
 ·exact⟨v,run_part_plain w h1 h2,tU h1 em 9998 v w⟩
 ·obtain⟨i,hi⟩:=Option.isSome_iff_exists.1 h2
  refine⟨.agg (cs.extract f.offset (f.offset + sz)),?_,wQ (n:=9997) h1 fun g G=>?_⟩
  ·simp [part,isAgg,run_underlying h1,run_sizeOf w hi,h3]
  ·obtain⟨a,v,b⟩:=h4 g G
   exact⟨v,run_part_plain w a b,tU a em 9997 v w⟩
abbrev vB (x:Bool):Value:=.bool x
theorem aH2 {P:Program} {t:TypeId} {v:Value} (h:(P.info? t).bind (·.zero)=some v) (w:World):(zeroValue t).run P w=.ok v w:=by
 cases hi:P.info? t with
 | none=>rw [hi] at h; cases h
 | some i=>
  rw [hi] at h
  have:i.zero=some v:=h
  simp [zeroValue,typeInfo,hi,this]
theorem aLt {P:Program} {t:TypeId} {κ:Type} [DecidableEq κ] {f:κ->Value} (hw:(match P.underlying t with | some (.array _ _) | some (.struct _)=>true | _=>false)=true) (hf:∀ x,∃ cs,f x=.agg cs) (hc:∀ (e:Bool) x w,(Instr.checkKey e 10000 t (f x)).run P w=.ok () w) (he:∀ x y w,(Op.equal t (f x) (f y)).run P w=.ok (decide (x=y)) w) (hs:∀ x,Instr.sameBits 10000 (f x) (f x)=true):jQ P t f:=by
 refine⟨hc,fun x es xs w hes=>?_,hs⟩
 have ask:∀ (es:List MapEntry) (xs:List κ) (i:Nat),es.map (·.key)=xs.map f->((Instr.findAsking t (f x) es i).run P w=.ok none w/\x∉xs)\/∃ j e,(Instr.findAsking t (f x) es i).run P w=.ok (some (i + j,e.val)) w/\es[j]?=some e/\e.key=f x/\xs[j]?=some x/\∀ j',j' < j->xs[j']?≠some x:=by
  intro es
  induction es with
  | nil=>
   intro xs i h
   cases xs with
   | nil=>exact .inl ⟨rfl,by simp⟩
   | cons y ys=>simp at h
  | cons e es ih=>
   intro xs i h
   cases xs with
   | nil=>simp at h
   | cons y ys=>
    simp only [aM9,List.cons.injEq] at h
    obtain⟨h1,h2⟩:=h
    have hq:=he x y w
    by_cases hxy:x=y
    ·subst hxy
     refine .inr ⟨0,e,?_,rfl,h1,rfl,fun j' hj'=>by omega⟩
     rw [aBe rfl] at hq
     simp [Instr.findAsking,h1,hq]
    ·rw [aBv hxy] at hq
     have hf:(Instr.findAsking t (f x) (e :: es) i).run P w=(Instr.findAsking t (f x) es (i + 1)).run P w:=by
      simp [Instr.findAsking,h1,hq]
     rw [hf]
     rcases ih ys (i + 1) h2 with ⟨q1,q2⟩ | ⟨j,e',q1,q2,q3,q4,q5⟩
     ·exact .inl ⟨q1,by simp [hxy,q2]⟩
     ·refine .inr ⟨j + 1,e',by rw [q1]; congr 3; omega,by simpa using q2,q3,by simpa using q4,fun j' hj'=>?_⟩
      cases j' with
      | zero=>simp; exact fun h=>hxy h.symm
      | succ j'=>simpa using q5 j' (by omega)
 obtain⟨d,hd,hdw⟩:∃ d,P.underlying t=some d/\((∃ a b,d=.array a b)\/∃ a,d=.struct a):=by
  cases hu:P.underlying t with
  | none=>rw [hu] at hw; cases hw
  | some d=>
   rw [hu] at hw
   refine⟨d,rfl,?_⟩
   cases d with
   | array a b=>exact .inl ⟨_,_,rfl⟩
   | struct a=>exact .inr ⟨_,rfl⟩
   | _=>cases hw
 obtain⟨cs,hcs⟩:=hf x
 cases es with
 | nil=>
  cases xs with
  | nil=>exact⟨none,by simp [Instr.findKey,run_underlying hd,Instr.findNow],by simp⟩
  | cons y ys=>simp at hes
 | cons e es=>
  have hn:Instr.findNow d (f x) (e :: es) 0=none:=by
   rw [hcs]
   rcases hdw with ⟨a,b,rfl⟩ | ⟨a,rfl⟩ <;> simp [Instr.findNow,Instr.sameNow]
  have hr:(Instr.findKey t (f x) (e :: es)).run P w=(Instr.findAsking t (f x) (e :: es) 0).run P w:=by
   simp [Instr.findKey,run_underlying hd,hn]
  rw [hr]
  rcases ask (e :: es) xs 0 hes with ⟨q1,q2⟩ | ⟨j,e',q1,q2,q3,q4,q5⟩
  ·exact⟨none,q1,q2⟩
  ·rw [aLq] at q1
   exact⟨some (j,e'.val),q1,e',q2,rfl,q3,q4,q5⟩
section
variable {P:Program} {np tk:Nat} {ty:TypeId} {env:jU} {κ ν:Type} [DecidableEq κ] {f:κ->Value} {g:ν->Value} {t kt vt k:Nat} {x i:Operand} {b bk bv:Option LB} {kd vd:DV} {l:List (κ×ν)} {key:κ} {z v:ν}
theorem aAw (ht:P.underlying t=some (.map kt vt)) (hK:jQ P kt f) (hz:∀ w,(zeroValue vt).run P w=.ok (g z) w) (hzk:E8 (g z)=true) (hk:Nb kd=some (f key)) :
  ExtR P np tk (.lookup t x i false) ty [(.mp (U5 f g l),b),(kd,bk)] env [] (fun e=>e=v0 (.val (g (Hm l key z)))):=.lookM (ok:=false) ht hK hz hzk hk
theorem wY {y':Operand} (ht:P.underlying t=some (.map kt vt)) (hK:jQ P kt f) (hk:Nb kd=some (f key)) (hv:Nb vd=some (g v)) (hm:(k,some (.map (U5 f g l)))∈env) :
  ExtR P np tk (.mapUpdate t x i y') ty [(.row k,b),(kd,bk),(vd,bv)] env [k] (fun e=>e=Yl k (.map (U5 f g (Ma l key v))) none):=.put ht hK hm hk hv
end
theorem aP (a b:ByteArray):(a.toList=b.toList)=(a=b):=by
 refine propext ⟨fun e=>?_,fun e=>by rw [e]⟩
 rw [ByteArray.toList_eq,ByteArray.toList_eq] at e
 cases a; cases b
 congr
 exact aSy.1 e
end Go.Proofs.YtbpchmikjiinpaaGreat
