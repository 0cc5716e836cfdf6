import Derived.Test.YtfanepojdefdpaaGreatEA
import Derived.Laws.CopyRow
import Derived.Laws.MakeOwn
import Derived.Laws.OwnMore
import Derived.Laws.IdiomStrings
set_option linter.unusedVariables false
set_option linter.unusedSimpArgs false
namespace Go.Proofs.YtfanepojdefdpaaGreat
open Go.RowKit
def aC9:TypeDesc->Bool
 | .struct _=>true
 | .array _ _=>true
 | _=>false
structure Ty (P:Program) (t:TypeId) (ag:Bool) (sz:Nat):Prop where
 hi:(P.info? t).map (·.size)=some sz
 hu:(P.underlying t).map aC9=some ag
def Zt (P:Program) (t:TypeId) (z:List Value):Prop:=∃ v,(P.info? t).bind (·.zero)=some v/\v.cells.toList=z/\∀ u∈z,u.oneCell'=true/\Fr u=true
def Fd (P:Program) (s:TypeId) (f off:Nat) (ft:TypeId):Prop:=∃ fields fd,P.underlying s=some (.struct fields)/\fields[f]?=some fd/\fd.offset=off/\fd.type=ft
def T7:C->DV
 | .int k n=>.val (.int k n)
 | .bool b=>.val (.bool b)
 | .str s=>.val (.string s)
 | .raw v=>.val v
 | .sl sz cs=>.sl sz cs
 | .mp l=>.mp l
def N2 (P:Program):Nat->TypeId->List (Option Nat)
 | 0,_=>[none]
 | n + 1,t=>match P.underlying t with
  | some (.slice e)=>[(P.info? e).map (·.size)]
  | some (.struct fs)=>fs.toList.flatMap fun f=>N2 P n f.type
  | some (.array m e)=>(List.replicate m (N2 P n e)).flatten
  | _=>[none]
def Cn:DV->List DV
 | .agg ds=>ds
 | d=>[d]
def T8:DV->Bool
 | .val v=>v.oneCell'
 | .tup _=>false
 | .nst _ _ _=>false
 | .npt _ _ _ _=>false
 | .npr _ _ _ _ _=>false
 | .qpt _ _=>false
 | _=>true
def Co {α:Type} (l:List α) (i:Nat) (xs:List α):List α:=l.take i ++ xs ++ l.drop (i + xs.length)
def Ia (place:Nat->Option (Nat×Nat)):List DV->List (Nat×DV)->Option (List DV)
 | cells,[]=>some cells
 | cells,(i,d) :: rest=>match place i with
  | none=>none
  | some (off,size)=>bif Nat.beq (Cn d).length size && Nat.ble (off + size) cells.length then Ia place (Co cells off (Cn d)) rest else none
inductive Yv:DV×Option LB->Nat->List C->Prop
 | sl {sz cs b}:Yv (.sl sz cs,b) sz cs
 | row {k e sz cs}:Yv (.row k,some (.row e sz cs)) sz cs
 | part {k off n e sz cs} (h:off + n * sz<=cs.length):Yv (.part k off n,some (.row e sz cs)) sz ((cs.drop off).take (n * sz))
inductive X3:DV×Option LB->Nat->List C->Prop
 | sl {sz cs b}:X3 (.sl sz cs,b) sz cs
 | row {k e sz cs}:X3 (.row k,some (.row e sz cs)) sz cs
 | part {k off n e sz cs} (h:off + n * sz<=cs.length):X3 (.part k off n,some (.row e sz cs)) sz ((cs.drop off).take (n * sz))
 | nil {sz b}:X3 (.val (.slice none 0 0),b) sz []
 | nst {k s i e sz o e2 sz2 h cs c2} (hc:cs[i * sz + o]?=some (.sl sz2 c2)) (hh:h≠some i):X3 (.nst k s i,some (.tree e sz o e2 sz2 s h cs)) sz2 c2
 | npr {k s i off n e sz o e2 sz2 h cs c2} (hc:cs[i * sz + o]?=some (.sl sz2 c2)) (hh:h≠some i) (hn:off + n * sz2<=c2.length):X3 (.npr k s i off n,some (.tree e sz o e2 sz2 s h cs)) sz2 ((c2.drop off).take (n * sz2))
theorem Yv.src {q:DV×Option LB} {sz:Nat} {cs:List C} (h:Yv q sz cs):X3 q sz cs:=by
 cases h with
 | sl=>exact .sl
 | row=>exact .row
 | part h=>exact .part h
inductive tW:DV×Option LB->Nat->Nat->List C->List Nat->Prop
 | row {k e sz cs}:tW (.row k,some (.row e sz cs)) e sz cs [k]
 | part {k n e sz cs} (hn:n * sz<=cs.length):tW (.part k 0 n,some (.row e sz cs)) e sz (cs.take (n * sz)) [k]
 | nil {e sz b}:tW (.val (.slice none 0 0),b) e sz [] []
inductive sY:DV×Option LB->Nat->Prop
 | sl {sz cs b n} (hz:0 < sz) (h:cs.length=n * sz):sY (.sl sz cs,b) n
 | row {k e sz cs n} (hz:0 < sz) (h:cs.length=n * sz):sY (.row k,some (.row e sz cs)) n
 | part {k off n b}:sY (.part k off n,b) n
 | rowT {k e sz o e2 sz2 s h cs n} (hz:0 < sz) (hn:cs.length=n * sz):sY (.row k,some (.tree e sz o e2 sz2 s h cs)) n
 | nst {k s i e sz o e2 sz2 h cs c2 n} (hz:0 < sz2) (hc:cs[i * sz + o]?=some (.sl sz2 c2)) (hh:h≠some i) (hn:c2.length=n * sz2):sY (.nst k s i,some (.tree e sz o e2 sz2 s h cs)) n
def vC (n:Nat):Option Operand->Option Operand->List (DV×Option LB)->Nat->Nat->Prop
 | none,none,r,l,h=>r=[]/\l=0/\h=n
 | some _,none,r,l,h=>(∃ b k x,r=[(.val (.int k x),b)]/\x=(l:Int))/\h=n
 | none,some _,r,l,h=>(∃ b k x,r=[(.val (.int k x),b)]/\x=(h:Int))/\l=0
 | some _,some _,r,l,h=>∃ b b' k k' x y,r=[(.val (.int k x),b),(.val (.int k' y),b')]/\x=(l:Int)/\y=(h:Int)
def S8 (tk:Nat) (lb:LB) (d:DV):K4:=⟨some d,fun k=>bif Nat.beq k tk then some (some lb) else none⟩
def L5 (tk:Nat) (lb:LB) (ks:List Nat) (d:DV):K4:=⟨some d,fun k=>bif Nat.beq k tk then some (some lb) else (bif ks.any (Nat.beq k) then some none else none)⟩
def oA (k0:Nat) (lb:LB):K4:=⟨none,fun k=>bif Nat.beq k k0 then some (some lb) else none⟩
def v0 (d:DV):K4:=eF (some d)
def kG (P:Program) (t:TypeId):Bool:=match P.underlying t with | some (.slice _)=>false | some _=>true | none=>false
mutual
def Lw:DV->Option Value
 | .val v=>some v
 | .agg ds=>match Vd ds with | some vs=>some (.agg vs.toArray) | none=>none
 | .sl _ _=>none
 | .slc _ _=>none
 | .mp _=>none
 | .row _=>none
 | .part _ _ _=>none
 | .ptr _ _=>none
 | .elt _=>none
 | .nst _ _ _=>none
 | .npt _ _ _ _=>none
 | .npr _ _ _ _ _=>none
 | .qpt _ _=>none
 | .tup _=>none
 | .clo _ _ _=>none
def Vd:List DV->Option (List Value)
 | []=>some []
 | d :: ds=>match Lw d,Vd ds with | some v,some vs=>some (v :: vs) | _,_=>none
end
section
variable {ρ:Nat->Value} {I:Nat->Prop} {w:World}
mutual
theorem B7.dval:∀ (d:DV) (v u:Value),B7 ρ I w d v->Go.Proofs.YtfanepojdefdpaaGreat.Lw d=some u->v=u
 | .val _,v,u,h,hd=>by
  unfold B7 at h
  unfold Go.Proofs.YtfanepojdefdpaaGreat.Lw at hd
  injection hd with hd
  rw [h.1,hd]
 | .agg ds,v,u,h,hd=>by
  unfold B7 at h
  obtain⟨vs,rfl,-,h⟩:=h
  unfold Go.Proofs.YtfanepojdefdpaaGreat.Lw at hd
  cases hv:Vd ds with
  | none=>rw [hv] at hd; cases hd
  | some us=>
   rw [hv] at hd
   injection hd with hd
   rw [<- hd,Bk.dvals ds vs us h hv]
 | .sl _ _,_,_,_,hd=>by unfold Go.Proofs.YtfanepojdefdpaaGreat.Lw at hd; cases hd
 | .slc _ _,_,_,_,hd=>by unfold Go.Proofs.YtfanepojdefdpaaGreat.Lw at hd; cases hd
 | .mp _,_,_,_,hd=>by unfold Go.Proofs.YtfanepojdefdpaaGreat.Lw at hd; cases hd
 | .row _,_,_,_,hd=>by unfold Go.Proofs.YtfanepojdefdpaaGreat.Lw at hd; cases hd
 | .part _ _ _,_,_,_,hd=>by unfold Go.Proofs.YtfanepojdefdpaaGreat.Lw at hd; cases hd
 | .ptr _ _,_,_,_,hd=>by unfold Go.Proofs.YtfanepojdefdpaaGreat.Lw at hd; cases hd
 | .elt _,_,_,_,hd=>by unfold Go.Proofs.YtfanepojdefdpaaGreat.Lw at hd; cases hd
 | .nst _ _ _,_,_,_,hd=>by unfold Go.Proofs.YtfanepojdefdpaaGreat.Lw at hd; cases hd
 | .npt _ _ _ _,_,_,_,hd=>by unfold Go.Proofs.YtfanepojdefdpaaGreat.Lw at hd; cases hd
 | .npr _ _ _ _ _,_,_,_,hd=>by unfold Go.Proofs.YtfanepojdefdpaaGreat.Lw at hd; cases hd
 | .qpt _ _,_,_,_,hd=>by unfold Go.Proofs.YtfanepojdefdpaaGreat.Lw at hd; cases hd
 | .tup _,_,_,_,hd=>by unfold Go.Proofs.YtfanepojdefdpaaGreat.Lw at hd; cases hd
 | .clo _ _ _,_,_,_,hd=>by unfold Go.Proofs.YtfanepojdefdpaaGreat.Lw at hd; cases hd
theorem Bk.dvals:∀ (ds:List DV) (vs us:List Value),Bk ρ I w ds vs->Go.Proofs.YtfanepojdefdpaaGreat.Vd ds=some us->vs=us
 | [],vs,us,h,hd=>by
  unfold Bk at h
  unfold Go.Proofs.YtfanepojdefdpaaGreat.Vd at hd
  injection hd with hd
  rw [h,hd]
 | d :: ds,vs,us,h,hd=>by
  unfold Bk at h
  obtain⟨u,us',rfl,h1,h2⟩:=h
  unfold Go.Proofs.YtfanepojdefdpaaGreat.Vd at hd
  cases hv:Go.Proofs.YtfanepojdefdpaaGreat.Lw d with
  | none=>rw [hv] at hd; cases hd
  | some v=>
   cases hv':Go.Proofs.YtfanepojdefdpaaGreat.Vd ds with
   | none=>rw [hv,hv'] at hd; cases hd
   | some vs'=>
    rw [hv,hv'] at hd
    injection hd with hd
    rw [<- hd,B7.dval d u v h1 hv,Bk.dvals ds us' vs' h2 hv']
end
end
theorem B7.dval_ok {ρ:Nat->Value} {I:Nat->Prop} {w:World} {d:DV} {v u:Value} (h:B7 ρ I w d v) (hd:Go.Proofs.YtfanepojdefdpaaGreat.Lw d=some u):Fr u=true:=by
 cases d with
 | val x=>
  unfold B7 at h
  unfold Go.Proofs.YtfanepojdefdpaaGreat.Lw at hd
  injection hd with hd
  rw [<- hd]; exact h.2
 | agg ds=>
  unfold Go.Proofs.YtfanepojdefdpaaGreat.Lw at hd
  cases hv:Vd ds with
  | none=>rw [hv] at hd; cases hd
  | some us=>rw [hv] at hd; injection hd with hd; subst hd; rfl
 | _=>unfold Go.Proofs.YtfanepojdefdpaaGreat.Lw at hd; cases hd
inductive Fv (P:Program):Nat->Op->TypeId->List (DV×Option LB)->List Nat->K4->Prop
 | move {tk x ty d b}:Fv P tk (.move x) ty [(d,b)] [] (v0 d)
 | assign {tk x ty d b}:Fv P tk (.assign x) ty [(d,b)] [] (v0 d)
 | pick {tk x y z ty c b1 d1 b2 d2 b3}:Fv P tk (.pick x y z) ty [(.val (.bool c),b1),(d1,b2),(d2,b3)] [] (v0 (bif c then d1 else d2))
 | binOpA {tk op xt yt x y ty d1 d2 vx vy v b1 b2} (h1:Lw d1=some vx) (h2:Lw d2=some vy) (hv:Fr vx=true->Fr vy=true->Fr v=true) (h:∀ w,(do eqGuard op xt x y vx vy; binOp op xt vx vy:Sem Value).run P w=.ok v w):Fv P tk (.binOp op xt x y yt) ty [(d1,b1),(d2,b2)] [] (v0 (.val v))
 | unOp {tk op xt x ty vx v b1} (hv:Fr vx=true->Fr v=true) (h:∀ w,(Op.unary op vx).run P w=.ok v w):Fv P tk (.unOp op xt x) ty [(.val vx,b1)] [] (v0 (.val v))
 | conv {tk src dst x ty vx v b1} (hs:kG P src=true) (hd:kG P dst=true) (hv:Fr vx=true->Fr v=true) (h:∀ w,(convert src dst vx).run P w=.ok v w):Fv P tk (.convert src dst x) ty [(.val vx,b1)] [] (v0 (.val v))
 | convS {tk src dst e x ty d cs l} (hs:P.underlying src=some (.slice e)) (he:P.underlying e=some (.int .u8)) (hd:P.underlying dst=some .string) (h:Yv d 1 cs) (hc:cs=H6 l):Fv P tk (.convert src dst x) ty [d] [] (v0 (.val (.string ⟨l.toArray⟩)))
 | convB {tk src dst e x ty s b} (hs:P.underlying src=some .string) (hd:P.underlying dst=some (.slice e)) (he:P.underlying e=some (.int .u8)):Fv P tk (.convert src dst x) ty [(.val (.string s),b)] [] (v0 (.sl 1 (H6 s.data.toList)))
 | indexA {tk t x i ty ds k n d b1 b2 e m} {j:Nat} (ht:P.underlying t=some (.array m e)) (he:Ty P e false 1) (hj:n=(j:Int)) (hl:ds.length=m) (hd:ds[j]?=some d):Fv P tk (.index t x i) ty [(.agg ds,b1),(.val (.int k n),b2)] [] (v0 d)
 | indexAA {tk t x i ty ds ds' k n b1 b2 e m sz} {j:Nat} (ht:P.underlying t=some (.array m e)) (he:Ty P e true sz) (hj:n=(j:Int)) (hl:j < m) (hd:(ds.drop (j * sz)).take sz=ds'):Fv P tk (.index t x i) ty [(.agg ds,b1),(.val (.int k n),b2)] [] (v0 (.agg ds'))
 | idxA {tk t x i ty k n kr p b b' e m ag sz} {j:Nat} (ht:P.underlying t=some (.array m e)) (he:Ty P e ag sz) (hj:n=(j:Int)) (hl:j < m):Fv P tk (.indexAddr t x i) ty [(.ptr kr p,b),(.val (.int k n),b')] [] (v0 (.ptr kr (p + j * sz)))
 | indexS {tk t x i ty vx vi v b1 b2} (hv:Fr vx=true->Fr vi=true->Fr v=true) (h:∀ w,(Instr.index t vx vi).run P w=.ok v w):Fv P tk (.index t x i) ty [(.val vx,b1),(.val vi,b2)] [] (v0 (.val v))
 | len {tk x t ty d n} (ht:P.underlying t=some (.slice (P.elem t))) (h:sY d n):Fv P tk (.call ⟨.builtin .len,#[x],#[t]⟩) ty [d] [] (v0 (.val (.int .i64 n)))
 | callV1 {tk bt ts x ty vx v b1} (hv:Fr vx=true->Fr v=true) (h:∀ w,∀ cs,(builtin bt ts ty cs #[vx]).run P w=.ok (.value v) w):Fv P tk (.call ⟨.builtin bt,#[x],ts⟩) ty [(.val vx,b1)] [] (v0 (.val v))
 | callV2 {tk bt ts x y ty vx vy v b1 b2} (hb:bt≠.append) (hv:Fr vx=true->Fr vy=true->Fr v=true) (h:∀ w,∀ cs,(builtin bt ts ty cs #[vx,vy]).run P w=.ok (.value v) w):Fv P tk (.call ⟨.builtin bt,#[x,y],ts⟩) ty [(.val vx,b1),(.val vy,b2)] [] (v0 (.val v))
 | extract {tk x i ty ds d b} (h:ds[i]?=some d):Fv P tk (.extract x i) ty [(.tup ds,b)] [] (v0 d)
 | nilP {tk x ty k i b}:Fv P tk (.nilCheck x) ty [(.ptr k i,b)] [] (v0 (.ptr k i))
 | nilE {tk x ty cs b}:Fv P tk (.nilCheck x) ty [(.elt cs,b)] [] (v0 (.elt cs))
 | fieldP {tk s x f ty k i b off ft sz ag} (h:Fd P s f off ft) (ht:Ty P ft ag sz) (hz:0 < sz):Fv P tk (.fieldAddr s x f) ty [(.ptr k i,b)] [] (v0 (.ptr k (i + off)))
 | fieldE {tk s x f ty cs b off ft sz ag} (h:Fd P s f off ft) (ht:Ty P ft ag sz) (hz:0 < sz) (hl:off < cs.length):Fv P tk (.fieldAddr s x f) ty [(.elt cs,b)] [] (v0 (.elt (cs.drop off)))
 | field1 {tk s x f ty ds b off ft sz d} (h:Fd P s f off ft) (ht:Ty P ft false sz) (hd:ds[off]?=some d):Fv P tk (.field s x f) ty [(.agg ds,b)] [] (v0 d)
 | fieldA {tk s x f ty ds b off ft sz} (h:Fd P s f off ft) (ht:Ty P ft true sz):Fv P tk (.field s x f) ty [(.agg ds,b)] [] (v0 (.agg ((ds.drop off).take sz)))
 | idxS {tk t x i ty e sz bytes cs k n b b'} {j:Nat} (h:Ij P t e sz bytes) (hj:n=(j:Int)) (hl:j * sz + sz<=cs.length):Fv P tk (.indexAddr t x i) ty [(.sl sz cs,b),(.val (.int k n),b')] [] (v0 (.elt (cs.drop (j * sz))))
 | idxR {tk t x i ty e sz bytes cs k n kr e' b'} {j:Nat} (h:Ij P t e sz bytes) (hj:n=(j:Int)) (hl:j * sz + sz<=cs.length):Fv P tk (.indexAddr t x i) ty [(.row kr,some (.row e' sz cs)),(.val (.int k n),b')] [] (v0 (.ptr kr (j * sz)))
 | idxT {tk t x i ty e sz bytes cs k n kr e' o e2 sz2 s hh b'} {j:Nat} (h:Ij P t e sz bytes) (hj:n=(j:Int)) (hl:j * sz + sz<=cs.length):Fv P tk (.indexAddr t x i) ty [(.row kr,some (.tree e' sz o e2 sz2 s hh cs)),(.val (.int k n),b')] [] (v0 (.ptr kr (j * sz)))
 | loadTN {tk t x ty k p e sz o e2 sz2 s hh cs z i} (ht:Ty P t false z) (ho:o < sz) (hp:p=i * sz + o) (hh':hh≠some i) (hl:p < cs.length):Fv P tk (.load t x) ty [(.ptr k p,some (.tree e sz o e2 sz2 s hh cs))] [] (v0 (.nst k s i))
 | idxP {tk t x i ty e sz bytes k n kr b b' off m} {j:Nat} (h:Ij P t e sz bytes) (hj:n=(j:Int)) (hl:j < m):Fv P tk (.indexAddr t x i) ty [(.part kr off m,b),(.val (.int k n),b')] [] (v0 (.ptr kr (off + j * sz)))
 | sliS {tk t x lo hi ty e sz bytes cs n l h r b} (hS:Ij P t e sz bytes) (hn:cs.length=n * sz) (hb:vC n lo hi r l h) (hl:l<=h/\h<=n):Fv P tk (.slice t x lo hi none) ty ((.sl sz cs,b) :: r) [] (v0 (.sl sz ((cs.drop (l * sz)).take ((h - l) * sz))))
 | sliR {tk t x lo hi ty e sz bytes cs n l h r kr e'} (hS:Ij P t e sz bytes) (hn:cs.length=n * sz) (hb:vC n lo hi r l h) (hl:l<=h/\h<=n):Fv P tk (.slice t x lo hi none) ty ((.row kr,some (.row e' sz cs)) :: r) [] (v0 (.part kr (l * sz) (h - l)))
 | loadB1 {tk t x ty k i ds bt sz d} (ht:Ty P t false sz) (hd:ds[i]?=some d):Fv P tk (.load t x) ty [(.ptr k i,some (.box ds bt))] [] (v0 d)
 | loadBA {tk t x ty k i ds bt sz} (ht:Ty P t true sz) (hl:i + sz<=ds.length):Fv P tk (.load t x) ty [(.ptr k i,some (.box ds bt))] [] (v0 (.agg ((ds.drop i).take sz)))
 | loadR1 {tk t x ty k i e s cs sz c} (ht:Ty P t false sz) (hd:cs[i]?=some c):Fv P tk (.load t x) ty [(.ptr k i,some (.row e s cs))] [] (v0 (T7 c))
 | loadRA {tk t x ty k i e s cs sz} (ht:Ty P t true sz) (hl:i + sz<=cs.length):Fv P tk (.load t x) ty [(.ptr k i,some (.row e s cs))] [] (v0 (.agg (((cs.drop i).take sz).map T7)))
 | loadE1 {tk t x ty cs b sz c} (ht:Ty P t false sz) (hd:cs[0]?=some c):Fv P tk (.load t x) ty [(.elt cs,b)] [] (v0 (T7 c))
 | loadEA {tk t x ty cs b sz} (ht:Ty P t true sz) (hl:sz<=cs.length):Fv P tk (.load t x) ty [(.elt cs,b)] [] (v0 (.agg ((cs.take sz).map T7)))
 | storeB {tk t x y ty k i ds bt sz ag d b} (ht:Ty P t ag sz) (hs:(Cn d).length=sz) (hi:i + sz<=ds.length) (ho:(Cn d).all T8=true):Fv P tk (.store t x y) ty [(.ptr k i,some (.box ds bt)),(d,b)] [k] (oA k (.box (Co ds i (Cn d)) bt))
 | storeR {tk t x y ty k i e s cs sz ag d b cs'} (ht:Ty P t ag sz) (hs:(Cn d).length=sz) (hi:i + sz<=cs.length) {ck:List (Option Nat)} (hk:N2 P 20 t=ck) (hd:Ib ck (Cn d) cs'):Fv P tk (.store t x y) ty [(.ptr k i,some (.row e s cs)),(d,b)] [k] (oA k (.row e s (Co cs i cs')))
 | makeFunc {tk f first caps ty ds}:Fv P tk (.makeFunc (.func f) first caps) ty ds [] (v0 (.clo f first.size (ds.map (·.1))))
 | alloc {tk t ty z} (h:Zt P t z):Fv P tk (.alloc t) ty [] [] (S8 tk (.box (z.map .val) t) (.ptr tk 0))
 | box {tk t x ty d b} (ho:(Cn d).all T8=true):Fv P tk (.box t x) ty [(d,b)] [] (S8 tk (.box (Cn d) t) (.ptr tk 0))
 | build {tk t parts ty ds fields z r} {places:List (Nat×Nat)} (hu:P.underlying t=some (.struct fields)) (hp:fields.toList.map (fun f=>(P.info? f.type).map fun i=>(f.offset,i.size))=places.map some) (hz:Zt P t z) (hd:Ia (fun i=>places[i]?) (z.map .val) ((parts.toList.map (·.1)).zip (ds.map (·.1)))=some r) (ho:ds.all (fun q=>(Cn q.1).all T8)=true):Fv P tk (.build t parts) ty ds [] (v0 (.agg r))
 | buildArr {tk t parts ty ds m e sz r z} (hu:P.underlying t=some (.array m e)) (he:(P.info? e).map (·.size)=some sz) (hz:Zt P t z) (hd:Ia (fun i=>some (i * sz,sz)) (z.map .val) ((parts.toList.map (·.1)).zip (ds.map (·.1)))=some r) (ho:ds.all (fun q=>(Cn q.1).all T8)=true):Fv P tk (.build t parts) ty ds [] (v0 (.agg r))
 | buildSl {tk t len parts ty ds e sz bytes z r cs} (hS:Ij P t e sz bytes) (hz:Zt P e z) (hlen:len * sz<=16777216) (hd:Ia (fun i=>some (i * sz,sz)) ((List.replicate len (z.map DV.val)).flatten) ((parts.toList.map (·.1)).zip (ds.map (·.1)))=some r) {ck:List (Option Nat)} (hk:N2 P 20 e=ck) (hc:Ib (List.replicate len ck).flatten r cs) (ho:ds.all (fun q=>(Cn q.1).all T8)=true):Fv P tk (.buildSlice t len parts) ty ds [] (S8 tk (.row e sz cs) (.row tk))
 | append {tk x y t ty e sz bytes d d' cs ks cs'} (hS:Ij P t e sz bytes) (ht:tW d e sz cs ks) (hs:X3 d' sz cs') (hl:(cs.length + cs'.length) * bytes<=140737488355328):Fv P tk (.call ⟨.builtin .append,#[x,y],#[t,t]⟩) ty [d,d'] ks (L5 tk (.row e sz (cs ++ cs')) ks (.row tk))
theorem Fv.binOp {P:Program} {tk op xt yt x y ty vx vy v b1 b2} (hv:Fr vx=true->Fr vy=true->Fr v=true) (h:∀ w,(do eqGuard op xt x y vx vy; Go.binOp op xt vx vy:Sem Value).run P w=.ok v w):Fv P tk (.binOp op xt x y yt) ty [(.val vx,b1),(.val vy,b2)] [] (v0 (.val v)):=.binOpA rfl rfl hv h
end Go.Proofs.YtfanepojdefdpaaGreat
namespace Go.Proofs.YtfanepojdefdpaaGreat
open Go.RowKit
section
variable {P:Program} {cx:Cx} {ρ:Nat->Value} {σ:St} {a:Act} {w:World}
theorem Qd {tc:Bool} {x:Operand} {l:List Operand} {ds:List (DV×Option LB)} (h:Ey σ tc (x :: l)=some ds):∃ q qs,ds=q :: qs/\ev σ tc x=some q/\Ey σ tc l=some qs:=by
 unfold Ey at h
 cases h1:ev σ tc x with
 | none=>rw [h1] at h; cases h
 | some q=>
  rw [h1] at h
  simp only [] at h
  cases h2:Ey σ tc l with
  | none=>rw [h2] at h; cases h
  | some qs=>
   rw [h2] at h
   simp only [] at h
   injection h with h
   exact⟨q,qs,h.symm,rfl,rfl⟩
theorem Ih {tc:Bool} {x:Operand} {q:DV×Option LB} (h:Ey σ tc [x]=some [q]):ev σ tc x=some q:=by
 obtain⟨q',qs,h1,h2,h3⟩:=Qd h
 injection h1 with h1 _
 rw [h1]; exact h2
theorem K6 {tc:Bool} {x y:Operand} {q r:DV×Option LB} (h:Ey σ tc [x,y]=some [q,r]):ev σ tc x=some q/\ev σ tc y=some r:=by
 obtain⟨q',qs,h1,h2,h3⟩:=Qd h
 injection h1 with h1 h1'
 subst h1 h1'
 exact⟨h2,Ih h3⟩
theorem aEt {tc:Bool} {x y z:Operand} {q r s:DV×Option LB} (h:Ey σ tc [x,y,z]=some [q,r,s]):ev σ tc x=some q/\ev σ tc y=some r/\ev σ tc z=some s:=by
 obtain⟨q',qs,h1,h2,h3⟩:=Qd h
 injection h1 with h1 h1'
 subst h1 h1'
 exact⟨h2,K6 h3⟩
theorem B9 (ha:Dr cx ρ σ a w) {tc:Bool} {x:Operand} {d:DV} {b:Option LB} (h:ev σ tc x=some (d,b)) :
  B7 ρ (I4 cx σ ρ w) w d (a.eval x)/\(∀ k,men d k->σ.U k=true)/\∀ k lb,L8 d=some k->b=some lb->σ.L k=some lb:=by
 cases x with
 | tmp t=>
  simp only [ev] at h
  cases hF:σ.F t with
  | none=>rw [hF] at h; cases h
  | some d'=>
   rw [hF] at h
   injection h with h
   injection h with h1 h2
   subst h1
   refine⟨ha.fr t d' hF,fun k hk=>ha.usedF t d' k hF hk,fun k lb hk hb=>?_⟩
   rw [<- h2,hk] at hb
   cases tc with
   | false=>cases hb
   | true=>exact hb
 | const v=>
  simp only [ev] at h
  cases hv:Fr v with
  | false=>rw [hv] at h; cases h
  | true=>
  rw [hv] at h
  injection h with h
  injection h with h1 h2
  subst h1
  exact⟨pG hv,fun k hk=>(eR hk).elim,fun k lb hk=>by rw [eZ] at hk; cases hk⟩
 | global g=>simp [ev] at h
 | func f=>
  simp only [ev] at h
  injection h with h
  injection h with h1 h2
  subst h1
  exact⟨by unfold B7; exact⟨rfl,rfl⟩,fun k hk=>by unfold men at hk; exact hk.elim,fun k lb hk=>by cases hk⟩
theorem Ge (ha:Dr cx ρ σ a w) {tc:Bool} {x:Operand} {v:Value} {b:Option LB} (h:ev σ tc x=some (.val v,b)):a.eval x=v:=by
 have:=(B9 ha h).1
 unfold B7 at this
 exact this.1
theorem Vc (ha:Dr cx ρ σ a w) {tc:Bool} {x:Operand} {v:Value} {b:Option LB} (h:ev σ tc x=some (.val v,b)):Fr v=true:=by
 have:=(B9 ha h).1
 unfold B7 at this
 exact this.2
theorem Ja (ha:Dr cx ρ σ a w) {o:Oper} (hdst:∀ t,o.dst=some t->t < cx.N) {d:DV} {v:Value} (hrun:(execOp a.eval o).run P w=.ok (.value v) w) (hd:B7 ρ (I4 cx σ ρ w) w d v) (hu:∀ k,men d k->σ.U k=true)
  {K:Act->World->Prop} {Q:Exit->Act->World->Prop} (hK:∀ a' w',Jf cx (σ.app o.dst (v0 d)) a' w'->K a' w'):o.wp P a w K Q:=by
 unfold Oper.wp
 rw [hrun]
 exact hK _ _ ⟨ρ,ha.put0 hdst (fun x hx=>by injection hx with hx; subst hx; exact hd) (fun x k hx hm=>by injection hx with hx; subst hx; exact hu k hm)⟩
theorem Sy {v:Value}:∀ k,men (.val v) k->σ.U k=true:=fun k hk=>by unfold men at hk; exact hk.elim
theorem Jg {I:Nat->Prop} {v:Value} (h:Fr v=true):B7 ρ I w (.val v) v:=by unfold B7; exact⟨rfl,h⟩
theorem jC (ha:Dr cx ρ σ a w) {tc:Bool} {x:Operand} {k s i:Nat} {e sz o e2 sz2 h cs c2} (hx:ev σ tc x=some (.nst k s i,some (.tree e sz o e2 sz2 s h cs))) (hc:cs[i * sz + o]?=some (.sl sz2 c2)) (hh:h≠some i) :
  ∃ n2 us2,w.rowOk e2 sz2 (a.eval x) n2 us2/\Fb w (I4 cx σ ρ w) c2 us2/\∀ b,Br (a.eval x)=some b->cx.w0.heap.size<=b\/cx.M b:=by
 obtain⟨h1,-,h3⟩:=B9 ha hx
 unfold B7 at h1
 obtain⟨vs,q1,q2⟩:=h1
 obtain⟨n,us,vs',q⟩:=ha.lo _ _ (h3 _ _ rfl rfl)
 have e1:=q.hs.symm.trans q1
 injection e1 with e1
 subst e1
 obtain⟨-,n2,us2,c2',r1,r2,r3,r4⟩:=q.nest i _ q2 hh
 rw [hc] at r1
 injection r1 with r1
 injection r1 with _ r1
 subst r1
 exact⟨n2,us2,r2,r3,fun b hb=>(r4 b hb).1⟩
theorem kC (ha:Dr cx ρ σ a w) {k s i:Nat} {e sz o e2 sz2 h cs c2} (hL:σ.L k=some (.tree e sz o e2 sz2 s h cs)) {vs:Array Value} {u:Value} (hρ:ρ s=.tuple vs) (hu:vs[i]?=some u) (hc:cs[i * sz + o]?=some (.sl sz2 c2)) (hh:h≠some i) :
  ∃ n2 us2,w.rowOk e2 sz2 u n2 us2/\Fb w (I4 cx σ ρ w) c2 us2:=by
 obtain⟨n,us,vs',q⟩:=ha.lo _ _ hL
 have e1:=q.hs.symm.trans hρ
 injection e1 with e1
 subst e1
 obtain⟨-,n2,us2,c2',r1,r2,r3,r4⟩:=q.nest i _ hu hh
 rw [hc] at r1
 injection r1 with r1
 injection r1 with _ r1
 subst r1
 exact⟨n2,us2,r2,r3⟩
theorem X3.rd (ha:Dr cx ρ σ a w) {tc:Bool} {x:Operand} {q:DV×Option LB} {sz:Nat} {cs:List C} (h:X3 q sz cs) (hx:ev σ tc x=some q):D3 w (fun b=>b < w.heap.size) (.sl sz cs) (a.eval x):=by
 cases h with
 | sl=>
  have:=(B9 ha hx).1
  unfold B7 at this
  exact this.mono fun b hb=>hb.1
 | row=>
  obtain⟨h1,-,h3⟩:=B9 ha hx
  unfold B7 at h1
  rw [h1.1]
  have hl:=ha.lo _ _ (h3 _ _ rfl rfl)
  obtain⟨n,us,ho,-,hr⟩:=hl
  exact Yr.cells ho hr (fun b hb=>hb.1) fun b hb=>((ha.lo _ _ (h3 _ _ rfl rfl)).blk hb).1
 | part hl'=>
  obtain⟨h1,-,h3⟩:=B9 ha hx
  unfold B7 at h1
  obtain⟨A,c,h1,h2,h4,h5,-⟩:=h1
  rw [h1]
  have hl:=ha.lo _ _ (h3 _ _ rfl rfl)
  obtain⟨n,us,ho,-,hr⟩:=hl
  exact bY ho hr (fun b hb=>hb.1) (fun b hb=>((ha.lo _ _ (h3 _ _ rfl rfl)).blk hb).1) hl' h2 h4 h5
 | @nst k s i e sz o e2 sz2 h cs c2 hc hh=>
  obtain⟨n2,us2,q2,q3,q4⟩:=jC ha hx hc hh
  exact Yr.cells q2 q3 (fun b hb=>hb.1) fun b hb=>Ho q2 hb
 | @npr k s i off n e sz o e2 sz2 h cs c2 hc hh hn=>
  obtain⟨h1,-,h3⟩:=B9 ha hx
  unfold B7 at h1
  obtain⟨vs,u,A,c,q1,q2,h1,h2,h4,h5,-⟩:=h1
  rw [h1]
  obtain⟨n2,us2,r2,r3⟩:=kC ha (h3 _ _ rfl rfl) q1 q2 hc hh
  exact bY r2 r3 (fun b hb=>hb.1) (fun b hb=>Ho r2 hb) hn h2 h4 h5
 | nil=>
  rw [Ge ha hx]
  exact D3.nil_ sz
theorem Ty.size {t:TypeId} {ag:Bool} {sz:Nat} (h:Ty P t ag sz):(sizeOf t).run P w=.ok sz w:=by
 have:=h.hi
 cases hi:P.info? t with
 | none=>rw [hi] at this; cases this
 | some i=>
  rw [hi] at this
  injection this with this
  simp [sizeOf,typeInfo,hi,this]
theorem Ty.agg {t:TypeId} {ag:Bool} {sz:Nat} (h:Ty P t ag sz):(isAgg t).run P w=.ok ag w:=by
 have:=h.hu
 cases hi:P.underlying t with
 | none=>rw [hi] at this; cases this
 | some d=>
  rw [hi] at this
  injection this with this
  subst this
  unfold isAgg
  rw [Sem.run_bind,run_underlying hi w]
  cases d <;> simp [aC9]
theorem Ij.size {t e:TypeId} {sz bytes:Nat} (h:Ij P t e sz bytes):(sizeOf e).run P w=.ok sz w:=by
 obtain⟨i,z,h1,h2,h3,h4,h5⟩:=h.hi
 simp [sizeOf,typeInfo,h1,h3]
theorem Ij.elem {t e:TypeId} {sz bytes:Nat} (h:Ij P t e sz bytes):P.underlying t=some (.slice (P.elem t)):=by
 have:=h.ht
 unfold Program.elem
 rw [this]
theorem Ij.el {t e:TypeId} {sz bytes:Nat} (h:Ij P t e sz bytes):P.elem t=e:=by
 unfold Program.elem
 rw [h.ht]
theorem yZ {sz:Nat} {cs:List C} {I:Nat->Prop} {A:Option Addr} {n c:Nat} (h:D3 w I (.sl sz cs) (.slice A n c)) {j:Nat} (hj:j * sz + sz<=cs.length) (hz:0 < sz) :
  ∃ ad,A=some ad/\j < n/\I (ad.add (j * sz)).block/\Jl w I (ad.add (j * sz)) 0 (cs.drop (j * sz)):=by
 have hl:=h.len.1
 have hjn:j < n:=by
  have h1:(j + 1) * sz<=n * sz:=by rw [aF2,aGm,<- hl]; exact hj
  exact aH4 (aHo h1 hz)
 obtain⟨ad,rfl,hS,hc⟩:=h.cells (by omega)
 refine⟨ad,rfl,hjn,by rw [Mq]; exact hS,Jl.of_at _ 0 fun i x hi=>?_⟩
 rw [aE8] at hi
 rw [aE6,Qm]
 exact hc _ _ hi
theorem Iv {e sz n:Nat} {v:Value} {us:List Value} (ho:w.rowOk e sz v n us) (hn:0 < n):∃ g cap,v=.slice (some ⟨g,0,none⟩) n cap/\n<=cap/\cap<=maxLen/\∀ j u,us[j]?=some u->w.cell? ⟨g,j,none⟩=some u:=by
 rcases ho.2 with ⟨A,-,rfl⟩ | ⟨g,cap,cur,rfl,h1,D,h2,hm,hs,ht⟩
 ·omega
 ·refine⟨g,cap,rfl,h2,hm,fun j u hu=>?_⟩
  rw [<- ht,aE9] at hu
  split at hu
  ·simpa [World.cell?,D] using hu
  ·cases hu
theorem I9 (g i j:Nat):(⟨g,i,none⟩:Addr).add j=⟨g,i + j,none⟩:=by
 unfold Addr.add
 split
 ·rename_i h; subst h; rfl
 ·rfl
theorem tS {lo hi:Option Operand} {r:List (DV×Option LB)} {n c l h:Nat} (ha:Dr cx ρ σ a w) (hb:vC n lo hi r l h) (hr:Ey σ true (lo.toArray ++ hi.toArray).toList=some r) (hl:l<=h/\h<=n) (hc:n<=c) :
  (Instr.sliceBounds true n c (lo.map a.eval) (hi.map a.eval) none).run P w=.ok (l,h,c) w:=by
 cases lo with
 | none=>
  cases hi with
  | none=>
   obtain⟨-,rfl,rfl⟩:=hb
   simp [Instr.sliceBounds]
  | some y=>
   obtain⟨⟨b,k,x,rfl,rfl⟩,rfl⟩:=hb
   have hy:=Ge ha (Ih (by simpa using hr))
   have h1:=run_sliceBound (P:=P) w k (h:Int) c .sliceAcap (by omega) (by omega)
   simp [Instr.sliceBounds,hy,h1]
 | some x=>
  cases hi with
  | none=>
   obtain⟨⟨b,k,y,rfl,rfl⟩,rfl⟩:=hb
   have hx:=Ge ha (Ih (by simpa using hr))
   have h1:=run_sliceBound (P:=P) w k (l:Int) h .sliceB (by omega) (by omega)
   simp [Instr.sliceBounds,hx,h1]
  | some y=>
   obtain⟨b,b',k,k',x',y',rfl,rfl,rfl⟩:=hb
   obtain⟨e1,e2⟩:=K6 (by simpa using hr)
   have hx:=Ge ha e1
   have hy:=Ge ha e2
   have h1:=run_sliceBound (P:=P) w k (l:Int) h .sliceB (by omega) (by omega)
   have h2:=run_sliceBound (P:=P) w k' (h:Int) c .sliceAcap (by omega) (by omega)
   simp [Instr.sliceBounds,hx,hy,h1,h2]
theorem Zx {lo hi:Option Operand} {r:List (DV×Option LB)} {n c l h:Nat} {t e:TypeId} {sz bytes:Nat} {A:Option Addr} (hS:Ij P t e sz bytes) (ha:Dr cx ρ σ a w) (hb:vC n lo hi r l h) (hr:Ey σ true (lo.toArray ++ hi.toArray).toList=some r) (hl:l<=h/\h<=n) (hc:n<=c) :
  (Instr.sliceAt t (.slice A n c) (lo.map a.eval) (hi.map a.eval) none).run P w=.ok (.slice (if c=l then A else A.map (·.add (l * sz))) (h - l) (c - l)) w:=by
 have h1:=tS (P:=P) ha hb hr hl hc
 rw [run_sliceAt_slice w t _ _ _ _ hS.elem]
 simp [Instr.slice,run_underlying hS.ht,h1,hS.size]
end
end Go.Proofs.YtfanepojdefdpaaGreat
namespace Go.Proofs.YtfanepojdefdpaaGreat
open Go.RowKit
section
variable {P:Program} {cx:Cx} {ρ:Nat->Value} {σ:St} {a:Act} {w:World} {o:Oper} {K:Act->World->Prop} {Q:Exit->Act->World->Prop}
theorem rN {x:Operand} {d:DV} {b:Option LB} {tc:Bool} (ha:Dr cx ρ σ a w) (hds:Ey σ tc [x]=some [(d,b)]) (ho:o.op=.move x\/o.op=.assign x) (hdst:∀ t,o.dst=some t->t < cx.N) (hK:∀ a' w',Jf cx (σ.app o.dst (v0 d)) a' w'->K a' w'):o.wp P a w K Q:=by
 obtain⟨h1,h2,-⟩:=B9 ha (Ih hds)
 refine Ja ha hdst (v:=a.eval x) ?_ h1 h2 hK
 rcases ho with ho | ho <;> simp [execOp,ho]
theorem yU {x y z:Operand} {c:Bool} {d1 d2:DV} {b1 b2 b3:Option LB} {tc:Bool} (ha:Dr cx ρ σ a w) (hds:Ey σ tc [x,y,z]=some [(.val (.bool c),b1),(d1,b2),(d2,b3)]) (ho:o.op=.pick x y z) (hdst:∀ t,o.dst=some t->t < cx.N) (hK:∀ a' w',Jf cx (σ.app o.dst (v0 (bif c then d1 else d2))) a' w'->K a' w'):o.wp P a w K Q:=by
 obtain⟨e1,e2,e3⟩:=aEt hds
 have hc:=Ge ha e1
 obtain⟨h1,h2,-⟩:=B9 ha e2
 obtain⟨h3,h4,-⟩:=B9 ha e3
 cases c with
 | true=>
  refine Ja ha hdst (v:=a.eval y) ?_ h1 h2 hK
  simp [execOp,ho,hc,asBool]
 | false=>
  refine Ja ha hdst (v:=a.eval z) ?_ h3 h4 hK
  simp [execOp,ho,hc,asBool]
theorem Vh {v:Value} (hok:Fr v=true) (ha:Dr cx ρ σ a w) (hdst:∀ t,o.dst=some t->t < cx.N) (hrun:(execOp a.eval o).run P w=.ok (.value v) w) (hK:∀ a' w',Jf cx (σ.app o.dst (v0 (.val v))) a' w'->K a' w'):o.wp P a w K Q:=
 Ja ha hdst hrun (Jg hok) Sy hK
theorem vQ {src dst e:TypeId} {x:Operand} {d:DV×Option LB} {cs:List C} {l:List UInt8} (hs:P.underlying src=some (.slice e)) (he:P.underlying e=some (.int .u8)) (hd:P.underlying dst=some .string) (h:Yv d 1 cs) (hc:cs=H6 l)
  (ha:Dr cx ρ σ a w) (hds:Ey σ true [x]=some [d]) (ho:o.op=.convert src dst x) (hdst:∀ t,o.dst=some t->t < cx.N) (hK:∀ a' w',Jf cx (σ.app o.dst (v0 (.val (.string ⟨l.toArray⟩)))) a' w'->K a' w'):o.wp P a w K Q:=by
 subst hc
 have hr:=X3.rd ha h.src (Ih hds)
 obtain⟨A,n,c,hv,-⟩:=hr.slice
 rw [hv] at hr
 refine Vh ?_ ha hdst ?_ hK
 ·have h1:=hr.blen
  rw [Nu]
  have h2:=hr.slice
  obtain⟨A',n',c',e1,e2,e3,e4⟩:=h2
  rw [Kc] at e2
  show l.toArray.size<=_
  rw [aHk]
  omega
 simp [execOp,ho,hv,gX src e dst hs he hd hr]
theorem aCp {x:Operand} {t:TypeId} {d:DV×Option LB} {n:Nat} (ht:P.underlying t=some (.slice (P.elem t))) (h:sY d n)
  (ha:Dr cx ρ σ a w) (hds:Ey σ true [x]=some [d]) (ho:o.op=.call ⟨.builtin .len,#[x],#[t]⟩) (hdst:∀ t,o.dst=some t->t < cx.N) (hK:∀ a' w',Jf cx (σ.app o.dst (v0 (.val (.int .i64 n)))) a' w'->K a' w'):o.wp P a w K Q:=by
 have key:∃ A c,a.eval x=.slice A n c/\n<=maxLen:=by
  cases h with
  | sl hz hn=>
   obtain⟨h1,-,-⟩:=B9 ha (Ih hds)
   unfold B7 at h1
   obtain⟨A,m,c,hv,hl,hc,hm⟩:=h1.slice
   have:m=n:=aD6 hz (hl.symm.trans hn)
   subst this
   exact⟨A,c,hv,by omega⟩
  | row hz hn=>
   obtain⟨h1,-,h3⟩:=B9 ha (Ih hds)
   unfold B7 at h1
   obtain⟨m,us,hw,-,hr⟩:=ha.lo _ _ (h3 _ _ rfl rfl)
   have hm:m=n:=aD6 hz (hw.1.symm.trans (hr.1.symm.trans hn))
   subst hm
   rw [h1.1]
   rcases hw.2 with ⟨A,e1,e2⟩ | ⟨g,cap,cur,e1,-,-,e2,e3,-⟩
   ·subst e2
    exact⟨_,_,e1,by simp [maxLen]⟩
   ·exact⟨_,_,e1,by omega⟩
  | part=>
   obtain⟨h1,-,-⟩:=B9 ha (Ih hds)
   unfold B7 at h1
   obtain⟨A,c,hv,h4,h5,-⟩:=h1
   exact⟨A,c,hv,by omega⟩
  | rowT hz hn=>
   obtain⟨h1,-,h3⟩:=B9 ha (Ih hds)
   unfold B7 at h1
   obtain⟨m,us,vs,q⟩:=ha.lo _ _ (h3 _ _ rfl rfl)
   have hm:m=n:=aD6 hz (q.row.1.symm.trans (q.hl.symm.trans hn))
   subst hm
   rw [h1.1]
   rcases q.row.2 with ⟨A,e1,e2⟩ | ⟨g,cap,cur,e1,-,-,e2,e3,-⟩
   ·subst e2
    exact⟨_,_,e1,by simp [maxLen]⟩
   ·exact⟨_,_,e1,by omega⟩
  | nst hz hc hh hn=>
   obtain⟨m,us2,q2,q3,-⟩:=jC ha (Ih hds) hc hh
   have hm:m=n:=aD6 hz (q2.1.symm.trans (q3.1.symm.trans hn))
   subst hm
   rcases q2.2 with ⟨A,e1,e2⟩ | ⟨g,cap,cur,e1,-,-,e2,e3,-⟩
   ·subst e2
    exact⟨_,_,e1,by simp [maxLen]⟩
   ·exact⟨_,_,e1,by omega⟩
 obtain⟨A,c,hv,hn⟩:=key
 refine Vh (Gr.2 (Nv ⟨by omega,by unfold maxLen at hn; omega⟩)) ha hdst ?_ hK
 simp [execOp,ho,resolve,invoke,builtin,hv,run_len_slice w t o.type A n c ht,goInt]
theorem pY {bt:Builtin} {ts:Array TypeId} {x:Operand} {vx v:Value} {b1:Option LB} (hok:Fr vx=true->Fr v=true) (h:∀ w,∀ cs,(builtin bt ts o.type cs #[vx]).run P w=.ok (.value v) w) (ha:Dr cx ρ σ a w) (hds:Ey σ true [x]=some [(.val vx,b1)]) (ho:o.op=.call ⟨.builtin bt,#[x],ts⟩) (hdst:∀ t,o.dst=some t->t < cx.N) (hK:∀ a' w',Jf cx (σ.app o.dst (v0 (.val v))) a' w'->K a' w'):o.wp P a w K Q:=by
 have hx:=Ge ha (Ih hds)
 refine Vh (hok (Vc ha (Ih hds))) ha hdst ?_ hK
 simp [execOp,ho,resolve,invoke,hx,h]
theorem oN {bt:Builtin} {ts:Array TypeId} {x y:Operand} {vx vy v:Value} {b1 b2:Option LB} (hok:Fr vx=true->Fr vy=true->Fr v=true) (h:∀ w,∀ cs,(builtin bt ts o.type cs #[vx,vy]).run P w=.ok (.value v) w) (ha:Dr cx ρ σ a w) (hds:Ey σ true [x,y]=some [(.val vx,b1),(.val vy,b2)]) (ho:o.op=.call ⟨.builtin bt,#[x,y],ts⟩) (hdst:∀ t,o.dst=some t->t < cx.N) (hK:∀ a' w',Jf cx (σ.app o.dst (v0 (.val v))) a' w'->K a' w'):o.wp P a w K Q:=by
 obtain⟨e1,e2⟩:=K6 hds
 have hx:=Ge ha e1
 have hy:=Ge ha e2
 refine Vh (hok (Vc ha e1) (Vc ha e2)) ha hdst ?_ hK
 simp [execOp,ho,resolve,invoke,hx,hy,h]
theorem Mp {x:Operand} {i:Nat} {ds:List DV} {d:DV} {b:Option LB} {tc:Bool} (h:ds[i]?=some d) (ha:Dr cx ρ σ a w) (hds:Ey σ tc [x]=some [(.tup ds,b)]) (ho:o.op=.extract x i) (hdst:∀ t,o.dst=some t->t < cx.N) (hK:∀ a' w',Jf cx (σ.app o.dst (v0 d)) a' w'->K a' w'):o.wp P a w K Q:=by
 obtain⟨h1,h2,-⟩:=B9 ha (Ih hds)
 unfold B7 at h1
 obtain⟨vs,hv,hr⟩:=h1
 obtain⟨v,hv',hd⟩:=hr.at_ h
 refine Ja ha hdst (v:=v) ?_ hd (fun k hk=>h2 k ?_) hK
 ·have e1:vs.toArray[i]?=some v:=by simpa using hv'
  simp [execOp,ho,hv,Instr.extract,hv']
 ·unfold men
  exact menL_at h hk
where
 menL_at:∀ {ds:List DV} {i:Nat} {d:DV} {k:Nat},ds[i]?=some d->men d k->E3 ds k
 | [],_,_,_,h,_=>by simp at h
 | d' :: ds,0,d,k,h,hk=>by
  simp at h
  subst h
  unfold E3
  exact .inl hk
 | d' :: ds,i + 1,d,k,h,hk=>by
  unfold E3
  exact .inr (menL_at (by simpa using h) hk)
theorem zR {x:Operand} {k i:Nat} {b:Option LB} {tc:Bool} (ha:Dr cx ρ σ a w) (hds:Ey σ tc [x]=some [(.ptr k i,b)]) (ho:o.op=.nilCheck x) (hdst:∀ t,o.dst=some t->t < cx.N) (hK:∀ a' w',Jf cx (σ.app o.dst (v0 (.ptr k i))) a' w'->K a' w'):o.wp P a w K Q:=by
 obtain⟨h1,h2,-⟩:=B9 ha (Ih hds)
 have h1':=h1
 unfold B7 at h1
 obtain⟨g,D,hv⟩:=h1
 refine Ja ha hdst (v:=a.eval x) ?_ h1' h2 hK
 simp [execOp,ho,hv]
theorem zG {x:Operand} {cs:List C} {b:Option LB} {tc:Bool} (ha:Dr cx ρ σ a w) (hds:Ey σ tc [x]=some [(.elt cs,b)]) (ho:o.op=.nilCheck x) (hdst:∀ t,o.dst=some t->t < cx.N) (hK:∀ a' w',Jf cx (σ.app o.dst (v0 (.elt cs))) a' w'->K a' w'):o.wp P a w K Q:=by
 obtain⟨h1,h2,-⟩:=B9 ha (Ih hds)
 have h1':=h1
 unfold B7 at h1
 obtain⟨ad,hv,-⟩:=h1
 refine Ja ha hdst (v:=a.eval x) ?_ h1' h2 hK
 simp [execOp,ho,hv]
theorem Qf {s ft:TypeId} {f off sz:Nat} {ag:Bool} (h:Fd P s f off ft) (ht:Ty P ft ag sz) (hz:0 < sz) (ad:Addr):(Instr.fieldAt s (.pointer (some ad)) f).run P w=.ok (.pointer (some (ad.add off))) w:=by
 obtain⟨fields,fd,h1,h2,h3,h4⟩:=h
 subst h3 h4
 have hs:=ht.size (w:=w)
 have:sz≠0:=by omega
 simp [Instr.fieldAt,run_underlying h1,h2,Instr.sureAddr,fieldPlace,hs,this]
theorem sS {s ft:TypeId} {x:Operand} {f off sz k i:Nat} {ag:Bool} {b:Option LB} {tc:Bool} (h:Fd P s f off ft) (ht:Ty P ft ag sz) (hz:0 < sz) (ha:Dr cx ρ σ a w) (hds:Ey σ tc [x]=some [(.ptr k i,b)]) (ho:o.op=.fieldAddr s x f) (hdst:∀ t,o.dst=some t->t < cx.N) (hK:∀ a' w',Jf cx (σ.app o.dst (v0 (.ptr k (i + off)))) a' w'->K a' w'):o.wp P a w K Q:=by
 obtain⟨h1,h2,-⟩:=B9 ha (Ih hds)
 unfold B7 at h1
 obtain⟨g,D,hv⟩:=h1
 refine Ja ha hdst (v:=.pointer (some ⟨g,i + off,none⟩)) ?_ (by unfold B7; exact⟨g,D,rfl⟩) (fun k' hk'=>h2 k' (by unfold men at *; exact hk')) hK
 simp [execOp,ho,hv,Qf h ht hz,I9]
theorem rA {s ft:TypeId} {x:Operand} {f off sz:Nat} {cs:List C} {ag:Bool} {b:Option LB} {tc:Bool} (h:Fd P s f off ft) (ht:Ty P ft ag sz) (hz:0 < sz) (ha:Dr cx ρ σ a w) (hds:Ey σ tc [x]=some [(.elt cs,b)]) (ho:o.op=.fieldAddr s x f) (hdst:∀ t,o.dst=some t->t < cx.N) (hK:∀ a' w',Jf cx (σ.app o.dst (v0 (.elt (cs.drop off)))) a' w'->K a' w'):o.wp P a w K Q:=by
 obtain⟨h1,h2,-⟩:=B9 ha (Ih hds)
 unfold B7 at h1
 obtain⟨ad,hv,hI,hr⟩:=h1
 refine Ja ha hdst (v:=.pointer (some (ad.add off))) ?_ (by
  unfold B7
  refine⟨_,rfl,by rw [Mq]; exact hI,Jl.of_at _ 0 fun j c hj=>?_⟩
  rw [aE8] at hj
  have:=hr.at_ hj
  rw [aE6] at this
  rw [aE6,Qm]
  exact this) (fun k hk=>by unfold men at hk; exact hk.elim) hK
 simp [execOp,ho,hv,Qf h ht hz]
theorem Bk.map_cdv {I:Nat->Prop}:∀ {cs:List C} {us:List Value},Fb w I cs us->Bk ρ I w (cs.map T7) us/\∀ u∈us,u.oneCell'=true
 | [],us,h=>by
  have:us=[]:=aDu (by have:=h.1; simpa using this.symm)
  subst this
  exact⟨by simp [Bk],fun u hu=>by simp at hu⟩
 | c :: cs,us,h=>by
  match us,h with
  | [],h=>have:=h.1; simp at this
  | u :: us,h=>
   have h0:=h.2 0 c u rfl rfl
   obtain⟨h1,h2⟩:=Bk.map_cdv (cs:=cs) (us:=us) ⟨by simpa using h.1,fun j c' u' a b=>h.2 (j + 1) c' u' (by simpa using a) (by simpa using b)⟩
   refine⟨?_,fun x hx=>?_⟩
   ·simp only [aFl]
    unfold Bk
    exact⟨u,us,rfl,rep_cdv h0,h1⟩
   ·rcases aE1.1 hx with rfl | hx
    ·exact h0.one
    ·exact h2 x hx
where
 rep_cdv {I:Nat->Prop} {c:C} {v:Value} (h:D3 w I c v):B7 ρ I w (T7 c) v:=by
  cases c with
  | int k n=>unfold T7 B7; exact⟨h.int_.1,Gr.2 h.int_.2⟩
  | bool b=>unfold T7 B7; exact⟨h.bool_,rfl⟩
  | str s=>unfold T7 B7; exact⟨h.str_.1,Nu.2 h.str_.2⟩
  | raw u=>unfold T7 B7; unfold D3 at h; exact⟨h.1,h.2.2⟩
  | sl sz cs=>unfold T7 B7; exact h
  | mp l=>unfold T7 B7; exact h
theorem aY {c:C}:∀ k,men (T7 c) k->False:=by
 intro k hk
 cases c <;> (unfold T7 men at hk; exact hk)
theorem S2:∀ {cs:List C} (k:Nat),E3 (cs.map T7) k->False
 | [],k,hk=>by unfold List.map E3 at hk; exact hk
 | c :: cs,k,hk=>by
  simp only [aFl] at hk
  unfold E3 at hk
  rcases hk with hk | hk
  ·exact aY k hk
  ·exact S2 k hk
theorem Xx {ds:List DV} {i n k:Nat} (h:E3 ((ds.drop i).take n) k):E3 ds k:=by
 have key:∀ {l:List DV},E3 l k↔∃ d,d∈l/\men d k:=by
  intro l
  induction l with
  | nil=>unfold E3; simp
  | cons d l ih=>unfold E3; rw [ih]; simp
 rw [key] at h ⊢
 obtain⟨d,h1,h2⟩:=h
 exact⟨d,aGi (aGs h1),h2⟩
theorem Bk.sub {I:Nat->Prop}:∀ {ds:List DV} {vs:List Value} (_:Bk ρ I w ds vs) (i n:Nat),Bk ρ I w ((ds.drop i).take n) ((vs.drop i).take n)
 | [],vs,h,i,n=>by unfold Bk at h; subst h; simp [Bk]
 | d :: ds,vs,h,0,0=>by simp [Bk]
 | d :: ds,vs,h,0,n + 1=>by
  unfold Bk at h
  obtain⟨u,us,rfl,h1,h2⟩:=h
  have:=Bk.sub h2 0 n
  simp only [aH6,List.take_succ_cons] at this ⊢
  unfold Bk
  exact⟨u,_,rfl,h1,this⟩
 | d :: ds,vs,h,i + 1,n=>by
  unfold Bk at h
  obtain⟨u,us,rfl,h1,h2⟩:=h
  have:=Bk.sub h2 i n
  simpa using this
theorem rU {s ft:TypeId} {x:Operand} {f off sz:Nat} {ds:List DV} {d:DV} {b:Option LB} {tc:Bool} (h:Fd P s f off ft) (ht:Ty P ft false sz) (hd:ds[off]?=some d) (ha:Dr cx ρ σ a w) (hds:Ey σ tc [x]=some [(.agg ds,b)]) (ho:o.op=.field s x f) (hdst:∀ t,o.dst=some t->t < cx.N) (hK:∀ a' w',Jf cx (σ.app o.dst (v0 d)) a' w'->K a' w'):o.wp P a w K Q:=by
 obtain⟨h1,h2,-⟩:=B9 ha (Ih hds)
 unfold B7 at h1
 obtain⟨vs,hv,-,hr⟩:=h1
 obtain⟨v,hv',hd'⟩:=hr.at_ hd
 obtain⟨fields,fd,k1,k2,k3,k4⟩:=h
 subst k3 k4
 refine Ja ha hdst (v:=v) ?_ hd' (fun k hk=>h2 k ?_) hK
 ·simp [execOp,ho,hv,Instr.field,run_underlying k1,k2,part,asAgg,ht.agg,hv']
 ·unfold men
  exact Mp.menL_at hd hk
theorem sC {s ft:TypeId} {x:Operand} {f off sz:Nat} {ds:List DV} {b:Option LB} {tc:Bool} (h:Fd P s f off ft) (ht:Ty P ft true sz) (ha:Dr cx ρ σ a w) (hds:Ey σ tc [x]=some [(.agg ds,b)]) (ho:o.op=.field s x f) (hdst:∀ t,o.dst=some t->t < cx.N) (hK:∀ a' w',Jf cx (σ.app o.dst (v0 (.agg ((ds.drop off).take sz)))) a' w'->K a' w'):o.wp P a w K Q:=by
 obtain⟨h1,h2,-⟩:=B9 ha (Ih hds)
 unfold B7 at h1
 obtain⟨vs,hv,h1c,hr⟩:=h1
 obtain⟨fields,fd,k1,k2,k3,k4⟩:=h
 subst k3 k4
 refine Ja ha hdst (v:=.agg ((vs.drop fd.offset).take sz).toArray) ?_ (by unfold B7; exact⟨_,rfl,fun u hu=>h1c u (aGi (aGs hu)),hr.sub _ _⟩) (fun k hk=>h2 k (by unfold men at *; exact Xx hk)) hK
 have e1:(vs.toArray.extract fd.offset (fd.offset + sz))=((vs.drop fd.offset).take sz).toArray:=by
  simp [List.take_drop]
 simp [execOp,ho,hv,Instr.field,run_underlying k1,k2,part,asAgg,ht.agg,ht.size]
end
end Go.Proofs.YtfanepojdefdpaaGreat
namespace Go.Proofs.YtfanepojdefdpaaGreat
open Go.RowKit
section
variable {P:Program} {cx:Cx} {ρ:Nat->Value} {σ:St} {a:Act} {w:World} {o:Oper} {K:Act->World->Prop} {Q:Exit->Act->World->Prop}
theorem T0 {t e:TypeId} {sz bytes:Nat} (h:Ij P t e sz bytes) (ad:Addr) (n c:Nat) (k:IntKind) {j:Nat} (hj:j < n):(Instr.indexAt t (.slice (some ad) n c) (.int k (j:Int))).run P w=.ok (.pointer (some (ad.add (j * sz)))) w:=by
 rw [run_indexAt_slice w t ad n c k _ h.elem,h.el]
 have h1:0<=(j:Int)/\(j:Int) < (n:Int):=⟨by omega,by omega⟩
 rw [if_pos h1,h.size]
 simp
theorem aBr {t e:TypeId} {x i:Operand} {sz bytes:Nat} {cs:List C} {k:IntKind} {n:Int} {j:Nat} {b b':Option LB} (h:Ij P t e sz bytes) (hj:n=(j:Int)) (hl:j * sz + sz<=cs.length)
  (ha:Dr cx ρ σ a w) (hds:Ey σ true [x,i]=some [(.sl sz cs,b),(.val (.int k n),b')]) (ho:o.op=.indexAddr t x i) (hdst:∀ t,o.dst=some t->t < cx.N) (hK:∀ a' w',Jf cx (σ.app o.dst (v0 (.elt (cs.drop (j * sz))))) a' w'->K a' w'):o.wp P a w K Q:=by
 subst hj
 obtain⟨e1,e2⟩:=K6 hds
 obtain⟨h1,-,-⟩:=B9 ha e1
 have hi:=Ge ha e2
 unfold B7 at h1
 obtain⟨A,m,c,hv,-⟩:=h1.slice
 rw [hv] at h1
 obtain⟨ad,rfl,hjn,hI,hr⟩:=yZ h1 hl h.hsz
 refine Ja ha hdst (v:=.pointer (some (ad.add (j * sz)))) ?_ (by unfold B7; exact⟨_,rfl,hI,hr⟩) (fun k hk=>by unfold men at hk; exact hk.elim) hK
 simp [execOp,ho,hv,hi,T0 h ad m c k hjn]
theorem aBc {t e:TypeId} {x i:Operand} {sz bytes kr e':Nat} {cs:List C} {k:IntKind} {n:Int} {j:Nat} {b':Option LB} (h:Ij P t e sz bytes) (hj:n=(j:Int)) (hl:j * sz + sz<=cs.length)
  (ha:Dr cx ρ σ a w) (hds:Ey σ true [x,i]=some [(.row kr,some (.row e' sz cs)),(.val (.int k n),b')]) (ho:o.op=.indexAddr t x i) (hdst:∀ t,o.dst=some t->t < cx.N) (hK:∀ a' w',Jf cx (σ.app o.dst (v0 (.ptr kr (j * sz)))) a' w'->K a' w'):o.wp P a w K Q:=by
 subst hj
 obtain⟨e1,e2⟩:=K6 hds
 obtain⟨h1,h2,h3⟩:=B9 ha e1
 have hi:=Ge ha e2
 unfold B7 at h1
 obtain⟨m,us,hw,-,hr⟩:=ha.lo _ _ (h3 _ _ rfl rfl)
 have hz:=h.hsz
 have hjm:j < m:=by
  have h1:(j + 1) * sz<=m * sz:=by rw [aF2,aGm,<- hw.1,<- hr.1]; exact hl
  exact aH4 (aHo h1 hz)
 obtain⟨g,cap,hv,hmc,-⟩:=Iv hw (by omega)
 replace h1:=h1.1
 rw [hv] at h1
 refine Ja ha hdst (v:=.pointer (some ⟨g,j * sz,none⟩)) ?_ (by unfold B7; exact⟨g,by rw [hv]; exact Gu (by omega),rfl⟩) (fun k hk=>h2 k (by unfold men at *; exact hk)) hK
 simp [execOp,ho,h1,hi,T0 h _ m cap k hjm,I9]
theorem aAc {t e:TypeId} {x i:Operand} {sz bytes kr off m:Nat} {k:IntKind} {n:Int} {j:Nat} {b b':Option LB} (h:Ij P t e sz bytes) (hj:n=(j:Int)) (hl:j < m)
  (ha:Dr cx ρ σ a w) (hds:Ey σ true [x,i]=some [(.part kr off m,b),(.val (.int k n),b')]) (ho:o.op=.indexAddr t x i) (hdst:∀ t,o.dst=some t->t < cx.N) (hK:∀ a' w',Jf cx (σ.app o.dst (v0 (.ptr kr (off + j * sz)))) a' w'->K a' w'):o.wp P a w K Q:=by
 subst hj
 obtain⟨e1,e2⟩:=K6 hds
 obtain⟨h1,h2,-⟩:=B9 ha e1
 have hi:=Ge ha e2
 unfold B7 at h1
 obtain⟨A,c,hv,-,-,hA,-⟩:=h1
 obtain⟨g,D,rfl⟩:=hA (by omega)
 refine Ja ha hdst (v:=.pointer (some ⟨g,off + j * sz,none⟩)) ?_ (by unfold B7; exact⟨g,D,rfl⟩) (fun k hk=>h2 k (by unfold men at *; exact hk)) hK
 simp [execOp,ho,hv,hi,T0 h _ m c k hl,I9]
theorem Qe {tc:Bool} {x:Operand} {l:List Operand} {q:DV×Option LB} {r:List (DV×Option LB)} (h:Ey σ tc (x :: l)=some (q :: r)):ev σ tc x=some q/\Ey σ tc l=some r:=by
 obtain⟨q',qs,h1,h2,h3⟩:=Qd h
 injection h1 with h1 h1'
 rw [h1,h1']
 exact⟨h2,h3⟩
theorem aG {t:TypeId} {x:Operand} {lo hi:Option Operand}:(Op.slice t x lo hi none).operands.toList=x :: (lo.toArray ++ hi.toArray).toList:=by
 cases lo <;> cases hi <;> rfl
theorem yI {t e:TypeId} {x:Operand} {lo hi:Option Operand} {sz bytes n l h:Nat} {cs:List C} {r:List (DV×Option LB)} {b:Option LB} (hS:Ij P t e sz bytes) (hn:cs.length=n * sz) (hb:vC n lo hi r l h) (hl:l<=h/\h<=n)
  (ha:Dr cx ρ σ a w) (hds:Ey σ true (x :: (lo.toArray ++ hi.toArray).toList)=some ((.sl sz cs,b) :: r)) (ho:o.op=.slice t x lo hi none) (hdst:∀ t,o.dst=some t->t < cx.N) (hK:∀ a' w',Jf cx (σ.app o.dst (v0 (.sl sz ((cs.drop (l * sz)).take ((h - l) * sz))))) a' w'->K a' w'):o.wp P a w K Q:=by
 obtain⟨e1,e2⟩:=Qe hds
 obtain⟨h1,-,-⟩:=B9 ha e1
 unfold B7 at h1
 obtain⟨A,m,c,hv,hm,hmc,hc⟩:=h1.slice
 rw [hv] at h1
 have hmn:m=n:=aD6 hS.hsz (hm.symm.trans hn)
 subst hmn
 have hrun:=Zx (P:=P) (A:=A) (c:=c) hS ha hb e2 hl hmc
 refine Ja ha hdst ?_ (d:=.sl sz ((cs.drop (l * sz)).take ((h - l) * sz))) (v:=.slice (if c=l then A else A.map (·.add (l * sz))) (h - l) (c - l)) (by
  unfold B7
  exact D3.cut h1 hl.1 hl.2 (by omega) (by omega) fun ad hA hlt=>by rw [if_neg (by omega),hA]; rfl) (fun k hk=>by unfold men at hk; exact hk.elim) hK
 simp [execOp,ho,hv,hrun]
theorem aBk {t e:TypeId} {x:Operand} {lo hi:Option Operand} {sz bytes n l h kr e':Nat} {cs:List C} {r:List (DV×Option LB)} (hS:Ij P t e sz bytes) (hn:cs.length=n * sz) (hb:vC n lo hi r l h) (hl:l<=h/\h<=n)
  (ha:Dr cx ρ σ a w) (hds:Ey σ true (x :: (lo.toArray ++ hi.toArray).toList)=some ((.row kr,some (.row e' sz cs)) :: r)) (ho:o.op=.slice t x lo hi none) (hdst:∀ t,o.dst=some t->t < cx.N) (hK:∀ a' w',Jf cx (σ.app o.dst (v0 (.part kr (l * sz) (h - l)))) a' w'->K a' w'):o.wp P a w K Q:=by
 obtain⟨e1,e2⟩:=Qe hds
 obtain⟨h1,h2,h3⟩:=B9 ha e1
 unfold B7 at h1
 obtain⟨m,us,hw,-,hr⟩:=ha.lo _ _ (h3 _ _ rfl rfl)
 have hmn:m=n:=aD6 hS.hsz (hw.1.symm.trans (hr.1.symm.trans hn))
 subst hmn
 have fin:∀ (A:Option Addr) (c:Nat),a.eval x=.slice A m c->m<=c->c<=maxLen->(0 < m->∃ g,Br (ρ kr)=some g/\A=some ⟨g,0,none⟩)->o.wp P a w K Q:=fun A c hv hmc hc hA=>by
  have hsz:=hS.hsz
  have hrun:=Zx (P:=P) (A:=A) (c:=c) hS ha hb e2 hl hmc
  refine Ja ha hdst ?_ (d:=.part kr (l * sz) (h - l)) (v:=.slice (if c=l then A else A.map (·.add (l * sz))) (h - l) (c - l)) (by
   unfold B7
   refine⟨_,_,rfl,by omega,by omega,fun hlt=>?_,fun h0 A' N c' hv'=>?_⟩
   ·obtain⟨g,D,hA'⟩:=hA (by omega)
    refine⟨g,D,?_⟩
    rw [if_neg (by omega),hA']
    simp [I9]
   ·have hl0:l=0:=by
     rcases Nat.mul_eq_zero.1 h0 with h | h <;> omega
    rw [<- h1.1,hv] at hv'
    injection hv' with q1 q2 q3
    rw [hl0,aHa]
    refine⟨?_,by omega⟩
    rw [<- q1]
    split
    ·rfl
    ·cases A <;> simp [Addr.add]) (fun k hk=>h2 k (by unfold men at *; exact hk)) hK
  simp [execOp,ho,hv,hrun]
 rcases hw.2 with ⟨A,hv,rfl⟩ | ⟨g,cap,cur,hv,hc0,-,hmc,hc,-⟩
 ·exact fin A 0 (h1.1.trans hv) (aFf _) (by simp [maxLen]) fun h0=>absurd h0 (by omega)
 ·exact fin _ cap (h1.1.trans hv) hmc hc fun _=>⟨g,by rw [hv]; exact Gu hc0,rfl⟩
theorem Oa {t:TypeId} {sz:Nat} (ht:Ty P t false sz) {ad:Addr} {v:Value} (h:w.cell? ad=some v):(Instr.loadAt t (.pointer (some ad))).run P w=.ok v w:=by
 simp [Instr.loadAt,Instr.sureAddr,loadVar,ht.agg,h]
theorem N6 {t:TypeId} {sz:Nat} (ht:Ty P t true sz) {ad:Addr} {vs:List Value} (hl:vs.length=sz) (h:∀ j v,vs[j]?=some v->w.cell? (ad.add j)=some v):(Instr.loadAt t (.pointer (some ad))).run P w=.ok (.agg vs.toArray) w:=by
 have:=run_loadCells_list (P:=P) w ad vs h
 rw [hl] at this
 simp [Instr.loadAt,Instr.sureAddr,loadVar,ht.agg,ht.size,this]
theorem rP {t:TypeId} {x:Operand} {k i sz bt:Nat} {ds:List DV} {d:DV} (ht:Ty P t false sz) (hd:ds[i]?=some d)
  (ha:Dr cx ρ σ a w) (hds:Ey σ true [x]=some [(.ptr k i,some (.box ds bt))]) (ho:o.op=.load t x) (hdst:∀ t,o.dst=some t->t < cx.N) (hK:∀ a' w',Jf cx (σ.app o.dst (v0 d)) a' w'->K a' w'):o.wp P a w K Q:=by
 obtain⟨h1,h2,h3⟩:=B9 ha (Ih hds)
 have hL:=h3 _ _ rfl rfl
 unfold B7 at h1
 obtain⟨g,D,hv⟩:=h1
 obtain⟨g',vs,q1,q2,-,-,q5⟩:=ha.lo _ _ hL
 rw [q1] at D
 injection D with D
 subst D
 obtain⟨v,hv',hd'⟩:=q5.at_ hd
 refine Ja ha hdst (v:=v) ?_ hd' (fun k' hk'=>(ha.usedL _ _ hL).2 k' (by unfold Nq; exact Mp.menL_at hd hk')) hK
 have:w.cell? ⟨g',i,none⟩=some v:=by simp [World.cell?,q2,hv']
 simp [execOp,ho,hv,Oa ht this]
theorem qB {t:TypeId} {x:Operand} {k i sz bt:Nat} {ds:List DV} (ht:Ty P t true sz) (hl:i + sz<=ds.length)
  (ha:Dr cx ρ σ a w) (hds:Ey σ true [x]=some [(.ptr k i,some (.box ds bt))]) (ho:o.op=.load t x) (hdst:∀ t,o.dst=some t->t < cx.N) (hK:∀ a' w',Jf cx (σ.app o.dst (v0 (.agg ((ds.drop i).take sz)))) a' w'->K a' w'):o.wp P a w K Q:=by
 obtain⟨h1,h2,h3⟩:=B9 ha (Ih hds)
 have hL:=h3 _ _ rfl rfl
 unfold B7 at h1
 obtain⟨g,D,hv⟩:=h1
 obtain⟨g',vs,q1,q2,-,q4,q5⟩:=ha.lo _ _ hL
 rw [q1] at D
 injection D with D
 subst D
 have hlen:=q5.length
 refine Ja ha hdst (v:=.agg ((vs.drop i).take sz).toArray) ?_ (by unfold B7; exact⟨_,rfl,fun u hu=>q4 u (aGi (aGs hu)),q5.sub _ _⟩) (fun k' hk'=>(ha.usedL _ _ hL).2 k' (by unfold Nq; unfold men at hk'; exact Xx hk')) hK
 have:=N6 (w:=w) ht (ad:=⟨g',i,none⟩) (vs:=(vs.drop i).take sz) (by rw [aDy,aD1]; omega) (fun j v hj=>by
  rw [aE9] at hj
  split at hj
  ·rw [aE8] at hj
   rw [I9]
   simp [World.cell?,q2,hj]
  ·cases hj)
 simp [execOp,ho,hv,this]
theorem eH {v:Value} {e s:Nat} {cs:List C} {g i:Nat} {c:C} {I:Nat->Prop} (hw:N3 cx ρ I w v (.row e s cs)) (D:Br v=some g) (hc:cs[i]?=some c):∃ u,w.cell? ⟨g,i,none⟩=some u/\D3 w I c u:=by
 obtain⟨n,us,hw,-,hr⟩:=hw
 have hil:i < us.length:=by rw [<- hr.1]; exact (aBw.1 hc).1
 have hu:us[i]?=some us[i]:=aA1 hil
 rcases hw.2 with ⟨A,h1,-⟩ | ⟨g',cap,cur,h1,h2,hg',h3⟩
 ·rw [h1] at D
  cases A <;> cases D
 ·have hn:0 < n:=by
   rcases aFa n with h | h
   ·rw [hw.1,h] at hil; simp at hil
   ·exact h
  obtain⟨g2,cap2,e1,-,-,e2⟩:=Iv hw hn
  rw [e1] at D
  obtain⟨D,-⟩:=Ft D
  dsimp only at D
  subst D
  exact⟨us[i],e2 i _ hu,hr.2 i c _ hc hu⟩
theorem qX {t:TypeId} {x:Operand} {k i e s sz:Nat} {cs:List C} {c:C} (ht:Ty P t false sz) (hd:cs[i]?=some c)
  (ha:Dr cx ρ σ a w) (hds:Ey σ true [x]=some [(.ptr k i,some (.row e s cs))]) (ho:o.op=.load t x) (hdst:∀ t,o.dst=some t->t < cx.N) (hK:∀ a' w',Jf cx (σ.app o.dst (v0 (T7 c))) a' w'->K a' w'):o.wp P a w K Q:=by
 obtain⟨h1,h2,h3⟩:=B9 ha (Ih hds)
 have hL:=h3 _ _ rfl rfl
 unfold B7 at h1
 obtain⟨g,D,hv⟩:=h1
 obtain⟨u,hu,hr⟩:=eH (ha.lo _ _ hL) D hd
 refine Ja ha hdst (v:=u) ?_ (Bk.map_cdv.rep_cdv hr) (fun k' hk'=>(aY k' hk').elim) hK
 simp [execOp,ho,hv,Oa ht hu]
theorem gC {I:Nat->Prop} {cs:List C} {ad:Addr} (h:∀ j c,cs[j]?=some c->∃ u,w.cell? (ad.add j)=some u/\D3 w I c u):∃ us:List Value,us.length=cs.length/\Fb w I cs us/\∀ j u,us[j]?=some u->w.cell? (ad.add j)=some u:=by
 refine⟨(List.range cs.length).map fun j=>(w.cell? (ad.add j)).getD undef,by simp,⟨by simp,fun j c u hj hu=>?_⟩,fun j u hu=>?_⟩
 ·obtain⟨u',h1,h2⟩:=h j c hj
  have hlt:=(aBw.1 hj).1
  simp [hlt,h1] at hu
  subst hu
  exact h2
 ·have hlt:j < cs.length:=by
   have:=(aBw.1 hu).1
   simpa using this
  obtain⟨u',h1,h2⟩:=h j _ (aA1 hlt)
  simp [hlt,h1] at hu
  rw [h1,hu]
theorem sJ {t:TypeId} {x:Operand} {k i e s sz:Nat} {cs:List C} (ht:Ty P t true sz) (hl:i + sz<=cs.length)
  (ha:Dr cx ρ σ a w) (hds:Ey σ true [x]=some [(.ptr k i,some (.row e s cs))]) (ho:o.op=.load t x) (hdst:∀ t,o.dst=some t->t < cx.N) (hK:∀ a' w',Jf cx (σ.app o.dst (v0 (.agg (((cs.drop i).take sz).map T7)))) a' w'->K a' w'):o.wp P a w K Q:=by
 obtain⟨h1,h2,h3⟩:=B9 ha (Ih hds)
 have hL:=h3 _ _ rfl rfl
 unfold B7 at h1
 obtain⟨g,D,hv⟩:=h1
 obtain⟨us,u1,u2,u3⟩:=gC (w:=w) (I:=I4 cx σ ρ w) (cs:=(cs.drop i).take sz) (ad:=⟨g,i,none⟩) fun j c hj=>by
  rw [aE9] at hj
  split at hj
  ·rw [aE8] at hj
   rw [I9]
   exact eH (ha.lo _ _ hL) D hj
  ·cases hj
 obtain⟨r1,r2⟩:=Bk.map_cdv (ρ:=ρ) u2
 refine Ja ha hdst (v:=.agg us.toArray) ?_ (by unfold B7; exact⟨_,rfl,r2,r1⟩) (fun k' hk'=>(S2 k' (by unfold men at hk'; exact hk')).elim) hK
 have:=N6 (w:=w) ht (ad:=⟨g,i,none⟩) (vs:=us) (by rw [u1,aDy,aD1]; omega) u3
 simp [execOp,ho,hv,this]
theorem qY {t:TypeId} {x:Operand} {sz:Nat} {cs:List C} {c:C} {b:Option LB} (ht:Ty P t false sz) (hd:cs[0]?=some c)
  (ha:Dr cx ρ σ a w) (hds:Ey σ true [x]=some [(.elt cs,b)]) (ho:o.op=.load t x) (hdst:∀ t,o.dst=some t->t < cx.N) (hK:∀ a' w',Jf cx (σ.app o.dst (v0 (T7 c))) a' w'->K a' w'):o.wp P a w K Q:=by
 obtain⟨h1,-,-⟩:=B9 ha (Ih hds)
 unfold B7 at h1
 obtain⟨ad,hv,hI,hr⟩:=h1
 obtain⟨u,hu,hr'⟩:=hr.at_ hd
 have e0:(ad.add (0 + 0))=ad:=by simp [Addr.add]
 rw [e0] at hu
 refine Ja ha hdst (v:=u) ?_ (Bk.map_cdv.rep_cdv hr') (fun k' hk'=>(aY k' hk').elim) hK
 simp [execOp,ho,hv,Oa ht hu]
theorem rE {t:TypeId} {x:Operand} {sz:Nat} {cs:List C} {b:Option LB} (ht:Ty P t true sz) (hl:sz<=cs.length)
  (ha:Dr cx ρ σ a w) (hds:Ey σ true [x]=some [(.elt cs,b)]) (ho:o.op=.load t x) (hdst:∀ t,o.dst=some t->t < cx.N) (hK:∀ a' w',Jf cx (σ.app o.dst (v0 (.agg ((cs.take sz).map T7)))) a' w'->K a' w'):o.wp P a w K Q:=by
 obtain⟨h1,-,-⟩:=B9 ha (Ih hds)
 unfold B7 at h1
 obtain⟨ad,hv,hI,hr⟩:=h1
 obtain⟨us,u1,u2,u3⟩:=gC (w:=w) (I:=I4 cx σ ρ w) (cs:=cs.take sz) (ad:=ad) fun j c hj=>by
  rw [aE9] at hj
  split at hj
  ·have:=hr.at_ hj
   rwa [aE6] at this
  ·cases hj
 obtain⟨r1,r2⟩:=Bk.map_cdv (ρ:=ρ) u2
 refine Ja ha hdst (v:=.agg us.toArray) ?_ (by unfold B7; exact⟨_,rfl,r2,r1⟩) (fun k' hk'=>(S2 k' (by unfold men at hk'; exact hk')).elim) hK
 have:=N6 (w:=w) ht (ad:=ad) (vs:=us) (by rw [u1,aDy]; omega) u3
 simp [execOp,ho,hv,this]
end
end Go.Proofs.YtfanepojdefdpaaGreat
namespace Go.Proofs.YtfanepojdefdpaaGreat
open Go.RowKit
section
variable {P:Program} {cx:Cx} {ρ:Nat->Value} {σ:St} {a:Act} {w w':World} {o:Oper} {K:Act->World->Prop} {Q:Exit->Act->World->Prop}
theorem Cx.Kept.alloc (h:cx.Kept w) (ob:Obj):cx.Kept (w.alloc ob):=by
 obtain⟨h1,h2,h3,h4,h5⟩:=h
 exact⟨h1,h2,h3,aFj h4 (by simp),fun b hb hM=>(Below.heap_alloc w ob b (aGq hb h4)).trans (h5 b hb hM)⟩
theorem Cx.Kept.grown (h:cx.Kept w) {row:Option Nat} (D:w.grownBy w' row) (hr:∀ k,row=some k->cx.w0.heap.size<=k\/cx.M k):cx.Kept w':=by
 obtain⟨h1,h2,h3,h4,h5⟩:=h
 exact⟨D.os.trans h1,D.tape.trans h2,D.output.trans h3,aFj h4 D.size,fun b hb hM=>(D.block b (aGq hb h4) (fun e=>(hr b e.symm).elim (fun h=>by omega) hM)).trans (h5 b hb hM)⟩
theorem aAu {t e:TypeId} {x i:Operand} {sz bytes kr e' o' e2 sz2 s:Nat} {hh:Option Nat} {cs:List C} {k:IntKind} {n:Int} {j:Nat} {b':Option LB} (h:Ij P t e sz bytes) (hj:n=(j:Int)) (hl:j * sz + sz<=cs.length)
  (ha:Dr cx ρ σ a w) (hds:Ey σ true [x,i]=some [(.row kr,some (.tree e' sz o' e2 sz2 s hh cs)),(.val (.int k n),b')]) (ho:o.op=.indexAddr t x i) (hdst:∀ t,o.dst=some t->t < cx.N) (hK:∀ a' w',Jf cx (σ.app o.dst (v0 (.ptr kr (j * sz)))) a' w'->K a' w'):o.wp P a w K Q:=by
 subst hj
 obtain⟨e1,e2⟩:=K6 hds
 obtain⟨h1,h2,h3⟩:=B9 ha e1
 have hi:=Ge ha e2
 unfold B7 at h1
 obtain⟨m,us,vs,q⟩:=ha.lo _ _ (h3 _ _ rfl rfl)
 have hz:=h.hsz
 have hjm:j < m:=by
  have h1:(j + 1) * sz<=m * sz:=by rw [aF2,aGm,<- q.row.1,<- q.hl]; exact hl
  exact aH4 (aHo h1 hz)
 obtain⟨g,cap,hv,hmc,-⟩:=Iv q.row (by omega)
 replace h1:=h1.1
 rw [hv] at h1
 refine Ja ha hdst (v:=.pointer (some ⟨g,j * sz,none⟩)) ?_ (by unfold B7; exact⟨g,by rw [hv]; exact Gu (by omega),rfl⟩) (fun k hk=>h2 k (by unfold men at *; exact hk)) hK
 simp [execOp,ho,h1,hi,T0 h _ m cap k hjm,I9]
theorem mK {I:Nat->Prop} {v:Value} {e sz o' e2 sz2 s hh cs n us vs} (q:Oz cx ρ I w v e sz o' e2 sz2 s hh cs n us vs) {g p:Nat} (D:Br v=some g) (hp:p < cs.length):∃ u,us[p]?=some u/\w.cell? ⟨g,p,none⟩=some u:=by
 have hpl:p < us.length:=by rw [<- q.hl]; exact hp
 have hu:us[p]?=some us[p]:=aA1 hpl
 have hn:0 < n:=by
  rcases aFa n with h | h
  ·rw [q.row.1,h] at hpl; simp at hpl
  ·exact h
 obtain⟨g2,cap2,e1,e3,-,e2⟩:=Iv q.row hn
 rw [e1] at D
 obtain⟨D,-⟩:=Ft D
 dsimp only at D
 subst D
 exact⟨_,hu,e2 p _ hu⟩
theorem qV {t:TypeId} {x:Operand} {k p e sz o' e2 sz2 s z i:Nat} {hh:Option Nat} {cs:List C} (ht:Ty P t false z) (hp:p=i * sz + o') (hh':hh≠some i) (hl:p < cs.length)
  (ha:Dr cx ρ σ a w) (hds:Ey σ true [x]=some [(.ptr k p,some (.tree e sz o' e2 sz2 s hh cs))]) (ho:o.op=.load t x) (hdst:∀ t,o.dst=some t->t < cx.N) (hK:∀ a' w',Jf cx (σ.app o.dst (v0 (.nst k s i))) a' w'->K a' w'):o.wp P a w K Q:=by
 subst hp
 obtain⟨h1,h2,h3⟩:=B9 ha (Ih hds)
 have hL:=h3 _ _ rfl rfl
 unfold B7 at h1
 obtain⟨g,D,hv⟩:=h1
 obtain⟨n,us,vs,q⟩:=ha.lo _ _ hL
 obtain⟨u,hu,hc⟩:=mK q D hl
 have hi:i < vs.size:=by
  have hz:0 < sz:=aGr (aFb _) q.ho
  have h1:i * sz < n * sz:=by rw [<- q.row.1,<- q.hl]; omega
  rw [q.hn]
  exact aHp h1
 have hvi:vs[i]?=some vs[i]:=aFq hi
 have h4:=(q.nest i _ hvi hh').1
 rw [hu] at h4
 injection h4 with h4
 refine Ja ha hdst (v:=u) ?_ (by unfold B7; exact⟨vs,q.hs,by rw [hvi,h4]⟩) (fun k' hk'=>?_) hK
 ·simp [execOp,ho,hv,Oa ht hc]
 ·unfold men at hk'
  rcases hk' with rfl | rfl
  ·exact (ha.usedL _ _ hL).1
  ·exact (ha.usedL _ _ hL).2 _ rfl
def H3 (ρ:Nat->Value) (tk:Nat) (v:Value):Nat->Value:=fun k=>if k=tk then v else ρ k
theorem oG (ha:Dr cx ρ σ a w) (hdst:∀ t,o.dst=some t->t < cx.N) {tk:Nat} (hf:σ.U tk=false) {lb:LB} {ks:List Nat} {d:DV} {v vn:Value} (hrun:(execOp a.eval o).run P w=.ok (.value v) w') (hk:cx.Kept w') (hsz:w.heap.size<=w'.heap.size)
  (hheap:∀ b,b < w.heap.size->(∀ k∈ks,∀ lb',σ.L k=some lb'->¬ own ρ (ρ k) lb' b)->w'.heap[b]?=w.heap[b]?)
  (hblk:∀ b,own (H3 ρ tk vn) vn lb b->w.heap.size<=b\/∃ k'∈ks,∃ lb',σ.L k'=some lb'/\own ρ (ρ k') lb' b)
  (hnew:∀ I':Nat->Prop,(∀ b,I4 cx σ ρ w b->I' b/\w'.heap[b]?=w.heap[b]?)->N3 cx (H3 ρ tk vn) I' w' vn lb/\B7 (H3 ρ tk vn) I' w' d v)
  (hu:(∀ k',Nq lb k'->σ.U k'=true)/\∀ k',men d k'->σ.U k'=true\/k'=tk)
  (hnp:∀ k',k'∈ks->cx.np<=k')
  (hK:∀ a' w',Jf cx (σ.app o.dst (L5 tk lb ks d)) a' w'->K a' w'):o.wp P a w K Q:=by
 unfold Oper.wp
 rw [hrun]
 have hl:∀ k,(L5 tk lb ks d).l k=bif Nat.beq k tk then some (some lb) else (bif ks.any (Nat.beq k) then some none else none):=fun _=>rfl
 have hl1:(L5 tk lb ks d).l tk=some (some lb):=by rw [hl]; simp
 have hl2:∀ k lb',(L5 tk lb ks d).l k=some (some lb')->k=tk/\lb'=lb:=fun k lb' h=>by
  rw [hl] at h
  cases hb:Nat.beq k tk with
  | true=>
   rw [hb] at h
   have:=aDr hb
   injection h with h
   injection h with h
   exact⟨this,h.symm⟩
  | false=>
   rw [hb] at h
   simp only [aCc] at h
   cases hc:ks.any (Nat.beq k) <;> rw [hc] at h <;> cases h
 have hl3:∀ k,k∈ks->(L5 tk lb ks d).l k≠none:=fun k hk=>by
  rw [hl]
  cases hb:Nat.beq k tk with
  | true=>simp
  | false=>
   have:ks.any (Nat.beq k)=true:=aFn.2 ⟨k,hk,by simp⟩
   rw [this]; simp
 have hrt:H3 ρ tk vn tk=vn:=by simp [H3]
 have hro:∀ k,σ.U k=true->H3 ρ tk vn k=ρ k:=fun k hk=>by
  unfold H3
  split
  ·rename_i h; subst h; rw [hf] at hk; cases hk
  ·rfl
 refine hK _ _ ⟨H3 ρ tk vn,ha.app hk hsz hdst hro (fun b hb h=>hheap b hb fun k hk lb' hL=>h k lb' (hl3 k hk) hL) (fun k lb' b h1 h2=>?_) (fun k k' lb1 lb2 b h1 h2 _ _=>by rw [(hl2 k lb1 h1).1,(hl2 k' lb2 h2).1]) (fun hI _=>?_) ⟨fun k lb' k' h1 h2=>?_,fun d' k' h1 h2=>?_⟩ (fun k lb' b h1 h2 h3=>?_)⟩
 ·obtain⟨rfl,rfl⟩:=hl2 k lb' h1
  rw [hrt] at h2
  rcases hblk b h2 with h3 | ⟨k',h3,lb2,h4,h5⟩
  ·exact .inl h3
  ·exact .inr ⟨k',lb2,hl3 k' h3,h4,h5⟩
 ·obtain⟨h1,h2⟩:=hnew _ hI
  refine⟨fun k lb' h=>?_,fun d' hd'=>?_⟩
  ·obtain⟨rfl,rfl⟩:=hl2 k lb' h
   rw [hrt]
   exact h1
  ·have:d=d':=by simpa [L5] using hd'
   subst this
   exact h2
 ·obtain⟨rfl,rfl⟩:=hl2 k lb' h1
  exact .inl (hu.1 k' h2)
 ·have:d=d':=by simpa [L5] using h1
  subst this
  rcases hu.2 k' h2 with h3 | h3
  ·exact .inl h3
  ·subst h3
   exact .inr (by rw [hl1]; simp)
 ·obtain⟨rfl,rfl⟩:=hl2 k lb' h1
  rw [hrt] at h3
  rcases hblk b h3 with h4 | ⟨k',h4,lb2,h5,h6⟩
  ·exact .inl (aFj ha.kept.2.2.2.1 h4)
  ·exact ha.fresh k' lb2 b h5 (hnp k' h4) h6
theorem cP (tk:Nat) (lb:LB) (d:DV):S8 tk lb d=L5 tk lb [] d:=rfl
theorem Bk.ofVals {I:Nat->Prop}:∀ (vs:List Value),(∀ u∈vs,Fr u=true)->Bk ρ I w (vs.map DV.val) vs
 | [],_=>by simp [Bk]
 | v :: vs,hok=>by
  simp only [aFl]
  unfold Bk
  exact⟨v,vs,rfl,Jg (hok v (aE5 ..)),Bk.ofVals vs fun u hu=>hok u (aEz _ hu)⟩
theorem Mn:∀ (vs:List Value) (k:Nat),E3 (vs.map DV.val) k->False
 | [],k,h=>by unfold List.map E3 at h; exact h
 | v :: vs,k,h=>by
  simp only [aFl] at h
  unfold E3 at h
  rcases h with h | h
  ·unfold men at h; exact h
  ·exact Mn vs k h
theorem tN {t:TypeId} {z:List Value} {tk:Nat} (h:Zt P t z) (ha:Dr cx ρ σ a w) (ho:o.op=.alloc t) (hf:σ.U tk=false) (hdst:∀ t,o.dst=some t->t < cx.N) (hK:∀ a' w',Jf cx (σ.app o.dst (S8 tk (.box (z.map .val) t) (.ptr tk 0))) a' w'->K a' w'):o.wp P a w K Q:=by
 obtain⟨v,h1,h2,h3⟩:=h
 have hz:(zeroValue t).run P w=.ok v w:=by
  cases hi:P.info? t with
  | none=>rw [hi] at h1; cases h1
  | some i=>
   rw [hi] at h1
   have:i.zero=some v:=h1
   simp [zeroValue,typeInfo,hi,this]
 rw [cP] at hK
 refine oG (lb:=.box (z.map .val) t) (ks:=[]) (d:=.ptr tk 0) (w':=w.alloc (.cells v.cells t)) ha hdst hf (v:=.pointer (some ⟨w.heap.size,0,none⟩)) (vn:=.pointer (some ⟨w.heap.size,0,none⟩)) ?_ (ha.kept.alloc _) (by simp) (fun b hb _=>Below.heap_alloc w _ b hb) (fun b hb=>.inl (by simp [own,Br] at hb; omega)) (fun I' hI=>⟨?_,?_⟩) ⟨fun k' hk'=>(Mn _ k' hk').elim,fun k' hk'=>.inr (by unfold men at hk'; exact hk')⟩ (fun k' hk'=>by simp at hk') hK
 ·simp [execOp,ho,Instr.alloc,hz,newVar,newRow]
 ·refine⟨w.heap.size,z,rfl,?_,.inl ha.kept.2.2.2.1,fun u hu=>(h3 u hu).1,Bk.ofVals z fun u hu=>(h3 u hu).2⟩
  rw [heap_alloc_new]
  rw [<- h2]
 ·unfold B7
  exact⟨w.heap.size,by simp [H3,Br],rfl⟩
theorem Lj {I:Nat->Prop} {d:DV} {v:Value} (h:B7 ρ I w d v) (ho:(Cn d).all T8=true):∃ us,v.cells.toList=us/\Bk ρ I w (Cn d) us/\∀ u∈us,u.oneCell'=true:=by
 have one:v.oneCell'=true->Cn d=[d]->∃ us,v.cells.toList=us/\Bk ρ I w (Cn d) us/\∀ u∈us,u.oneCell'=true:=fun h1 h2=>by
  refine⟨[v],?_,?_,fun u hu=>by simp at hu; subst hu; exact h1⟩
  ·cases v <;> first | rfl | cases h1
  ·rw [h2]
   unfold Bk
   exact⟨v,[],rfl,h,by simp [Bk]⟩
 cases d with
 | val x=>
  have h':=h
  unfold B7 at h'
  obtain⟨h',-⟩:=h'
  subst h'
  exact one (by simpa [Cn,T8] using ho) rfl
 | sl sz cs=>
  have h':=h
  unfold B7 at h'
  obtain⟨A,n,c,e,-⟩:=h'.slice
  exact one (by rw [e]; rfl) rfl
 | slc sz cs=>
  have h':=h
  unfold B7 at h'
  obtain⟨-,A,n,e,-⟩:=h'
  exact one (by rw [e]; rfl) rfl
 | mp l=>
  have h':=h
  unfold B7 D3 at h'
  obtain⟨g,e,-⟩:=h'
  exact one (by rw [e]; rfl) rfl
 | nst k s i=>simp [Cn,T8] at ho
 | npt k s i p=>simp [Cn,T8] at ho
 | npr k s i p n'=>simp [Cn,T8] at ho
 | qpt k i=>simp [Cn,T8] at ho
 | row k=>
  have h':=h
  unfold B7 at h'
  exact one (by rw [h'.1]; exact h'.2) rfl
 | part k off n=>
  have h':=h
  unfold B7 at h'
  obtain⟨A,c,e,-⟩:=h'
  exact one (by rw [e]; rfl) rfl
 | ptr k i=>
  have h':=h
  unfold B7 at h'
  obtain⟨g,-,e⟩:=h'
  exact one (by rw [e]; rfl) rfl
 | elt cs=>
  have h':=h
  unfold B7 at h'
  obtain⟨ad,e,-⟩:=h'
  exact one (by rw [e]; rfl) rfl
 | agg ds=>
  unfold B7 at h
  obtain⟨vs,rfl,h1,h2⟩:=h
  exact⟨vs,by simp [Value.cells],h2,h1⟩
 | tup ds=>simp [Cn,T8] at ho
 | clo f n ds=>
  have h':=h
  unfold B7 at h'
  obtain⟨vs,e,-⟩:=h'
  exact one (by rw [e]; rfl) rfl
theorem Qv {d:DV} {k:Nat} (h:E3 (Cn d) k):men d k:=by
 cases d with
 | agg ds=>unfold men; exact h
 | _=>
  have h':E3 [_] k:=h
  unfold E3 E3 at h'
  rcases h' with h' | h'
  ·exact h'
  ·exact h'.elim
theorem aCd {t:TypeId} {x:Operand} {d:DV} {b:Option LB} {tk:Nat} {tc:Bool} (hoc:(Cn d).all T8=true) (ha:Dr cx ρ σ a w) (hds:Ey σ tc [x]=some [(d,b)]) (ho:o.op=.box t x) (hf:σ.U tk=false) (hdst:∀ t,o.dst=some t->t < cx.N) (hK:∀ a' w',Jf cx (σ.app o.dst (S8 tk (.box (Cn d) t) (.ptr tk 0))) a' w'->K a' w'):o.wp P a w K Q:=by
 obtain⟨h1,h2,-⟩:=B9 ha (Ih hds)
 obtain⟨us,e1,e2,e3⟩:=Lj h1 hoc
 rw [cP] at hK
 refine oG (lb:=.box (Cn d) t) (ks:=[]) (d:=.ptr tk 0) (w':=w.alloc (.cells (a.eval x).cells t)) ha hdst hf (v:=.pointer (some ⟨w.heap.size,0,none⟩)) (vn:=.pointer (some ⟨w.heap.size,0,none⟩)) ?_ (ha.kept.alloc _) (by simp) (fun b hb _=>Below.heap_alloc w _ b hb) (fun b hb=>.inl (by simp [own,Br] at hb; omega)) (fun I' hI=>⟨?_,?_⟩) ⟨fun k' hk'=>h2 k' (Qv hk'),fun k' hk'=>.inr (by unfold men at hk'; exact hk')⟩ (fun k' hk'=>by simp at hk') hK
 ·simp [execOp,ho,Instr.box,newVar,newRow]
 ·refine⟨w.heap.size,us,rfl,?_,.inl ha.kept.2.2.2.1,e3,Bk.step hI _ _ (fun k hk=>?_) e2⟩
  ·rw [heap_alloc_new,<- e1]
  ·have:=h2 k (Qv hk)
   unfold H3
   split
   ·rename_i h; subst h; rw [hf] at this; cases this
   ·rfl
 ·unfold B7
  exact⟨w.heap.size,by simp [H3,Br],rfl⟩
end
end Go.Proofs.YtfanepojdefdpaaGreat
