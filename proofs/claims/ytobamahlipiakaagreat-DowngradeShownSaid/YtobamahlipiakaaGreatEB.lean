import Derived.Test.YtobamahlipiakaaGreatEA
import Derived.Laws.CopyRow
import Derived.Laws.MakeOwn
import Derived.Laws.OwnMore
import Derived.Laws.IdiomStrings
set_option linter.unusedVariables false
set_option linter.unusedSimpArgs false
namespace Go.Proofs.YtobamahlipiakaaGreat
open Go.RowKit
def aOv:TypeDesc->Bool
 | .struct _=>true
 | .array _ _=>true
 | _=>false
structure Ty (P:Program) (t:TypeId) (ag:Bool) (sz:Nat):Prop where
 hi:(P.info? t).map (·.size)=some sz
 hu:(P.underlying t).map aOv=some ag
def Zt (P:Program) (t:TypeId) (z:List Value):Prop:=∃ v,(P.info? t).bind (·.zero)=some v/\v.cells.toList=z/\∀ u∈z,u.oneCell'=true/\Gd u=true
def Fd (P:Program) (s:TypeId) (f off:Nat) (ft:TypeId):Prop:=∃ fields fd,P.underlying s=some (.struct fields)/\fields[f]?=some fd/\fd.offset=off/\fd.type=ft
def V2:C->DV
 | .int k n=>.val (.int k n)
 | .bool b=>.val (.bool b)
 | .str s=>.val (.string s)
 | .raw v=>.val v
 | .sl sz cs=>.sl sz cs
 | .mp l=>.mp l
def Kx (P:Program):Nat->TypeId->List (Option Nat)
 | 0,_=>[none]
 | n + 1,t=>match P.underlying t with
  | some (.slice e)=>[(P.info? e).map (·.size)]
  | some (.struct fs)=>fs.toList.flatMap fun f=>Kx P n f.type
  | some (.array m e)=>(List.replicate m (Kx P n e)).flatten
  | _=>[none]
def Do:DV->List DV
 | .agg ds=>ds
 | d=>[d]
def eG:DV->Bool
 | .val v=>v.oneCell'
 | .tup _=>false
 | _=>true
def El {α:Type} (l:List α) (i:Nat) (xs:List α):List α:=l.take i ++ xs ++ l.drop (i + xs.length)
def Jd (place:Nat->Option (Nat×Nat)):List DV->List (Nat×DV)->Option (List DV)
 | cells,[]=>some cells
 | cells,(i,d) :: rest=>match place i with
  | none=>none
  | some (off,size)=>bif Nat.beq (Do d).length size && Nat.ble (off + size) cells.length then Jd place (El cells off (Do d)) rest else none
inductive kF:DV×Option LB->Nat->List C->Prop
 | sl {sz cs b}:kF (.sl sz cs,b) sz cs
 | row {k e sz cs}:kF (.row k,some (.row e sz cs)) sz cs
 | part {k off n e sz cs} (h:off + n * sz<=cs.length):kF (.part k off n,some (.row e sz cs)) sz ((cs.drop off).take (n * sz))
inductive qH:DV×Option LB->Nat->List C->Prop
 | sl {sz cs b}:qH (.sl sz cs,b) sz cs
 | row {k e sz cs}:qH (.row k,some (.row e sz cs)) sz cs
 | part {k off n e sz cs} (h:off + n * sz<=cs.length):qH (.part k off n,some (.row e sz cs)) sz ((cs.drop off).take (n * sz))
 | nil {sz b}:qH (.val (.slice none 0 0),b) sz []
theorem kF.src {q:DV×Option LB} {sz:Nat} {cs:List C} (h:kF q sz cs):qH q sz cs:=by
 cases h with
 | sl=>exact .sl
 | row=>exact .row
 | part h=>exact .part h
inductive Tgt:DV×Option LB->Nat->Nat->List C->List Nat->Prop
 | row {k e sz cs}:Tgt (.row k,some (.row e sz cs)) e sz cs [k]
 | part {k n e sz cs} (hn:n * sz<=cs.length):Tgt (.part k 0 n,some (.row e sz cs)) e sz (cs.take (n * sz)) [k]
 | nil {e sz b}:Tgt (.val (.slice none 0 0),b) e sz [] []
inductive Len:DV×Option LB->Nat->Prop
 | sl {sz cs b n} (hz:0 < sz) (h:cs.length=n * sz):Len (.sl sz cs,b) n
 | row {k e sz cs n} (hz:0 < sz) (h:cs.length=n * sz):Len (.row k,some (.row e sz cs)) n
 | part {k off n b}:Len (.part k off n,b) n
def bnd (n:Nat):Option Operand->Option Operand->List (DV×Option LB)->Nat->Nat->Prop
 | none,none,r,l,h=>r=[]/\l=0/\h=n
 | some _,none,r,l,h=>(∃ b k x,r=[(.val (.int k x),b)]/\x=(l:Int))/\h=n
 | none,some _,r,l,h=>(∃ b k x,r=[(.val (.int k x),b)]/\x=(h:Int))/\l=0
 | some _,some _,r,l,h=>∃ b b' k k' x y,r=[(.val (.int k x),b),(.val (.int k' y),b')]/\x=(l:Int)/\y=(h:Int)
def Rj (tk:Nat) (lb:LB) (d:DV):Ow:=⟨some d,fun k=>bif Nat.beq k tk then some (some lb) else none⟩
def P6 (tk:Nat) (lb:LB) (ks:List Nat) (d:DV):Ow:=⟨some d,fun k=>bif Nat.beq k tk then some (some lb) else (bif ks.any (Nat.beq k) then some none else none)⟩
def P1 (k0:Nat) (lb:LB):Ow:=⟨none,fun k=>bif Nat.beq k k0 then some (some lb) else none⟩
def v0 (d:DV):Ow:=rR (some d)
def xE (P:Program) (t:TypeId):Bool:=match P.underlying t with | some (.slice _)=>false | some _=>true | none=>false
mutual
def Ox:DV->Option Value
 | .val v=>some v
 | .agg ds=>match Td ds with | some vs=>some (.agg vs.toArray) | none=>none
 | .sl _ _=>none
 | .slc _ _=>none
 | .mp _=>none
 | .row _=>none
 | .part _ _ _=>none
 | .ptr _ _=>none
 | .elt _=>none
 | .tup _=>none
 | .clo _ _ _=>none
def Td:List DV->Option (List Value)
 | []=>some []
 | d :: ds=>match Ox d,Td ds with | some v,some vs=>some (v :: vs) | _,_=>none
end
section
variable {ρ:Nat->Value} {I:Nat->Prop} {w:World}
mutual
theorem C3.dval:∀ (d:DV) (v u:Value),C3 ρ I w d v->Go.Proofs.YtobamahlipiakaaGreat.Ox d=some u->v=u
 | .val _,v,u,h,hd=>by
  unfold C3 at h
  unfold Go.Proofs.YtobamahlipiakaaGreat.Ox at hd
  injection hd with hd
  rw [h.1,hd]
 | .agg ds,v,u,h,hd=>by
  unfold C3 at h
  obtain⟨vs,rfl,-,h⟩:=h
  unfold Go.Proofs.YtobamahlipiakaaGreat.Ox at hd
  cases hv:Td ds with
  | none=>rw [hv] at hd; cases hd
  | some us=>
   rw [hv] at hd
   injection hd with hd
   rw [<- hd,B5.dvals ds vs us h hv]
 | .sl _ _,_,_,_,hd=>by unfold Go.Proofs.YtobamahlipiakaaGreat.Ox at hd; cases hd
 | .slc _ _,_,_,_,hd=>by unfold Go.Proofs.YtobamahlipiakaaGreat.Ox at hd; cases hd
 | .mp _,_,_,_,hd=>by unfold Go.Proofs.YtobamahlipiakaaGreat.Ox at hd; cases hd
 | .row _,_,_,_,hd=>by unfold Go.Proofs.YtobamahlipiakaaGreat.Ox at hd; cases hd
 | .part _ _ _,_,_,_,hd=>by unfold Go.Proofs.YtobamahlipiakaaGreat.Ox at hd; cases hd
 | .ptr _ _,_,_,_,hd=>by unfold Go.Proofs.YtobamahlipiakaaGreat.Ox at hd; cases hd
 | .elt _,_,_,_,hd=>by unfold Go.Proofs.YtobamahlipiakaaGreat.Ox at hd; cases hd
 | .tup _,_,_,_,hd=>by unfold Go.Proofs.YtobamahlipiakaaGreat.Ox at hd; cases hd
 | .clo _ _ _,_,_,_,hd=>by unfold Go.Proofs.YtobamahlipiakaaGreat.Ox at hd; cases hd
theorem B5.dvals:∀ (ds:List DV) (vs us:List Value),B5 ρ I w ds vs->Go.Proofs.YtobamahlipiakaaGreat.Td ds=some us->vs=us
 | [],vs,us,h,hd=>by
  unfold B5 at h
  unfold Go.Proofs.YtobamahlipiakaaGreat.Td at hd
  injection hd with hd
  rw [h,hd]
 | d :: ds,vs,us,h,hd=>by
  unfold B5 at h
  obtain⟨u,us',rfl,h1,h2⟩:=h
  unfold Go.Proofs.YtobamahlipiakaaGreat.Td at hd
  cases hv:Go.Proofs.YtobamahlipiakaaGreat.Ox d with
  | none=>rw [hv] at hd; cases hd
  | some v=>
   cases hv':Go.Proofs.YtobamahlipiakaaGreat.Td ds with
   | none=>rw [hv,hv'] at hd; cases hd
   | some vs'=>
    rw [hv,hv'] at hd
    injection hd with hd
    rw [<- hd,C3.dval d u v h1 hv,B5.dvals ds us' vs' h2 hv']
end
end
theorem C3.dval_ok {ρ:Nat->Value} {I:Nat->Prop} {w:World} {d:DV} {v u:Value} (h:C3 ρ I w d v) (hd:Go.Proofs.YtobamahlipiakaaGreat.Ox d=some u):Gd u=true:=by
 cases d with
 | val x=>
  unfold C3 at h
  unfold Go.Proofs.YtobamahlipiakaaGreat.Ox at hd
  injection hd with hd
  rw [<- hd]; exact h.2
 | agg ds=>
  unfold Go.Proofs.YtobamahlipiakaaGreat.Ox at hd
  cases hv:Td ds with
  | none=>rw [hv] at hd; cases hd
  | some us=>rw [hv] at hd; injection hd with hd; subst hd; rfl
 | _=>unfold Go.Proofs.YtobamahlipiakaaGreat.Ox at hd; cases hd
inductive Gw (P:Program):Nat->Op->TypeId->List (DV×Option LB)->List Nat->Ow->Prop
 | move {tk x ty d b}:Gw P tk (.move x) ty [(d,b)] [] (v0 d)
 | assign {tk x ty d b}:Gw P tk (.assign x) ty [(d,b)] [] (v0 d)
 | pick {tk x y z ty c b1 d1 b2 d2 b3}:Gw P tk (.pick x y z) ty [(.val (.bool c),b1),(d1,b2),(d2,b3)] [] (v0 (bif c then d1 else d2))
 | binOpA {tk op xt yt x y ty d1 d2 vx vy v b1 b2} (h1:Ox d1=some vx) (h2:Ox d2=some vy) (hv:Gd vx=true->Gd vy=true->Gd v=true) (h:∀ w,(do eqGuard op xt x y vx vy; binOp op xt vx vy:Sem Value).run P w=.ok v w):Gw P tk (.binOp op xt x y yt) ty [(d1,b1),(d2,b2)] [] (v0 (.val v))
 | unOp {tk op xt x ty vx v b1} (hv:Gd vx=true->Gd v=true) (h:∀ w,(Op.unary op vx).run P w=.ok v w):Gw P tk (.unOp op xt x) ty [(.val vx,b1)] [] (v0 (.val v))
 | conv {tk src dst x ty vx v b1} (hs:xE P src=true) (hd:xE P dst=true) (hv:Gd vx=true->Gd v=true) (h:∀ w,(convert src dst vx).run P w=.ok v w):Gw P tk (.convert src dst x) ty [(.val vx,b1)] [] (v0 (.val v))
 | convB {tk src dst e x ty s b} (hs:P.underlying src=some .string) (hd:P.underlying dst=some (.slice e)) (he:P.underlying e=some (.int .u8)):Gw P tk (.convert src dst x) ty [(.val (.string s),b)] [] (v0 (.sl 1 (Lc s.data.toList)))
 | indexA {tk t x i ty ds k n d b1 b2 e m} {j:Nat} (ht:P.underlying t=some (.array m e)) (he:Ty P e false 1) (hj:n=(j:Int)) (hl:ds.length=m) (hd:ds[j]?=some d):Gw P tk (.index t x i) ty [(.agg ds,b1),(.val (.int k n),b2)] [] (v0 d)
 | indexAA {tk t x i ty ds ds' k n b1 b2 e m sz} {j:Nat} (ht:P.underlying t=some (.array m e)) (he:Ty P e true sz) (hj:n=(j:Int)) (hl:j < m) (hd:(ds.drop (j * sz)).take sz=ds'):Gw P tk (.index t x i) ty [(.agg ds,b1),(.val (.int k n),b2)] [] (v0 (.agg ds'))
 | idxA {tk t x i ty k n kr p b b' e m ag sz} {j:Nat} (ht:P.underlying t=some (.array m e)) (he:Ty P e ag sz) (hj:n=(j:Int)) (hl:j < m):Gw P tk (.indexAddr t x i) ty [(.ptr kr p,b),(.val (.int k n),b')] [] (v0 (.ptr kr (p + j * sz)))
 | indexS {tk t x i ty vx vi v b1 b2} (hv:Gd vx=true->Gd vi=true->Gd v=true) (h:∀ w,(Instr.index t vx vi).run P w=.ok v w):Gw P tk (.index t x i) ty [(.val vx,b1),(.val vi,b2)] [] (v0 (.val v))
 | len {tk x t ty d n} (ht:P.underlying t=some (.slice (P.elem t))) (h:Len d n):Gw P tk (.call ⟨.builtin .len,#[x],#[t]⟩) ty [d] [] (v0 (.val (.int .i64 n)))
 | callV1 {tk bt ts x ty vx v b1} (hv:Gd vx=true->Gd v=true) (h:∀ w,∀ cs,(builtin bt ts ty cs #[vx]).run P w=.ok (.value v) w):Gw P tk (.call ⟨.builtin bt,#[x],ts⟩) ty [(.val vx,b1)] [] (v0 (.val v))
 | callV2 {tk bt ts x y ty vx vy v b1 b2} (hb:bt≠.append) (hv:Gd vx=true->Gd vy=true->Gd v=true) (h:∀ w,∀ cs,(builtin bt ts ty cs #[vx,vy]).run P w=.ok (.value v) w):Gw P tk (.call ⟨.builtin bt,#[x,y],ts⟩) ty [(.val vx,b1),(.val vy,b2)] [] (v0 (.val v))
 | extract {tk x i ty ds d b} (h:ds[i]?=some d):Gw P tk (.extract x i) ty [(.tup ds,b)] [] (v0 d)
 | nilP {tk x ty k i b}:Gw P tk (.nilCheck x) ty [(.ptr k i,b)] [] (v0 (.ptr k i))
 | nilE {tk x ty cs b}:Gw P tk (.nilCheck x) ty [(.elt cs,b)] [] (v0 (.elt cs))
 | fieldP {tk s x f ty k i b off ft sz ag} (h:Fd P s f off ft) (ht:Ty P ft ag sz) (hz:0 < sz):Gw P tk (.fieldAddr s x f) ty [(.ptr k i,b)] [] (v0 (.ptr k (i + off)))
 | fieldE {tk s x f ty cs b off ft sz ag} (h:Fd P s f off ft) (ht:Ty P ft ag sz) (hz:0 < sz) (hl:off < cs.length):Gw P tk (.fieldAddr s x f) ty [(.elt cs,b)] [] (v0 (.elt (cs.drop off)))
 | field1 {tk s x f ty ds b off ft sz d} (h:Fd P s f off ft) (ht:Ty P ft false sz) (hd:ds[off]?=some d):Gw P tk (.field s x f) ty [(.agg ds,b)] [] (v0 d)
 | fieldA {tk s x f ty ds b off ft sz} (h:Fd P s f off ft) (ht:Ty P ft true sz):Gw P tk (.field s x f) ty [(.agg ds,b)] [] (v0 (.agg ((ds.drop off).take sz)))
 | idxS {tk t x i ty e sz bytes cs k n b b'} {j:Nat} (h:Iy P t e sz bytes) (hj:n=(j:Int)) (hl:j * sz + sz<=cs.length):Gw P tk (.indexAddr t x i) ty [(.sl sz cs,b),(.val (.int k n),b')] [] (v0 (.elt (cs.drop (j * sz))))
 | idxR {tk t x i ty e sz bytes cs k n kr e' b'} {j:Nat} (h:Iy P t e sz bytes) (hj:n=(j:Int)) (hl:j * sz + sz<=cs.length):Gw P tk (.indexAddr t x i) ty [(.row kr,some (.row e' sz cs)),(.val (.int k n),b')] [] (v0 (.ptr kr (j * sz)))
 | sliS {tk t x lo hi ty e sz bytes cs n l h r b} (hS:Iy P t e sz bytes) (hn:cs.length=n * sz) (hb:bnd n lo hi r l h) (hl:l<=h/\h<=n):Gw P tk (.slice t x lo hi none) ty ((.sl sz cs,b) :: r) [] (v0 (.sl sz ((cs.drop (l * sz)).take ((h - l) * sz))))
 | sliR {tk t x lo hi ty e sz bytes cs n l h r kr e'} (hS:Iy P t e sz bytes) (hn:cs.length=n * sz) (hb:bnd n lo hi r l h) (hl:l<=h/\h<=n):Gw P tk (.slice t x lo hi none) ty ((.row kr,some (.row e' sz cs)) :: r) [] (v0 (.part kr (l * sz) (h - l)))
 | loadB1 {tk t x ty k i ds bt sz d} (ht:Ty P t false sz) (hd:ds[i]?=some d):Gw P tk (.load t x) ty [(.ptr k i,some (.box ds bt))] [] (v0 d)
 | loadBA {tk t x ty k i ds bt sz} (ht:Ty P t true sz) (hl:i + sz<=ds.length):Gw P tk (.load t x) ty [(.ptr k i,some (.box ds bt))] [] (v0 (.agg ((ds.drop i).take sz)))
 | loadR1 {tk t x ty k i e s cs sz c} (ht:Ty P t false sz) (hd:cs[i]?=some c):Gw P tk (.load t x) ty [(.ptr k i,some (.row e s cs))] [] (v0 (V2 c))
 | loadRA {tk t x ty k i e s cs sz} (ht:Ty P t true sz) (hl:i + sz<=cs.length):Gw P tk (.load t x) ty [(.ptr k i,some (.row e s cs))] [] (v0 (.agg (((cs.drop i).take sz).map V2)))
 | loadE1 {tk t x ty cs b sz c} (ht:Ty P t false sz) (hd:cs[0]?=some c):Gw P tk (.load t x) ty [(.elt cs,b)] [] (v0 (V2 c))
 | loadEA {tk t x ty cs b sz} (ht:Ty P t true sz) (hl:sz<=cs.length):Gw P tk (.load t x) ty [(.elt cs,b)] [] (v0 (.agg ((cs.take sz).map V2)))
 | storeB {tk t x y ty k i ds bt sz ag d b} (ht:Ty P t ag sz) (hs:(Do d).length=sz) (hi:i + sz<=ds.length) (ho:(Do d).all eG=true):Gw P tk (.store t x y) ty [(.ptr k i,some (.box ds bt)),(d,b)] [k] (P1 k (.box (El ds i (Do d)) bt))
 | storeR {tk t x y ty k i e s cs sz ag d b cs'} (ht:Ty P t ag sz) (hs:(Do d).length=sz) (hi:i + sz<=cs.length) {ck:List (Option Nat)} (hk:Kx P 20 t=ck) (hd:M2 ck (Do d) cs'):Gw P tk (.store t x y) ty [(.ptr k i,some (.row e s cs)),(d,b)] [k] (P1 k (.row e s (El cs i cs')))
 | makeFunc {tk f first caps ty ds}:Gw P tk (.makeFunc (.func f) first caps) ty ds [] (v0 (.clo f first.size (ds.map (·.1))))
 | alloc {tk t ty z} (h:Zt P t z):Gw P tk (.alloc t) ty [] [] (Rj tk (.box (z.map .val) t) (.ptr tk 0))
 | box {tk t x ty d b} (ho:(Do d).all eG=true):Gw P tk (.box t x) ty [(d,b)] [] (Rj tk (.box (Do d) t) (.ptr tk 0))
 | build {tk t parts ty ds fields z r} {places:List (Nat×Nat)} (hu:P.underlying t=some (.struct fields)) (hp:fields.toList.map (fun f=>(P.info? f.type).map fun i=>(f.offset,i.size))=places.map some) (hz:Zt P t z) (hd:Jd (fun i=>places[i]?) (z.map .val) ((parts.toList.map (·.1)).zip (ds.map (·.1)))=some r) (ho:ds.all (fun q=>(Do q.1).all eG)=true):Gw P tk (.build t parts) ty ds [] (v0 (.agg r))
 | buildArr {tk t parts ty ds m e sz r z} (hu:P.underlying t=some (.array m e)) (he:(P.info? e).map (·.size)=some sz) (hz:Zt P t z) (hd:Jd (fun i=>some (i * sz,sz)) (z.map .val) ((parts.toList.map (·.1)).zip (ds.map (·.1)))=some r) (ho:ds.all (fun q=>(Do q.1).all eG)=true):Gw P tk (.build t parts) ty ds [] (v0 (.agg r))
 | buildSl {tk t len parts ty ds e sz bytes z r cs} (hS:Iy P t e sz bytes) (hz:Zt P e z) (hlen:len * sz<=16777216) (hd:Jd (fun i=>some (i * sz,sz)) ((List.replicate len (z.map DV.val)).flatten) ((parts.toList.map (·.1)).zip (ds.map (·.1)))=some r) {ck:List (Option Nat)} (hk:Kx P 20 e=ck) (hc:M2 (List.replicate len ck).flatten r cs) (ho:ds.all (fun q=>(Do q.1).all eG)=true):Gw P tk (.buildSlice t len parts) ty ds [] (Rj tk (.row e sz cs) (.row tk))
 | append {tk x y t ty e sz bytes d d' cs ks cs'} (hS:Iy P t e sz bytes) (ht:Tgt d e sz cs ks) (hs:qH d' sz cs') (hl:(cs.length + cs'.length) * bytes<=140737488355328):Gw P tk (.call ⟨.builtin .append,#[x,y],#[t,t]⟩) ty [d,d'] ks (P6 tk (.row e sz (cs ++ cs')) ks (.row tk))
theorem Gw.binOp {P:Program} {tk op xt yt x y ty vx vy v b1 b2} (hv:Gd vx=true->Gd vy=true->Gd v=true) (h:∀ w,(do eqGuard op xt x y vx vy; Go.binOp op xt vx vy:Sem Value).run P w=.ok v w):Gw P tk (.binOp op xt x y yt) ty [(.val vx,b1),(.val vy,b2)] [] (v0 (.val v)):=.binOpA rfl rfl hv h
end Go.Proofs.YtobamahlipiakaaGreat
namespace Go.Proofs.YtobamahlipiakaaGreat
open Go.RowKit
section
variable {P:Program} {cx:Cx} {ρ:Nat->Value} {σ:St} {a:Act} {w:World}
theorem Vs {tc:Bool} {x:Operand} {l:List Operand} {ds:List (DV×Option LB)} (h:Fz σ tc (x :: l)=some ds):∃ q qs,ds=q :: qs/\ev σ tc x=some q/\Fz σ tc l=some qs:=by
 unfold Fz at h
 cases h1:ev σ tc x with
 | none=>rw [h1] at h; cases h
 | some q=>
  rw [h1] at h
  simp only [] at h
  cases h2:Fz σ tc l with
  | none=>rw [h2] at h; cases h
  | some qs=>
   rw [h2] at h
   simp only [] at h
   injection h with h
   exact⟨q,qs,h.symm,rfl,rfl⟩
theorem Mb {tc:Bool} {x:Operand} {q:DV×Option LB} (h:Fz σ tc [x]=some [q]):ev σ tc x=some q:=by
 obtain⟨q',qs,h1,h2,h3⟩:=Vs h
 injection h1 with h1 _
 rw [h1]; exact h2
theorem Pz {tc:Bool} {x y:Operand} {q r:DV×Option LB} (h:Fz σ tc [x,y]=some [q,r]):ev σ tc x=some q/\ev σ tc y=some r:=by
 obtain⟨q',qs,h1,h2,h3⟩:=Vs h
 injection h1 with h1 h1'
 subst h1 h1'
 exact⟨h2,Mb h3⟩
theorem aIv {tc:Bool} {x y z:Operand} {q r s:DV×Option LB} (h:Fz σ tc [x,y,z]=some [q,r,s]):ev σ tc x=some q/\ev σ tc y=some r/\ev σ tc z=some s:=by
 obtain⟨q',qs,h1,h2,h3⟩:=Vs h
 injection h1 with h1 h1'
 subst h1 h1'
 exact⟨h2,Pz h3⟩
theorem Dm (ha:Ew cx ρ σ a w) {tc:Bool} {x:Operand} {d:DV} {b:Option LB} (h:ev σ tc x=some (d,b)) :
  C3 ρ (Nc cx σ ρ w) w d (a.eval x)/\(∀ k,men d k->σ.U k=true)/\∀ k lb,O6 d=some k->b=some lb->σ.L k=some lb:=by
 cases x with
 | tmp t=>
  simp only [ev] at h
  cases hF:σ.F t with
  | none=>rw [hF] at h; cases h
  | some d'=>
   rw [hF] at h
   injection h with h
   injection h with h1 h2
   subst h1
   refine⟨ha.fr t d' hF,fun k hk=>ha.usedF t d' k hF hk,fun k lb hk hb=>?_⟩
   rw [<- h2,hk] at hb
   cases tc with
   | false=>cases hb
   | true=>exact hb
 | const v=>
  simp only [ev] at h
  cases hv:Gd v with
  | false=>rw [hv] at h; cases h
  | true=>
  rw [hv] at h
  injection h with h
  injection h with h1 h2
  subst h1
  exact⟨by unfold C3; exact⟨rfl,hv⟩,fun k hk=>by unfold men at hk; exact hk.elim,fun k lb hk=>by cases hk⟩
 | global g=>simp [ev] at h
 | func f=>
  simp only [ev] at h
  injection h with h
  injection h with h1 h2
  subst h1
  exact⟨by unfold C3; exact⟨rfl,rfl⟩,fun k hk=>by unfold men at hk; exact hk.elim,fun k lb hk=>by cases hk⟩
theorem F5 (ha:Ew cx ρ σ a w) {tc:Bool} {x:Operand} {v:Value} {b:Option LB} (h:ev σ tc x=some (.val v,b)):a.eval x=v:=by
 have:=(Dm ha h).1
 unfold C3 at this
 exact this.1
theorem Vh (ha:Ew cx ρ σ a w) {tc:Bool} {x:Operand} {v:Value} {b:Option LB} (h:ev σ tc x=some (.val v,b)):Gd v=true:=by
 have:=(Dm ha h).1
 unfold C3 at this
 exact this.2
theorem L2 (ha:Ew cx ρ σ a w) {o:Oper} (hdst:∀ t,o.dst=some t->t < cx.N) {d:DV} {v:Value} (hrun:(execOp a.eval o).run P w=.ok (.value v) w) (hd:C3 ρ (Nc cx σ ρ w) w d v) (hu:∀ k,men d k->σ.U k=true)
  {K:Act->World->Prop} {Q:Exit->Act->World->Prop} (hK:∀ a' w',Mx cx (σ.app o.dst (v0 d)) a' w'->K a' w'):o.wp P a w K Q:=by
 unfold Oper.wp
 rw [hrun]
 exact hK _ _ ⟨ρ,ha.put0 hdst (fun x hx=>by injection hx with hx; subst hx; exact hd) (fun x k hx hm=>by injection hx with hx; subst hx; exact hu k hm)⟩
theorem Wn {v:Value}:∀ k,men (.val v) k->σ.U k=true:=fun k hk=>by unfold men at hk; exact hk.elim
theorem Ld {I:Nat->Prop} {v:Value} (h:Gd v=true):C3 ρ I w (.val v) v:=by unfold C3; exact⟨rfl,h⟩
theorem qH.rd (ha:Ew cx ρ σ a w) {tc:Bool} {x:Operand} {q:DV×Option LB} {sz:Nat} {cs:List C} (h:qH q sz cs) (hx:ev σ tc x=some q):F1 w (fun b=>b < w.heap.size) (.sl sz cs) (a.eval x):=by
 cases h with
 | sl=>
  have:=(Dm ha hx).1
  unfold C3 at this
  exact this.mono fun b hb=>hb.1
 | row=>
  obtain⟨h1,-,h3⟩:=Dm ha hx
  unfold C3 at h1
  rw [h1.1]
  have hl:=ha.lo _ _ (h3 _ _ rfl rfl)
  obtain⟨n,us,ho,-,hr⟩:=hl
  exact tU.cells ho hr (fun b hb=>hb.1) fun b hb=>((ha.lo _ _ (h3 _ _ rfl rfl)).blk hb).1
 | part hl'=>
  obtain⟨h1,-,h3⟩:=Dm ha hx
  unfold C3 at h1
  obtain⟨A,c,h1,h2,h4,h5,-⟩:=h1
  rw [h1]
  have hl:=ha.lo _ _ (h3 _ _ rfl rfl)
  obtain⟨n,us,ho,-,hr⟩:=hl
  exact qE ho hr (fun b hb=>hb.1) (fun b hb=>((ha.lo _ _ (h3 _ _ rfl rfl)).blk hb).1) hl' h2 h4 h5
 | nil=>
  rw [F5 ha hx]
  exact F1.nil_ sz
theorem Ty.size {t:TypeId} {ag:Bool} {sz:Nat} (h:Ty P t ag sz):(sizeOf t).run P w=.ok sz w:=by
 have:=h.hi
 cases hi:P.info? t with
 | none=>rw [hi] at this; cases this
 | some i=>
  rw [hi] at this
  injection this with this
  simp [sizeOf,typeInfo,hi,this]
theorem Ty.agg {t:TypeId} {ag:Bool} {sz:Nat} (h:Ty P t ag sz):(isAgg t).run P w=.ok ag w:=by
 have:=h.hu
 cases hi:P.underlying t with
 | none=>rw [hi] at this; cases this
 | some d=>
  rw [hi] at this
  injection this with this
  subst this
  unfold isAgg
  rw [Sem.run_bind,run_underlying hi w]
  cases d <;> simp [aOv]
theorem Iy.size {t e:TypeId} {sz bytes:Nat} (h:Iy P t e sz bytes):(sizeOf e).run P w=.ok sz w:=by
 obtain⟨i,z,h1,h2,h3,h4,h5⟩:=h.hi
 simp [sizeOf,typeInfo,h1,h3]
theorem Iy.elem {t e:TypeId} {sz bytes:Nat} (h:Iy P t e sz bytes):P.underlying t=some (.slice (P.elem t)):=by
 have:=h.ht
 unfold Program.elem
 rw [this]
theorem Iy.el {t e:TypeId} {sz bytes:Nat} (h:Iy P t e sz bytes):P.elem t=e:=by
 unfold Program.elem
 rw [h.ht]
theorem aM1 {sz:Nat} {cs:List C} {I:Nat->Prop} {A:Option Addr} {n c:Nat} (h:F1 w I (.sl sz cs) (.slice A n c)) {j:Nat} (hj:j * sz + sz<=cs.length) (hz:0 < sz) :
  ∃ ad,A=some ad/\j < n/\I (ad.add (j * sz)).block/\J0 w I (ad.add (j * sz)) 0 (cs.drop (j * sz)):=by
 have hl:=h.len.1
 have hjn:j < n:=by
  have h1:(j + 1) * sz<=n * sz:=by rw [aY3,bBb,<- hl]; exact hj
  exact Nat.lt_of_succ_le (Nat.le_of_mul_le_mul_right h1 hz)
 obtain⟨ad,rfl,hS,hc⟩:=h.cells (by omega)
 refine⟨ad,rfl,hjn,by rw [S0]; exact hS,J0.of_at _ 0 fun i x hi=>?_⟩
 rw [aP4] at hi
 rw [aR3,Zj]
 exact hc _ _ hi
theorem Zy {e sz n:Nat} {v:Value} {us:List Value} (ho:w.rowOk e sz v n us) (hn:0 < n):∃ g cap,v=.slice (some ⟨g,0,none⟩) n cap/\n<=cap/\cap<=maxLen/\∀ j u,us[j]?=some u->w.cell? ⟨g,j,none⟩=some u:=by
 rcases ho.2 with ⟨A,-,rfl⟩ | ⟨g,cap,cur,rfl,h1,G,h2,hm,hs,ht⟩
 ·omega
 ·refine⟨g,cap,rfl,h2,hm,fun j u hu=>?_⟩
  rw [<- ht,aOs] at hu
  split at hu
  ·simpa [World.cell?,G] using hu
  ·cases hu
theorem Pc (g i j:Nat):(⟨g,i,none⟩:Addr).add j=⟨g,i + j,none⟩:=by
 unfold Addr.add
 split
 ·rename_i h; subst h; rfl
 ·rfl
theorem aHp {lo hi:Option Operand} {r:List (DV×Option LB)} {n c l h:Nat} (ha:Ew cx ρ σ a w) (hb:bnd n lo hi r l h) (hr:Fz σ true (lo.toArray ++ hi.toArray).toList=some r) (hl:l<=h/\h<=n) (hc:n<=c) :
  (Instr.sliceBounds true n c (lo.map a.eval) (hi.map a.eval) none).run P w=.ok (l,h,c) w:=by
 cases lo with
 | none=>
  cases hi with
  | none=>
   obtain⟨-,rfl,rfl⟩:=hb
   simp [Instr.sliceBounds]
  | some y=>
   obtain⟨⟨b,k,x,rfl,rfl⟩,rfl⟩:=hb
   have hy:=F5 ha (Mb (by simpa using hr))
   have h1:=run_sliceBound (P:=P) w k (h:Int) c .sliceAcap (by omega) (by omega)
   simp [Instr.sliceBounds,hy,h1]
 | some x=>
  cases hi with
  | none=>
   obtain⟨⟨b,k,y,rfl,rfl⟩,rfl⟩:=hb
   have hx:=F5 ha (Mb (by simpa using hr))
   have h1:=run_sliceBound (P:=P) w k (l:Int) h .sliceB (by omega) (by omega)
   simp [Instr.sliceBounds,hx,h1]
  | some y=>
   obtain⟨b,b',k,k',x',y',rfl,rfl,rfl⟩:=hb
   obtain⟨e1,e2⟩:=Pz (by simpa using hr)
   have hx:=F5 ha e1
   have hy:=F5 ha e2
   have h1:=run_sliceBound (P:=P) w k (l:Int) h .sliceB (by omega) (by omega)
   have h2:=run_sliceBound (P:=P) w k' (h:Int) c .sliceAcap (by omega) (by omega)
   simp [Instr.sliceBounds,hx,hy,h1,h2]
theorem aN {lo hi:Option Operand} {r:List (DV×Option LB)} {n c l h:Nat} {t e:TypeId} {sz bytes:Nat} {A:Option Addr} (hS:Iy P t e sz bytes) (ha:Ew cx ρ σ a w) (hb:bnd n lo hi r l h) (hr:Fz σ true (lo.toArray ++ hi.toArray).toList=some r) (hl:l<=h/\h<=n) (hc:n<=c) :
  (Instr.sliceAt t (.slice A n c) (lo.map a.eval) (hi.map a.eval) none).run P w=.ok (.slice (if c=l then A else A.map (·.add (l * sz))) (h - l) (c - l)) w:=by
 have h1:=aHp (P:=P) ha hb hr hl hc
 rw [run_sliceAt_slice w t _ _ _ _ hS.elem]
 simp [Instr.slice,run_underlying hS.ht,h1,hS.size]
end
end Go.Proofs.YtobamahlipiakaaGreat
namespace Go.Proofs.YtobamahlipiakaaGreat
open Go.RowKit
section
variable {P:Program} {cx:Cx} {ρ:Nat->Value} {σ:St} {a:Act} {w:World} {o:Oper} {K:Act->World->Prop} {Q:Exit->Act->World->Prop}
theorem aA9 {x:Operand} {d:DV} {b:Option LB} {tc:Bool} (ha:Ew cx ρ σ a w) (hds:Fz σ tc [x]=some [(d,b)]) (ho:o.op=.move x\/o.op=.assign x) (hdst:∀ t,o.dst=some t->t < cx.N) (hK:∀ a' w',Mx cx (σ.app o.dst (v0 d)) a' w'->K a' w'):o.wp P a w K Q:=by
 obtain⟨h1,h2,-⟩:=Dm ha (Mb hds)
 refine L2 ha hdst (v:=a.eval x) ?_ h1 h2 hK
 rcases ho with ho | ho <;> simp [execOp,ho]
theorem aL3 {x y z:Operand} {c:Bool} {d1 d2:DV} {b1 b2 b3:Option LB} {tc:Bool} (ha:Ew cx ρ σ a w) (hds:Fz σ tc [x,y,z]=some [(.val (.bool c),b1),(d1,b2),(d2,b3)]) (ho:o.op=.pick x y z) (hdst:∀ t,o.dst=some t->t < cx.N) (hK:∀ a' w',Mx cx (σ.app o.dst (v0 (bif c then d1 else d2))) a' w'->K a' w'):o.wp P a w K Q:=by
 obtain⟨e1,e2,e3⟩:=aIv hds
 have hc:=F5 ha e1
 obtain⟨h1,h2,-⟩:=Dm ha e2
 obtain⟨h3,h4,-⟩:=Dm ha e3
 cases c with
 | true=>
  refine L2 ha hdst (v:=a.eval y) ?_ h1 h2 hK
  simp [execOp,ho,hc,asBool]
 | false=>
  refine L2 ha hdst (v:=a.eval z) ?_ h3 h4 hK
  simp [execOp,ho,hc,asBool]
theorem Vy {v:Value} (hok:Gd v=true) (ha:Ew cx ρ σ a w) (hdst:∀ t,o.dst=some t->t < cx.N) (hrun:(execOp a.eval o).run P w=.ok (.value v) w) (hK:∀ a' w',Mx cx (σ.app o.dst (v0 (.val v))) a' w'->K a' w'):o.wp P a w K Q:=
 L2 ha hdst hrun (Ld hok) Wn hK
theorem aQr {x:Operand} {t:TypeId} {d:DV×Option LB} {n:Nat} (ht:P.underlying t=some (.slice (P.elem t))) (h:Len d n)
  (ha:Ew cx ρ σ a w) (hds:Fz σ true [x]=some [d]) (ho:o.op=.call ⟨.builtin .len,#[x],#[t]⟩) (hdst:∀ t,o.dst=some t->t < cx.N) (hK:∀ a' w',Mx cx (σ.app o.dst (v0 (.val (.int .i64 n)))) a' w'->K a' w'):o.wp P a w K Q:=by
 have key:∃ A c,a.eval x=.slice A n c/\n<=maxLen:=by
  cases h with
  | sl hz hn=>
   obtain⟨h1,-,-⟩:=Dm ha (Mb hds)
   unfold C3 at h1
   obtain⟨A,m,c,hv,hl,hc,hm⟩:=h1.slice
   have:m=n:=aOl hz (hl.symm.trans hn)
   subst this
   exact⟨A,c,hv,by omega⟩
  | row hz hn=>
   obtain⟨h1,-,h3⟩:=Dm ha (Mb hds)
   unfold C3 at h1
   obtain⟨m,us,hw,-,hr⟩:=ha.lo _ _ (h3 _ _ rfl rfl)
   have hm:m=n:=aOl hz (hw.1.symm.trans (hr.1.symm.trans hn))
   subst hm
   rw [h1.1]
   rcases hw.2 with ⟨A,e1,e2⟩ | ⟨g,cap,cur,e1,-,-,e2,e3,-⟩
   ·subst e2
    exact⟨_,_,e1,by simp [maxLen]⟩
   ·exact⟨_,_,e1,by omega⟩
  | part=>
   obtain⟨h1,-,-⟩:=Dm ha (Mb hds)
   unfold C3 at h1
   obtain⟨A,c,hv,h4,h5,-⟩:=h1
   exact⟨A,c,hv,by omega⟩
 obtain⟨A,c,hv,hn⟩:=key
 refine Vy (I7.2 (Tj ⟨by omega,by unfold maxLen at hn; omega⟩)) ha hdst ?_ hK
 simp [execOp,ho,resolve,invoke,builtin,hv,run_len_slice w t o.type A n c ht,goInt]
theorem aD5 {bt:Builtin} {ts:Array TypeId} {x:Operand} {vx v:Value} {b1:Option LB} (hok:Gd vx=true->Gd v=true) (h:∀ w,∀ cs,(builtin bt ts o.type cs #[vx]).run P w=.ok (.value v) w) (ha:Ew cx ρ σ a w) (hds:Fz σ true [x]=some [(.val vx,b1)]) (ho:o.op=.call ⟨.builtin bt,#[x],ts⟩) (hdst:∀ t,o.dst=some t->t < cx.N) (hK:∀ a' w',Mx cx (σ.app o.dst (v0 (.val v))) a' w'->K a' w'):o.wp P a w K Q:=by
 have hx:=F5 ha (Mb hds)
 refine Vy (hok (Vh ha (Mb hds))) ha hdst ?_ hK
 simp [execOp,ho,resolve,invoke,hx,h]
theorem aFx {bt:Builtin} {ts:Array TypeId} {x y:Operand} {vx vy v:Value} {b1 b2:Option LB} (hok:Gd vx=true->Gd vy=true->Gd v=true) (h:∀ w,∀ cs,(builtin bt ts o.type cs #[vx,vy]).run P w=.ok (.value v) w) (ha:Ew cx ρ σ a w) (hds:Fz σ true [x,y]=some [(.val vx,b1),(.val vy,b2)]) (ho:o.op=.call ⟨.builtin bt,#[x,y],ts⟩) (hdst:∀ t,o.dst=some t->t < cx.N) (hK:∀ a' w',Mx cx (σ.app o.dst (v0 (.val v))) a' w'->K a' w'):o.wp P a w K Q:=by
 obtain⟨e1,e2⟩:=Pz hds
 have hx:=F5 ha e1
 have hy:=F5 ha e2
 refine Vy (hok (Vh ha e1) (Vh ha e2)) ha hdst ?_ hK
 simp [execOp,ho,resolve,invoke,hx,hy,h]
theorem Ny {x:Operand} {i:Nat} {ds:List DV} {d:DV} {b:Option LB} {tc:Bool} (h:ds[i]?=some d) (ha:Ew cx ρ σ a w) (hds:Fz σ tc [x]=some [(.tup ds,b)]) (ho:o.op=.extract x i) (hdst:∀ t,o.dst=some t->t < cx.N) (hK:∀ a' w',Mx cx (σ.app o.dst (v0 d)) a' w'->K a' w'):o.wp P a w K Q:=by
 obtain⟨h1,h2,-⟩:=Dm ha (Mb hds)
 unfold C3 at h1
 obtain⟨vs,hv,hr⟩:=h1
 obtain⟨v,hv',hd⟩:=hr.at_ h
 refine L2 ha hdst (v:=v) ?_ hd (fun k hk=>h2 k ?_) hK
 ·have e1:vs.toArray[i]?=some v:=by simpa using hv'
  simp [execOp,ho,hv,Instr.extract,hv']
 ·unfold men
  exact menL_at h hk
where
 menL_at:∀ {ds:List DV} {i:Nat} {d:DV} {k:Nat},ds[i]?=some d->men d k->Gu ds k
 | [],_,_,_,h,_=>by simp at h
 | d' :: ds,0,d,k,h,hk=>by
  simp at h
  subst h
  unfold Gu
  exact .inl hk
 | d' :: ds,i + 1,d,k,h,hk=>by
  unfold Gu
  exact .inr (menL_at (by simpa using h) hk)
theorem aNx {x:Operand} {k i:Nat} {b:Option LB} {tc:Bool} (ha:Ew cx ρ σ a w) (hds:Fz σ tc [x]=some [(.ptr k i,b)]) (ho:o.op=.nilCheck x) (hdst:∀ t,o.dst=some t->t < cx.N) (hK:∀ a' w',Mx cx (σ.app o.dst (v0 (.ptr k i))) a' w'->K a' w'):o.wp P a w K Q:=by
 obtain⟨h1,h2,-⟩:=Dm ha (Mb hds)
 have h1':=h1
 unfold C3 at h1
 obtain⟨g,G,hv⟩:=h1
 refine L2 ha hdst (v:=a.eval x) ?_ h1' h2 hK
 simp [execOp,ho,hv]
theorem aN5 {x:Operand} {cs:List C} {b:Option LB} {tc:Bool} (ha:Ew cx ρ σ a w) (hds:Fz σ tc [x]=some [(.elt cs,b)]) (ho:o.op=.nilCheck x) (hdst:∀ t,o.dst=some t->t < cx.N) (hK:∀ a' w',Mx cx (σ.app o.dst (v0 (.elt cs))) a' w'->K a' w'):o.wp P a w K Q:=by
 obtain⟨h1,h2,-⟩:=Dm ha (Mb hds)
 have h1':=h1
 unfold C3 at h1
 obtain⟨ad,hv,-⟩:=h1
 refine L2 ha hdst (v:=a.eval x) ?_ h1' h2 hK
 simp [execOp,ho,hv]
theorem Ve {s ft:TypeId} {f off sz:Nat} {ag:Bool} (h:Fd P s f off ft) (ht:Ty P ft ag sz) (hz:0 < sz) (ad:Addr):(Instr.fieldAt s (.pointer (some ad)) f).run P w=.ok (.pointer (some (ad.add off))) w:=by
 obtain⟨fields,fd,h1,h2,h3,h4⟩:=h
 subst h3 h4
 have hs:=ht.size (w:=w)
 have:sz≠0:=by omega
 simp [Instr.fieldAt,run_underlying h1,h2,Instr.sureAddr,fieldPlace,hs,this]
theorem aC4 {s ft:TypeId} {x:Operand} {f off sz k i:Nat} {ag:Bool} {b:Option LB} {tc:Bool} (h:Fd P s f off ft) (ht:Ty P ft ag sz) (hz:0 < sz) (ha:Ew cx ρ σ a w) (hds:Fz σ tc [x]=some [(.ptr k i,b)]) (ho:o.op=.fieldAddr s x f) (hdst:∀ t,o.dst=some t->t < cx.N) (hK:∀ a' w',Mx cx (σ.app o.dst (v0 (.ptr k (i + off)))) a' w'->K a' w'):o.wp P a w K Q:=by
 obtain⟨h1,h2,-⟩:=Dm ha (Mb hds)
 unfold C3 at h1
 obtain⟨g,G,hv⟩:=h1
 refine L2 ha hdst (v:=.pointer (some ⟨g,i + off,none⟩)) ?_ (by unfold C3; exact⟨g,G,rfl⟩) (fun k' hk'=>h2 k' (by unfold men at *; exact hk')) hK
 simp [execOp,ho,hv,Ve h ht hz,Pc]
theorem aFz {s ft:TypeId} {x:Operand} {f off sz:Nat} {cs:List C} {ag:Bool} {b:Option LB} {tc:Bool} (h:Fd P s f off ft) (ht:Ty P ft ag sz) (hz:0 < sz) (ha:Ew cx ρ σ a w) (hds:Fz σ tc [x]=some [(.elt cs,b)]) (ho:o.op=.fieldAddr s x f) (hdst:∀ t,o.dst=some t->t < cx.N) (hK:∀ a' w',Mx cx (σ.app o.dst (v0 (.elt (cs.drop off)))) a' w'->K a' w'):o.wp P a w K Q:=by
 obtain⟨h1,h2,-⟩:=Dm ha (Mb hds)
 unfold C3 at h1
 obtain⟨ad,hv,hI,hr⟩:=h1
 refine L2 ha hdst (v:=.pointer (some (ad.add off))) ?_ (by
  unfold C3
  refine⟨_,rfl,by rw [S0]; exact hI,J0.of_at _ 0 fun j c hj=>?_⟩
  rw [aP4] at hj
  have:=hr.at_ hj
  rw [aR3] at this
  rw [aR3,Zj]
  exact this) (fun k hk=>by unfold men at hk; exact hk.elim) hK
 simp [execOp,ho,hv,Ve h ht hz]
theorem B5.map_cdv {I:Nat->Prop}:∀ {cs:List C} {us:List Value},G0 w I cs us->B5 ρ I w (cs.map V2) us/\∀ u∈us,u.oneCell'=true
 | [],us,h=>by
  have:us=[]:=aG6 (by have:=h.1; simpa using this.symm)
  subst this
  exact⟨by simp [B5],fun u hu=>by simp at hu⟩
 | c :: cs,us,h=>by
  match us,h with
  | [],h=>have:=h.1; simp at this
  | u :: us,h=>
   have h0:=h.2 0 c u rfl rfl
   obtain⟨h1,h2⟩:=B5.map_cdv (cs:=cs) (us:=us) ⟨by simpa using h.1,fun j c' u' a b=>h.2 (j + 1) c' u' (by simpa using a) (by simpa using b)⟩
   refine⟨?_,fun x hx=>?_⟩
   ·simp only [aWq]
    unfold B5
    exact⟨u,us,rfl,rep_cdv h0,h1⟩
   ·rcases aF2.1 hx with rfl | hx
    ·exact h0.one
    ·exact h2 x hx
where
 rep_cdv {I:Nat->Prop} {c:C} {v:Value} (h:F1 w I c v):C3 ρ I w (V2 c) v:=by
  cases c with
  | int k n=>unfold V2 C3; exact⟨h.int_.1,I7.2 h.int_.2⟩
  | bool b=>unfold V2 C3; exact⟨h.bool_,rfl⟩
  | str s=>unfold V2 C3; exact⟨h.str_.1,Qw.2 h.str_.2⟩
  | raw u=>unfold V2 C3; unfold F1 at h; exact⟨h.1,h.2.2⟩
  | sl sz cs=>unfold V2 C3; exact h
  | mp l=>unfold V2 C3; exact h
theorem nR {c:C}:∀ k,men (V2 c) k->False:=by
 intro k hk
 cases c <;> (unfold V2 men at hk; exact hk)
theorem fX:∀ {cs:List C} (k:Nat),Gu (cs.map V2) k->False
 | [],k,hk=>by unfold List.map Gu at hk; exact hk
 | c :: cs,k,hk=>by
  simp only [aWq] at hk
  unfold Gu at hk
  rcases hk with hk | hk
  ·exact nR k hk
  ·exact fX k hk
theorem fU {ds:List DV} {i n k:Nat} (h:Gu ((ds.drop i).take n) k):Gu ds k:=by
 have key:∀ {l:List DV},Gu l k↔∃ d,d∈l/\men d k:=by
  intro l
  induction l with
  | nil=>unfold Gu; simp
  | cons d l ih=>unfold Gu; rw [ih]; simp
 rw [key] at h ⊢
 obtain⟨d,h1,h2⟩:=h
 exact⟨d,aZ9 (bAb h1),h2⟩
theorem B5.sub {I:Nat->Prop}:∀ {ds:List DV} {vs:List Value} (_:B5 ρ I w ds vs) (i n:Nat),B5 ρ I w ((ds.drop i).take n) ((vs.drop i).take n)
 | [],vs,h,i,n=>by unfold B5 at h; subst h; simp [B5]
 | d :: ds,vs,h,0,0=>by simp [B5]
 | d :: ds,vs,h,0,n + 1=>by
  unfold B5 at h
  obtain⟨u,us,rfl,h1,h2⟩:=h
  have:=B5.sub h2 0 n
  simp only [bBe,List.take_succ_cons] at this ⊢
  unfold B5
  exact⟨u,_,rfl,h1,this⟩
 | d :: ds,vs,h,i + 1,n=>by
  unfold B5 at h
  obtain⟨u,us,rfl,h1,h2⟩:=h
  have:=B5.sub h2 i n
  simpa using this
theorem aBi {s ft:TypeId} {x:Operand} {f off sz:Nat} {ds:List DV} {d:DV} {b:Option LB} {tc:Bool} (h:Fd P s f off ft) (ht:Ty P ft false sz) (hd:ds[off]?=some d) (ha:Ew cx ρ σ a w) (hds:Fz σ tc [x]=some [(.agg ds,b)]) (ho:o.op=.field s x f) (hdst:∀ t,o.dst=some t->t < cx.N) (hK:∀ a' w',Mx cx (σ.app o.dst (v0 d)) a' w'->K a' w'):o.wp P a w K Q:=by
 obtain⟨h1,h2,-⟩:=Dm ha (Mb hds)
 unfold C3 at h1
 obtain⟨vs,hv,-,hr⟩:=h1
 obtain⟨v,hv',hd'⟩:=hr.at_ hd
 obtain⟨fields,fd,k1,k2,k3,k4⟩:=h
 subst k3 k4
 refine L2 ha hdst (v:=v) ?_ hd' (fun k hk=>h2 k ?_) hK
 ·simp [execOp,ho,hv,Instr.field,run_underlying k1,k2,part,asAgg,ht.agg,hv']
 ·unfold men
  exact Ny.menL_at hd hk
theorem aFw {s ft:TypeId} {x:Operand} {f off sz:Nat} {ds:List DV} {b:Option LB} {tc:Bool} (h:Fd P s f off ft) (ht:Ty P ft true sz) (ha:Ew cx ρ σ a w) (hds:Fz σ tc [x]=some [(.agg ds,b)]) (ho:o.op=.field s x f) (hdst:∀ t,o.dst=some t->t < cx.N) (hK:∀ a' w',Mx cx (σ.app o.dst (v0 (.agg ((ds.drop off).take sz)))) a' w'->K a' w'):o.wp P a w K Q:=by
 obtain⟨h1,h2,-⟩:=Dm ha (Mb hds)
 unfold C3 at h1
 obtain⟨vs,hv,h1c,hr⟩:=h1
 obtain⟨fields,fd,k1,k2,k3,k4⟩:=h
 subst k3 k4
 refine L2 ha hdst (v:=.agg ((vs.drop fd.offset).take sz).toArray) ?_ (by unfold C3; exact⟨_,rfl,fun u hu=>h1c u (aZ9 (bAb hu)),hr.sub _ _⟩) (fun k hk=>h2 k (by unfold men at *; exact fU hk)) hK
 have e1:(vs.toArray.extract fd.offset (fd.offset + sz))=((vs.drop fd.offset).take sz).toArray:=by
  simp [List.take_drop]
 simp [execOp,ho,hv,Instr.field,run_underlying k1,k2,part,asAgg,ht.agg,ht.size]
end
end Go.Proofs.YtobamahlipiakaaGreat
namespace Go.Proofs.YtobamahlipiakaaGreat
open Go.RowKit
section
variable {P:Program} {cx:Cx} {ρ:Nat->Value} {σ:St} {a:Act} {w:World} {o:Oper} {K:Act->World->Prop} {Q:Exit->Act->World->Prop}
theorem dX {t e:TypeId} {sz bytes:Nat} (h:Iy P t e sz bytes) (ad:Addr) (n c:Nat) (k:IntKind) {j:Nat} (hj:j < n):(Instr.indexAt t (.slice (some ad) n c) (.int k (j:Int))).run P w=.ok (.pointer (some (ad.add (j * sz)))) w:=by
 rw [run_indexAt_slice w t ad n c k _ h.elem,h.el]
 have h1:0<=(j:Int)/\(j:Int) < (n:Int):=⟨by omega,by omega⟩
 rw [if_pos h1,h.size]
 simp
theorem aKq {t e:TypeId} {x i:Operand} {sz bytes:Nat} {cs:List C} {k:IntKind} {n:Int} {j:Nat} {b b':Option LB} (h:Iy P t e sz bytes) (hj:n=(j:Int)) (hl:j * sz + sz<=cs.length)
  (ha:Ew cx ρ σ a w) (hds:Fz σ true [x,i]=some [(.sl sz cs,b),(.val (.int k n),b')]) (ho:o.op=.indexAddr t x i) (hdst:∀ t,o.dst=some t->t < cx.N) (hK:∀ a' w',Mx cx (σ.app o.dst (v0 (.elt (cs.drop (j * sz))))) a' w'->K a' w'):o.wp P a w K Q:=by
 subst hj
 obtain⟨e1,e2⟩:=Pz hds
 obtain⟨h1,-,-⟩:=Dm ha e1
 have hi:=F5 ha e2
 unfold C3 at h1
 obtain⟨A,m,c,hv,-⟩:=h1.slice
 rw [hv] at h1
 obtain⟨ad,rfl,hjn,hI,hr⟩:=aM1 h1 hl h.hsz
 refine L2 ha hdst (v:=.pointer (some (ad.add (j * sz)))) ?_ (by unfold C3; exact⟨_,rfl,hI,hr⟩) (fun k hk=>by unfold men at hk; exact hk.elim) hK
 simp [execOp,ho,hv,hi,dX h ad m c k hjn]
theorem aLe {t e:TypeId} {x i:Operand} {sz bytes kr e':Nat} {cs:List C} {k:IntKind} {n:Int} {j:Nat} {b':Option LB} (h:Iy P t e sz bytes) (hj:n=(j:Int)) (hl:j * sz + sz<=cs.length)
  (ha:Ew cx ρ σ a w) (hds:Fz σ true [x,i]=some [(.row kr,some (.row e' sz cs)),(.val (.int k n),b')]) (ho:o.op=.indexAddr t x i) (hdst:∀ t,o.dst=some t->t < cx.N) (hK:∀ a' w',Mx cx (σ.app o.dst (v0 (.ptr kr (j * sz)))) a' w'->K a' w'):o.wp P a w K Q:=by
 subst hj
 obtain⟨e1,e2⟩:=Pz hds
 obtain⟨h1,h2,h3⟩:=Dm ha e1
 have hi:=F5 ha e2
 unfold C3 at h1
 obtain⟨m,us,hw,-,hr⟩:=ha.lo _ _ (h3 _ _ rfl rfl)
 have hz:=h.hsz
 have hjm:j < m:=by
  have h1:(j + 1) * sz<=m * sz:=by rw [aY3,bBb,<- hw.1,<- hr.1]; exact hl
  exact Nat.lt_of_succ_le (Nat.le_of_mul_le_mul_right h1 hz)
 obtain⟨g,cap,hv,hmc,-⟩:=Zy hw (by omega)
 replace h1:=h1.1
 rw [hv] at h1
 refine L2 ha hdst (v:=.pointer (some ⟨g,j * sz,none⟩)) ?_ (by unfold C3; exact⟨g,by rw [hv]; exact Kp (by omega),rfl⟩) (fun k hk=>h2 k (by unfold men at *; exact hk)) hK
 simp [execOp,ho,h1,hi,dX h _ m cap k hjm,Pc]
theorem Pq {tc:Bool} {x:Operand} {l:List Operand} {q:DV×Option LB} {r:List (DV×Option LB)} (h:Fz σ tc (x :: l)=some (q :: r)):ev σ tc x=some q/\Fz σ tc l=some r:=by
 obtain⟨q',qs,h1,h2,h3⟩:=Vs h
 injection h1 with h1 h1'
 rw [h1,h1']
 exact⟨h2,h3⟩
theorem aJ {t:TypeId} {x:Operand} {lo hi:Option Operand}:(Op.slice t x lo hi none).operands.toList=x :: (lo.toArray ++ hi.toArray).toList:=by
 cases lo <;> cases hi <;> rfl
theorem aK0 {t e:TypeId} {x:Operand} {lo hi:Option Operand} {sz bytes n l h:Nat} {cs:List C} {r:List (DV×Option LB)} {b:Option LB} (hS:Iy P t e sz bytes) (hn:cs.length=n * sz) (hb:bnd n lo hi r l h) (hl:l<=h/\h<=n)
  (ha:Ew cx ρ σ a w) (hds:Fz σ true (x :: (lo.toArray ++ hi.toArray).toList)=some ((.sl sz cs,b) :: r)) (ho:o.op=.slice t x lo hi none) (hdst:∀ t,o.dst=some t->t < cx.N) (hK:∀ a' w',Mx cx (σ.app o.dst (v0 (.sl sz ((cs.drop (l * sz)).take ((h - l) * sz))))) a' w'->K a' w'):o.wp P a w K Q:=by
 obtain⟨e1,e2⟩:=Pq hds
 obtain⟨h1,-,-⟩:=Dm ha e1
 unfold C3 at h1
 obtain⟨A,m,c,hv,hm,hmc,hc⟩:=h1.slice
 rw [hv] at h1
 have hmn:m=n:=aOl hS.hsz (hm.symm.trans hn)
 subst hmn
 have hrun:=aN (P:=P) (A:=A) (c:=c) hS ha hb e2 hl hmc
 refine L2 ha hdst ?_ (d:=.sl sz ((cs.drop (l * sz)).take ((h - l) * sz))) (v:=.slice (if c=l then A else A.map (·.add (l * sz))) (h - l) (c - l)) (by
  unfold C3
  exact F1.cut h1 hl.1 hl.2 (by omega) (by omega) fun ad hA hlt=>by rw [if_neg (by omega),hA]; rfl) (fun k hk=>by unfold men at hk; exact hk.elim) hK
 simp [execOp,ho,hv,hrun]
theorem aK4 {t e:TypeId} {x:Operand} {lo hi:Option Operand} {sz bytes n l h kr e':Nat} {cs:List C} {r:List (DV×Option LB)} (hS:Iy P t e sz bytes) (hn:cs.length=n * sz) (hb:bnd n lo hi r l h) (hl:l<=h/\h<=n)
  (ha:Ew cx ρ σ a w) (hds:Fz σ true (x :: (lo.toArray ++ hi.toArray).toList)=some ((.row kr,some (.row e' sz cs)) :: r)) (ho:o.op=.slice t x lo hi none) (hdst:∀ t,o.dst=some t->t < cx.N) (hK:∀ a' w',Mx cx (σ.app o.dst (v0 (.part kr (l * sz) (h - l)))) a' w'->K a' w'):o.wp P a w K Q:=by
 obtain⟨e1,e2⟩:=Pq hds
 obtain⟨h1,h2,h3⟩:=Dm ha e1
 unfold C3 at h1
 obtain⟨m,us,hw,-,hr⟩:=ha.lo _ _ (h3 _ _ rfl rfl)
 have hmn:m=n:=aOl hS.hsz (hw.1.symm.trans (hr.1.symm.trans hn))
 subst hmn
 have fin:∀ (A:Option Addr) (c:Nat),a.eval x=.slice A m c->m<=c->c<=maxLen->(0 < m->∃ g,Cu (ρ kr)=some g/\A=some ⟨g,0,none⟩)->o.wp P a w K Q:=fun A c hv hmc hc hA=>by
  have hsz:=hS.hsz
  have hrun:=aN (P:=P) (A:=A) (c:=c) hS ha hb e2 hl hmc
  refine L2 ha hdst ?_ (d:=.part kr (l * sz) (h - l)) (v:=.slice (if c=l then A else A.map (·.add (l * sz))) (h - l) (c - l)) (by
   unfold C3
   refine⟨_,_,rfl,by omega,by omega,fun hlt=>?_,fun h0 A' N c' hv'=>?_⟩
   ·obtain⟨g,G,hA'⟩:=hA (by omega)
    refine⟨g,G,?_⟩
    rw [if_neg (by omega),hA']
    simp [Pc]
   ·have hl0:l=0:=by
     rcases bA3.1 h0 with h | h <;> omega
    rw [<- h1.1,hv] at hv'
    injection hv' with q1 q2 q3
    rw [hl0,bAr]
    refine⟨?_,by omega⟩
    rw [<- q1]
    split
    ·rfl
    ·cases A <;> simp [Addr.add]) (fun k hk=>h2 k (by unfold men at *; exact hk)) hK
  simp [execOp,ho,hv,hrun]
 rcases hw.2 with ⟨A,hv,rfl⟩ | ⟨g,cap,cur,hv,hc0,-,hmc,hc,-⟩
 ·exact fin A 0 (h1.1.trans hv) (aJf _) (by simp [maxLen]) fun h0=>absurd h0 (by omega)
 ·exact fin _ cap (h1.1.trans hv) hmc hc fun _=>⟨g,by rw [hv]; exact Kp hc0,rfl⟩
theorem S9 {t:TypeId} {sz:Nat} (ht:Ty P t false sz) {ad:Addr} {v:Value} (h:w.cell? ad=some v):(Instr.loadAt t (.pointer (some ad))).run P w=.ok v w:=by
 simp [Instr.loadAt,Instr.sureAddr,loadVar,ht.agg,h]
theorem Wq {t:TypeId} {sz:Nat} (ht:Ty P t true sz) {ad:Addr} {vs:List Value} (hl:vs.length=sz) (h:∀ j v,vs[j]?=some v->w.cell? (ad.add j)=some v):(Instr.loadAt t (.pointer (some ad))).run P w=.ok (.agg vs.toArray) w:=by
 have:=run_loadCells_list (P:=P) w ad vs h
 rw [hl] at this
 simp [Instr.loadAt,Instr.sureAddr,loadVar,ht.agg,ht.size,this]
theorem aC8 {t:TypeId} {x:Operand} {k i sz bt:Nat} {ds:List DV} {d:DV} (ht:Ty P t false sz) (hd:ds[i]?=some d)
  (ha:Ew cx ρ σ a w) (hds:Fz σ true [x]=some [(.ptr k i,some (.box ds bt))]) (ho:o.op=.load t x) (hdst:∀ t,o.dst=some t->t < cx.N) (hK:∀ a' w',Mx cx (σ.app o.dst (v0 d)) a' w'->K a' w'):o.wp P a w K Q:=by
 obtain⟨h1,h2,h3⟩:=Dm ha (Mb hds)
 have hL:=h3 _ _ rfl rfl
 unfold C3 at h1
 obtain⟨g,G,hv⟩:=h1
 obtain⟨g',vs,q1,q2,-,-,q5⟩:=ha.lo _ _ hL
 rw [q1] at G
 injection G with G
 subst G
 obtain⟨v,hv',hd'⟩:=q5.at_ hd
 refine L2 ha hdst (v:=v) ?_ hd' (fun k' hk'=>(ha.usedL _ _ hL).2 k' (by unfold Uy; exact Ny.menL_at hd hk')) hK
 have:w.cell? ⟨g',i,none⟩=some v:=by simp [World.cell?,q2,hv']
 simp [execOp,ho,hv,S9 ht this]
theorem aDq {t:TypeId} {x:Operand} {k i sz bt:Nat} {ds:List DV} (ht:Ty P t true sz) (hl:i + sz<=ds.length)
  (ha:Ew cx ρ σ a w) (hds:Fz σ true [x]=some [(.ptr k i,some (.box ds bt))]) (ho:o.op=.load t x) (hdst:∀ t,o.dst=some t->t < cx.N) (hK:∀ a' w',Mx cx (σ.app o.dst (v0 (.agg ((ds.drop i).take sz)))) a' w'->K a' w'):o.wp P a w K Q:=by
 obtain⟨h1,h2,h3⟩:=Dm ha (Mb hds)
 have hL:=h3 _ _ rfl rfl
 unfold C3 at h1
 obtain⟨g,G,hv⟩:=h1
 obtain⟨g',vs,q1,q2,-,q4,q5⟩:=ha.lo _ _ hL
 rw [q1] at G
 injection G with G
 subst G
 have hlen:=q5.length
 refine L2 ha hdst (v:=.agg ((vs.drop i).take sz).toArray) ?_ (by unfold C3; exact⟨_,rfl,fun u hu=>q4 u (aZ9 (bAb hu)),q5.sub _ _⟩) (fun k' hk'=>(ha.usedL _ _ hL).2 k' (by unfold Uy; unfold men at hk'; exact fU hk')) hK
 have:=Wq (w:=w) ht (ad:=⟨g',i,none⟩) (vs:=(vs.drop i).take sz) (by rw [aJj,aJ4]; omega) (fun j v hj=>by
  rw [aOs] at hj
  split at hj
  ·rw [aP4] at hj
   rw [Pc]
   simp [World.cell?,q2,hj]
  ·cases hj)
 simp [execOp,ho,hv,this]
theorem qP {k e s:Nat} {cs:List C} {g i:Nat} {c:C} {I:Nat->Prop} (hw:S5 cx ρ I w (ρ k) (.row e s cs)) (G:Cu (ρ k)=some g) (hc:cs[i]?=some c):∃ u,w.cell? ⟨g,i,none⟩=some u/\F1 w I c u:=by
 obtain⟨n,us,hw,-,hr⟩:=hw
 have hil:i < us.length:=by rw [<- hr.1]; exact (aDx.1 hc).1
 have hu:us[i]?=some us[i]:=aCv hil
 rcases hw.2 with ⟨A,h1,-⟩ | ⟨g',cap,cur,h1,h2,hg',h3⟩
 ·rw [h1] at G
  cases A <;> cases G
 ·have hn:0 < n:=by
   rcases aLq n with h | h
   ·rw [hw.1,h] at hil; simp at hil
   ·exact h
  obtain⟨g2,cap2,e1,-,-,e2⟩:=Zy hw hn
  rw [e1] at G
  obtain⟨G,-⟩:=Gx G
  dsimp only at G
  subst G
  exact⟨us[i],e2 i _ hu,hr.2 i c _ hc hu⟩
theorem aEh {t:TypeId} {x:Operand} {k i e s sz:Nat} {cs:List C} {c:C} (ht:Ty P t false sz) (hd:cs[i]?=some c)
  (ha:Ew cx ρ σ a w) (hds:Fz σ true [x]=some [(.ptr k i,some (.row e s cs))]) (ho:o.op=.load t x) (hdst:∀ t,o.dst=some t->t < cx.N) (hK:∀ a' w',Mx cx (σ.app o.dst (v0 (V2 c))) a' w'->K a' w'):o.wp P a w K Q:=by
 obtain⟨h1,h2,h3⟩:=Dm ha (Mb hds)
 have hL:=h3 _ _ rfl rfl
 unfold C3 at h1
 obtain⟨g,G,hv⟩:=h1
 obtain⟨u,hu,hr⟩:=qP (ha.lo _ _ hL) G hd
 refine L2 ha hdst (v:=u) ?_ (B5.map_cdv.rep_cdv hr) (fun k' hk'=>(nR k' hk').elim) hK
 simp [execOp,ho,hv,S9 ht hu]
theorem sJ {I:Nat->Prop} {cs:List C} {ad:Addr} (h:∀ j c,cs[j]?=some c->∃ u,w.cell? (ad.add j)=some u/\F1 w I c u):∃ us:List Value,us.length=cs.length/\G0 w I cs us/\∀ j u,us[j]?=some u->w.cell? (ad.add j)=some u:=by
 refine⟨(List.range cs.length).map fun j=>(w.cell? (ad.add j)).getD undef,by simp,⟨by simp,fun j c u hj hu=>?_⟩,fun j u hu=>?_⟩
 ·obtain⟨u',h1,h2⟩:=h j c hj
  have hlt:=(aDx.1 hj).1
  simp [hlt,h1] at hu
  subst hu
  exact h2
 ·have hlt:j < cs.length:=by
   have:=(aDx.1 hu).1
   simpa using this
  obtain⟨u',h1,h2⟩:=h j _ (aCv hlt)
  simp [hlt,h1] at hu
  rw [h1,hu]
theorem aDo {t:TypeId} {x:Operand} {k i e s sz:Nat} {cs:List C} (ht:Ty P t true sz) (hl:i + sz<=cs.length)
  (ha:Ew cx ρ σ a w) (hds:Fz σ true [x]=some [(.ptr k i,some (.row e s cs))]) (ho:o.op=.load t x) (hdst:∀ t,o.dst=some t->t < cx.N) (hK:∀ a' w',Mx cx (σ.app o.dst (v0 (.agg (((cs.drop i).take sz).map V2)))) a' w'->K a' w'):o.wp P a w K Q:=by
 obtain⟨h1,h2,h3⟩:=Dm ha (Mb hds)
 have hL:=h3 _ _ rfl rfl
 unfold C3 at h1
 obtain⟨g,G,hv⟩:=h1
 obtain⟨us,u1,u2,u3⟩:=sJ (w:=w) (I:=Nc cx σ ρ w) (cs:=(cs.drop i).take sz) (ad:=⟨g,i,none⟩) fun j c hj=>by
  rw [aOs] at hj
  split at hj
  ·rw [aP4] at hj
   rw [Pc]
   exact qP (ha.lo _ _ hL) G hj
  ·cases hj
 obtain⟨r1,r2⟩:=B5.map_cdv (ρ:=ρ) u2
 refine L2 ha hdst (v:=.agg us.toArray) ?_ (by unfold C3; exact⟨_,rfl,r2,r1⟩) (fun k' hk'=>(fX k' (by unfold men at hk'; exact hk')).elim) hK
 have:=Wq (w:=w) ht (ad:=⟨g,i,none⟩) (vs:=us) (by rw [u1,aJj,aJ4]; omega) u3
 simp [execOp,ho,hv,this]
theorem aD2 {t:TypeId} {x:Operand} {sz:Nat} {cs:List C} {c:C} {b:Option LB} (ht:Ty P t false sz) (hd:cs[0]?=some c)
  (ha:Ew cx ρ σ a w) (hds:Fz σ true [x]=some [(.elt cs,b)]) (ho:o.op=.load t x) (hdst:∀ t,o.dst=some t->t < cx.N) (hK:∀ a' w',Mx cx (σ.app o.dst (v0 (V2 c))) a' w'->K a' w'):o.wp P a w K Q:=by
 obtain⟨h1,-,-⟩:=Dm ha (Mb hds)
 unfold C3 at h1
 obtain⟨ad,hv,hI,hr⟩:=h1
 obtain⟨u,hu,hr'⟩:=hr.at_ hd
 have e0:(ad.add (0 + 0))=ad:=by simp [Addr.add]
 rw [e0] at hu
 refine L2 ha hdst (v:=u) ?_ (B5.map_cdv.rep_cdv hr') (fun k' hk'=>(nR k' hk').elim) hK
 simp [execOp,ho,hv,S9 ht hu]
theorem aB9 {t:TypeId} {x:Operand} {sz:Nat} {cs:List C} {b:Option LB} (ht:Ty P t true sz) (hl:sz<=cs.length)
  (ha:Ew cx ρ σ a w) (hds:Fz σ true [x]=some [(.elt cs,b)]) (ho:o.op=.load t x) (hdst:∀ t,o.dst=some t->t < cx.N) (hK:∀ a' w',Mx cx (σ.app o.dst (v0 (.agg ((cs.take sz).map V2)))) a' w'->K a' w'):o.wp P a w K Q:=by
 obtain⟨h1,-,-⟩:=Dm ha (Mb hds)
 unfold C3 at h1
 obtain⟨ad,hv,hI,hr⟩:=h1
 obtain⟨us,u1,u2,u3⟩:=sJ (w:=w) (I:=Nc cx σ ρ w) (cs:=cs.take sz) (ad:=ad) fun j c hj=>by
  rw [aOs] at hj
  split at hj
  ·have:=hr.at_ hj
   rwa [aR3] at this
  ·cases hj
 obtain⟨r1,r2⟩:=B5.map_cdv (ρ:=ρ) u2
 refine L2 ha hdst (v:=.agg us.toArray) ?_ (by unfold C3; exact⟨_,rfl,r2,r1⟩) (fun k' hk'=>(fX k' (by unfold men at hk'; exact hk')).elim) hK
 have:=Wq (w:=w) ht (ad:=ad) (vs:=us) (by rw [u1,aJj]; omega) u3
 simp [execOp,ho,hv,this]
end
end Go.Proofs.YtobamahlipiakaaGreat
namespace Go.Proofs.YtobamahlipiakaaGreat
open Go.RowKit
section
variable {P:Program} {cx:Cx} {ρ:Nat->Value} {σ:St} {a:Act} {w w':World} {o:Oper} {K:Act->World->Prop} {Q:Exit->Act->World->Prop}
theorem Cx.Kept.alloc (h:cx.Kept w) (ob:Obj):cx.Kept (w.alloc ob):=by
 obtain⟨h1,h2,h3,h4,h5⟩:=h
 exact⟨h1,h2,h3,aOt h4 (by simp),fun b hb hM=>(Below.heap_alloc w ob b (aY0 hb h4)).trans (h5 b hb hM)⟩
theorem Cx.Kept.grown (h:cx.Kept w) {row:Option Nat} (G:w.grownBy w' row) (hr:∀ k,row=some k->cx.w0.heap.size<=k\/cx.M k):cx.Kept w':=by
 obtain⟨h1,h2,h3,h4,h5⟩:=h
 exact⟨G.os.trans h1,G.tape.trans h2,G.output.trans h3,aOt h4 G.size,fun b hb hM=>(G.block b (aY0 hb h4) (fun e=>(hr b e.symm).elim (fun h=>by omega) hM)).trans (h5 b hb hM)⟩
def L4 (ρ:Nat->Value) (tk:Nat) (v:Value):Nat->Value:=fun k=>if k=tk then v else ρ k
theorem dJ (ha:Ew cx ρ σ a w) (hdst:∀ t,o.dst=some t->t < cx.N) {tk:Nat} (hf:σ.U tk=false) {lb:LB} {ks:List Nat} {d:DV} {v vn:Value} (hrun:(execOp a.eval o).run P w=.ok (.value v) w') (hk:cx.Kept w') (hsz:w.heap.size<=w'.heap.size)
  (hheap:∀ b,b < w.heap.size->(∀ k∈ks,∀ lb',σ.L k=some lb'->Cu (ρ k)≠some b)->w'.heap[b]?=w.heap[b]?)
  (hblk:∀ b,Cu vn=some b->w.heap.size<=b\/∃ k'∈ks,∃ lb',σ.L k'=some lb'/\Cu (ρ k')=some b)
  (hnew:∀ I':Nat->Prop,(∀ b,Nc cx σ ρ w b->I' b/\w'.heap[b]?=w.heap[b]?)->S5 cx (L4 ρ tk vn) I' w' vn lb/\C3 (L4 ρ tk vn) I' w' d v)
  (hu:(∀ k',Uy lb k'->σ.U k'=true)/\∀ k',men d k'->σ.U k'=true\/k'=tk)
  (hnp:∀ k',k'∈ks->cx.np<=k')
  (hK:∀ a' w',Mx cx (σ.app o.dst (P6 tk lb ks d)) a' w'->K a' w'):o.wp P a w K Q:=by
 unfold Oper.wp
 rw [hrun]
 have hl:∀ k,(P6 tk lb ks d).l k=bif Nat.beq k tk then some (some lb) else (bif ks.any (Nat.beq k) then some none else none):=fun _=>rfl
 have hl1:(P6 tk lb ks d).l tk=some (some lb):=by rw [hl]; simp
 have hl2:∀ k lb',(P6 tk lb ks d).l k=some (some lb')->k=tk/\lb'=lb:=fun k lb' h=>by
  rw [hl] at h
  cases hb:Nat.beq k tk with
  | true=>
   rw [hb] at h
   have:=aF5 hb
   injection h with h
   injection h with h
   exact⟨this,h.symm⟩
  | false=>
   rw [hb] at h
   simp only [aDb] at h
   cases hc:ks.any (Nat.beq k) <;> rw [hc] at h <;> cases h
 have hl3:∀ k,k∈ks->(P6 tk lb ks d).l k≠none:=fun k hk=>by
  rw [hl]
  cases hb:Nat.beq k tk with
  | true=>simp
  | false=>
   have:ks.any (Nat.beq k)=true:=aL5.2 ⟨k,hk,by simp⟩
   rw [this]; simp
 have hrt:L4 ρ tk vn tk=vn:=by simp [L4]
 have hro:∀ k,σ.U k=true->L4 ρ tk vn k=ρ k:=fun k hk=>by
  unfold L4
  split
  ·rename_i h; subst h; rw [hf] at hk; cases hk
  ·rfl
 refine hK _ _ ⟨L4 ρ tk vn,ha.app hk hsz hdst hro (fun b hb h=>hheap b hb fun k hk lb' hL=>h k lb' (hl3 k hk) hL) (fun k lb' b h1 h2=>?_) (fun k k' lb1 lb2 b h1 h2 _ _=>by rw [(hl2 k lb1 h1).1,(hl2 k' lb2 h2).1]) (fun hI _=>?_) ⟨fun k lb' k' h1 h2=>?_,fun d' k' h1 h2=>?_⟩ (fun k lb' b h1 h2 h3=>?_)⟩
 ·obtain⟨rfl,rfl⟩:=hl2 k lb' h1
  rw [hrt] at h2
  rcases hblk b h2 with h3 | ⟨k',h3,lb2,h4,h5⟩
  ·exact .inl h3
  ·exact .inr ⟨k',lb2,hl3 k' h3,h4,h5⟩
 ·obtain⟨h1,h2⟩:=hnew _ hI
  refine⟨fun k lb' h=>?_,fun d' hd'=>?_⟩
  ·obtain⟨rfl,rfl⟩:=hl2 k lb' h
   rw [hrt]
   exact h1
  ·have:d=d':=by simpa [P6] using hd'
   subst this
   exact h2
 ·obtain⟨rfl,rfl⟩:=hl2 k lb' h1
  exact .inl (hu.1 k' h2)
 ·have:d=d':=by simpa [P6] using h1
  subst this
  rcases hu.2 k' h2 with h3 | h3
  ·exact .inl h3
  ·subst h3
   exact .inr (by rw [hl1]; simp)
 ·obtain⟨rfl,rfl⟩:=hl2 k lb' h1
  rw [hrt] at h3
  rcases hblk b h3 with h4 | ⟨k',h4,lb2,h5,h6⟩
  ·exact .inl (aOt ha.kept.2.2.2.1 h4)
  ·exact ha.fresh k' lb2 b h5 (hnp k' h4) h6
theorem Ub (tk:Nat) (lb:LB) (d:DV):Rj tk lb d=P6 tk lb [] d:=rfl
theorem B5.ofVals {I:Nat->Prop}:∀ (vs:List Value),(∀ u∈vs,Gd u=true)->B5 ρ I w (vs.map DV.val) vs
 | [],_=>by simp [B5]
 | v :: vs,hok=>by
  simp only [aWq]
  unfold B5
  exact⟨v,vs,rfl,Ld (hok v (aI4 ..)),B5.ofVals vs fun u hu=>hok u (aHu _ hu)⟩
theorem Qm:∀ (vs:List Value) (k:Nat),Gu (vs.map DV.val) k->False
 | [],k,h=>by unfold List.map Gu at h; exact h
 | v :: vs,k,h=>by
  simp only [aWq] at h
  unfold Gu at h
  rcases h with h | h
  ·unfold men at h; exact h
  ·exact Qm vs k h
theorem aHk {t:TypeId} {z:List Value} {tk:Nat} (h:Zt P t z) (ha:Ew cx ρ σ a w) (ho:o.op=.alloc t) (hf:σ.U tk=false) (hdst:∀ t,o.dst=some t->t < cx.N) (hK:∀ a' w',Mx cx (σ.app o.dst (Rj tk (.box (z.map .val) t) (.ptr tk 0))) a' w'->K a' w'):o.wp P a w K Q:=by
 obtain⟨v,h1,h2,h3⟩:=h
 have hz:(zeroValue t).run P w=.ok v w:=by
  cases hi:P.info? t with
  | none=>rw [hi] at h1; cases h1
  | some i=>
   rw [hi] at h1
   have:i.zero=some v:=h1
   simp [zeroValue,typeInfo,hi,this]
 rw [Ub] at hK
 refine dJ (lb:=.box (z.map .val) t) (ks:=[]) (d:=.ptr tk 0) (w':=w.alloc (.cells v.cells t)) ha hdst hf (v:=.pointer (some ⟨w.heap.size,0,none⟩)) (vn:=.pointer (some ⟨w.heap.size,0,none⟩)) ?_ (ha.kept.alloc _) (by simp) (fun b hb _=>Below.heap_alloc w _ b hb) (fun b hb=>.inl (by simp [Cu] at hb; omega)) (fun I' hI=>⟨?_,?_⟩) ⟨fun k' hk'=>(Qm _ k' hk').elim,fun k' hk'=>.inr (by unfold men at hk'; exact hk')⟩ (fun k' hk'=>by simp at hk') hK
 ·simp [execOp,ho,Instr.alloc,hz,newVar,newRow]
 ·refine⟨w.heap.size,z,rfl,?_,.inl ha.kept.2.2.2.1,fun u hu=>(h3 u hu).1,B5.ofVals z fun u hu=>(h3 u hu).2⟩
  rw [heap_alloc_new]
  rw [<- h2]
 ·unfold C3
  exact⟨w.heap.size,by simp [L4,Cu],rfl⟩
theorem Uf {I:Nat->Prop} {d:DV} {v:Value} (h:C3 ρ I w d v) (ho:(Do d).all eG=true):∃ us,v.cells.toList=us/\B5 ρ I w (Do d) us/\∀ u∈us,u.oneCell'=true:=by
 have one:v.oneCell'=true->Do d=[d]->∃ us,v.cells.toList=us/\B5 ρ I w (Do d) us/\∀ u∈us,u.oneCell'=true:=fun h1 h2=>by
  refine⟨[v],?_,?_,fun u hu=>by simp at hu; subst hu; exact h1⟩
  ·cases v <;> first | rfl | cases h1
  ·rw [h2]
   unfold B5
   exact⟨v,[],rfl,h,by simp [B5]⟩
 cases d with
 | val x=>
  have h':=h
  unfold C3 at h'
  obtain⟨h',-⟩:=h'
  subst h'
  exact one (by simpa [Do,eG] using ho) rfl
 | sl sz cs=>
  have h':=h
  unfold C3 at h'
  obtain⟨A,n,c,e,-⟩:=h'.slice
  exact one (by rw [e]; rfl) rfl
 | slc sz cs=>
  have h':=h
  unfold C3 at h'
  obtain⟨-,A,n,e,-⟩:=h'
  exact one (by rw [e]; rfl) rfl
 | mp l=>
  have h':=h
  unfold C3 F1 at h'
  obtain⟨g,e,-⟩:=h'
  exact one (by rw [e]; rfl) rfl
 | row k=>
  have h':=h
  unfold C3 at h'
  exact one (by rw [h'.1]; exact h'.2) rfl
 | part k off n=>
  have h':=h
  unfold C3 at h'
  obtain⟨A,c,e,-⟩:=h'
  exact one (by rw [e]; rfl) rfl
 | ptr k i=>
  have h':=h
  unfold C3 at h'
  obtain⟨g,-,e⟩:=h'
  exact one (by rw [e]; rfl) rfl
 | elt cs=>
  have h':=h
  unfold C3 at h'
  obtain⟨ad,e,-⟩:=h'
  exact one (by rw [e]; rfl) rfl
 | agg ds=>
  unfold C3 at h
  obtain⟨vs,rfl,h1,h2⟩:=h
  exact⟨vs,by simp [Value.cells],h2,h1⟩
 | tup ds=>simp [Do,eG] at ho
 | clo f n ds=>
  have h':=h
  unfold C3 at h'
  obtain⟨vs,e,-⟩:=h'
  exact one (by rw [e]; rfl) rfl
theorem Wj {d:DV} {k:Nat} (h:Gu (Do d) k):men d k:=by
 cases d with
 | agg ds=>unfold men; exact h
 | _=>
  have h':Gu [_] k:=h
  unfold Gu Gu at h'
  rcases h' with h' | h'
  ·exact h'
  ·exact h'.elim
theorem aRe {t:TypeId} {x:Operand} {d:DV} {b:Option LB} {tk:Nat} {tc:Bool} (hoc:(Do d).all eG=true) (ha:Ew cx ρ σ a w) (hds:Fz σ tc [x]=some [(d,b)]) (ho:o.op=.box t x) (hf:σ.U tk=false) (hdst:∀ t,o.dst=some t->t < cx.N) (hK:∀ a' w',Mx cx (σ.app o.dst (Rj tk (.box (Do d) t) (.ptr tk 0))) a' w'->K a' w'):o.wp P a w K Q:=by
 obtain⟨h1,h2,-⟩:=Dm ha (Mb hds)
 obtain⟨us,e1,e2,e3⟩:=Uf h1 hoc
 rw [Ub] at hK
 refine dJ (lb:=.box (Do d) t) (ks:=[]) (d:=.ptr tk 0) (w':=w.alloc (.cells (a.eval x).cells t)) ha hdst hf (v:=.pointer (some ⟨w.heap.size,0,none⟩)) (vn:=.pointer (some ⟨w.heap.size,0,none⟩)) ?_ (ha.kept.alloc _) (by simp) (fun b hb _=>Below.heap_alloc w _ b hb) (fun b hb=>.inl (by simp [Cu] at hb; omega)) (fun I' hI=>⟨?_,?_⟩) ⟨fun k' hk'=>h2 k' (Wj hk'),fun k' hk'=>.inr (by unfold men at hk'; exact hk')⟩ (fun k' hk'=>by simp at hk') hK
 ·simp [execOp,ho,Instr.box,newVar,newRow]
 ·refine⟨w.heap.size,us,rfl,?_,.inl ha.kept.2.2.2.1,e3,B5.step hI _ _ (fun k hk=>?_) e2⟩
  ·rw [heap_alloc_new,<- e1]
  ·have:=h2 k (Wj hk)
   unfold L4
   split
   ·rename_i h; subst h; rw [hf] at this; cases this
   ·rfl
 ·unfold C3
  exact⟨w.heap.size,by simp [L4,Cu],rfl⟩
end
end Go.Proofs.YtobamahlipiakaaGreat
