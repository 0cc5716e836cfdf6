import Derived.Shelf.Strings.OnBuilder
import Derived.Test.YtboglmbblmakjaaGreatDoorProg
import Derived.Test.YtboglmbblmakjaaGreatDoorEH
import Derived.Test.YtboglmbblmakjaaGreatDoorPU
set_option maxRecDepth 1000000
set_option maxHeartbeats 4000000
set_option linter.unusedVariables false
set_option linter.unusedSimpArgs false
namespace Go.Proofs.YtboglmbblmakjaaGreatDoor
open Go.RowKit Go.Shelf
def jR:Go.Shelf.Ren:=⟨fun | 156=>135 | 165=>190 | 166=>191 | 169=>192 | 240=>227 | 241=>228 | 276=>258 | 277=>259 | n=>n,fun | 31=>91 | 37=>219 | 70=>307 | 72=>309 | 75=>312 | 76=>313 | 80=>204 | 127=>357 | 164=>390 | n=>n,fun n=>n⟩
theorem jL:Lays.n156 Tryz.prog jR:=by
 constructor <;> first | kernel_rfl | (intro _; kernel_rfl)
theorem jX:Builder.Extra Tryz.prog jR:=by
 refine { sizeBuilder:=?_,liesBuilder:=?_,t5:=?_,a5:=?_,z5:=?_,v5:=?_,infoByte:=?_,cellsByte:=?_,sizeByte:=?_,neB5:=by decide } <;> first | kernel_rfl | (intro _; kernel_rfl)
theorem aNz:∀ {l:List ByteArray} {j:Nat} {x:ByteArray},l[j]?=some x->(Ac eS l)[j]?=some (.str x):=by
 intro l j x h
 have:Ac eS l=l.map C.str:=by
  clear h
  unfold Ac
  induction l with
  | nil=>rfl
  | cons a l ih=>simp [eS,ih]
 rw [this,aKm,h]
 rfl
theorem iX (elems:List ByteArray) (sep:ByteArray) (r:ByteArray) (h:N8 elems sep=some r):Fn Tryz.prog 135 0 [.sl 1 (Ac eS elems),.val (.string sep)] [] (fun d' b'=>d'=.val (.string r)/\b'=[]):=by
 unfold N8 at h
 split at h
 ·rename_i hc
  injection h with h
  refine⟨aKp _,Zd.of (fn:=Tryz.f135) Tryz.func135 (by kernel_rfl) (by kernel_rfl),fun ρ I w vs hI hr hb hs=>?_⟩
  unfold Cj at hr
  obtain⟨u,us,rfl,h1,hr⟩:=hr
  unfold Cj at hr
  obtain⟨u2,us2,rfl,h2,h3⟩:=hr
  unfold Cj at h3
  subst h3
  unfold Dk at h1 h2
  obtain⟨rfl,-⟩:=h2
  unfold Ga at h1
  obtain⟨A,n,c,rfl,hl,hn,hm,hcs⟩:=h1
  have hl:elems.length=n:=by rw [H8 jO] at hl; omega
  have hmx:(1000000:Nat)<=maxLen:=by decide
  have fin:∀ {w':World},Below w.heap.size w w'->∃ v r' bx',(Value.string r)=v/\(r'=DV.val (.string r)/\bx'=[])/\lT ρ I w 0 ([]:List LB).length v r' bx' w':=fun {w'} hw=>by
   refine⟨.string r,.val (.string r),[],rfl,⟨rfl,rfl⟩,⟨aKp _,by simp⟩,⟨hw.os,hw.tape,hw.output,hw.size⟩,fun b hb _=>hw.block b hb,⟨ρ,fun _=>False,fun k hk=>by omega,fun b hb=>hb.elim,?_,fun k lb hk=>by simp at hk,fun k b _ hk=>by simp at hk,fun k k' b hk=>by simp at hk⟩,fun k hk=>by unfold men at hk; exact hk.elim,fun k lb hk=>by simp at hk⟩
   unfold Dk
   refine⟨rfl,Rq.2 ?_⟩
   rw [<- h]
   have:=hc.2
   show (Go.Lib.join (elems.map (·.data.toList)) sep.data.toList).toArray.size<=maxLen
   rw [List.size_toArray]
   omega
  have h0:=hcs
  rcases aLg n with hz | hz
  ·subst hz
   have he:elems=[]:=aF9 hl
   subst he
   have:=Go.Proofs.Any.strings_Join_none jL jX A c sep w
   refine this.mono ?_
   rintro e w' ⟨rfl,rfl⟩
   have e1:(⟨#[]⟩:ByteArray)=r:=by rw [<- h]; rfl
   rw [e1]
   obtain⟨v,r',b',rfl,q⟩:=fin (Below.refl _ _)
   exact⟨_,r',b',rfl,q⟩
  ·obtain⟨ad,rfl,hi,hcs⟩:=hcs hz
   have hcell:∀ (j:Nat) x,elems[j]?=some x->w.cell? (ad.add j)=some (.string x):=fun j x hx=>by
    obtain⟨u,q1,q2⟩:=Jq.at_ hcs (aNz hx)
    rw [aNm] at q1
    rw [q1,q2.str_.1]
   obtain⟨x0,hx0⟩:∃ x,elems[0]?=some x:=⟨elems[0],aBb (by omega)⟩
   obtain⟨bk,o,sp⟩:=ad
   have hsp:sp=none:=by
    have:=hcell 0 x0 hx0
    cases sp with
    | none=>rfl
    | some s=>
     simp [Addr.add,World.cell?] at this
     split at this <;> simp at this
   subst hsp
   have hadd:∀ j,(⟨bk,o,none⟩:Addr).add j=⟨bk,o + j,none⟩:=fun j=>by
    unfold Addr.add
    split
    ·rename_i hj; subst hj; rfl
    ·rfl
   have:=Go.Proofs.Any.strings_Join jL jX bk o c elems sep w (fun j x hx=>by rw [<- hadd]; exact hcell j x hx) (hI.1 bk hi).1 (by have:=hc.1; omega) (by omega) (by have:=hc.2; omega)
   rw [hl] at this
   refine this.mono ?_
   rintro e w' ⟨rfl,hw⟩
   rw [h]
   obtain⟨v,r',b',rfl,q⟩:=fin hw
   exact⟨_,r',b',rfl,q⟩
 ·cases h
end Go.Proofs.YtboglmbblmakjaaGreatDoor
