import Derived.Test.YtlfeokjhphpjeaaGreatBase
import Derived.WalkKit
import Derived.WalkLawsBesides
set_option linter.unusedSimpArgs false
set_option linter.unusedVariables false
namespace Go.Proofs.YtlfeokjhphpjeaaGreat
open Go.RowKit
def G3 (l:List UInt8):List C:=l.map fun x=>.int .u8 x.toNat
def cM:C->Bool
 | .sl _ _=>false
 | .mp _=>false
 | _=>true
theorem Dw.flat_any {w w':World} {S S':Nat->Prop} {c:C} {v:Value} (hf:cM c=true) (h:Dw w S c v):Dw w' S' c v:=by
 cases c with
 | int k n=>unfold Dw at *; exact h
 | bool b=>unfold Dw at *; exact h
 | str s=>unfold Dw at *; exact h
 | raw u=>unfold Dw at *; exact h
 | sl sz cs=>cases hf
 | mp l=>cases hf
theorem Ev.flat_any {w w':World} {S S':Nat->Prop} {cs:List C} {us:List Value} (hf:∀ c∈cs,cM c=true) (h:Ev w S cs us):Ev w' S' cs us:=
 ⟨h.1,fun j c u h1 h2=>(h.2 j c u h1 h2).flat_any (hf c (List.mem_of_getElem? h1))⟩
theorem Jc (l:List UInt8):(G3 l).length=l.length:=by simp [G3]
theorem Dw.byte {w:World} {S:Nat->Prop} {l:List UInt8} {n cap:Nat} {A:Option Addr} (h:Dw w S (.sl 1 (G3 l)) (.slice A n cap)) {k:Nat} (hk:k < n) :
  ∃ ad x,A=some ad/\S ad.block/\l[k]?=some x/\w.cell? (ad.add k)=some (.int .u8 x.toNat):=by
 have hl:=(Dw.len h).1
 obtain⟨ad,hA,hS,hc⟩:=h.cells (by omega)
 have hk':k < l.length:=by simp [G3] at hl; omega
 obtain⟨u,c0,r0⟩:=hc k (.int .u8 l[k].toNat) (by simp [G3,hk'])
 exact⟨ad,l[k],hA,hS,List.getElem?_eq_getElem hk',by rw [c0,r0.int_.1]⟩
theorem Dw.blen {w:World} {S:Nat->Prop} {l:List UInt8} {n cap:Nat} {A:Option Addr} (h:Dw w S (.sl 1 (G3 l)) (.slice A n cap)):l.length=n/\n<=cap/\cap<=maxLen:=by
 have:=(Dw.len h)
 rw [Jc] at this
 exact⟨by omega,this.2⟩
theorem fG {P:Program} {w:World} (src e dst:TypeId) (hs:P.underlying src=some (.slice e)) (he:P.underlying e=some (.int .u8)) (hd:P.underlying dst=some .string)
  {l:List UInt8} {A:Option Addr} {n c:Nat} (h:Rd w (.sl 1 (G3 l)) (.slice A n c)):(convert src dst (.slice A n c)).run P w=.ok (.string ⟨l.toArray⟩) w:=by
 have hl:=(Dw.blen h).1
 have key:∀ a,A=some a->(loadCells a n).run P w=.ok ((l.map fun x=>(x.toNat:Int)).map (Value.int .u8)).toArray w:=by
  intro a ha
  have h1:=run_loadCells_list (P:=P) w a ((l.map fun x=>(x.toNat:Int)).map (Value.int .u8)) (fun j v hj=>by
   have hj':j < n:=by
    rcases aCf j n with h | h
    ·exact h
    ·rw [aC5 (by simpa [hl] using h)] at hj; cases hj
   obtain⟨ad,x,e1,-,e2,e3⟩:=Dw.byte h hj'
   rw [ha] at e1
   injection e1 with e1
   subst e1
   rw [e3]
   simp [e2] at hj
   rw [hj])
  simpa [hl] using h1
 rw [run_convert_bytes_string w src dst e A n c hs he hd]
 cases A with
 | none=>
  have h0:n=0:=by
   rcases Nat.eq_zero_or_pos n with h0 | h0
   ·exact h0
   ·obtain⟨ad,_,e1,_⟩:=Dw.byte h h0; cases e1
  have:l=[]:=List.eq_nil_of_length_eq_zero (by omega)
  subst this
  simp [Conv.bytesToString]
  rfl
 | some a=>
  rw [run_bytesToString w a n c _ (key a rfl),foldl_push_bytes]
  have e:(l.map fun x=>(x.toNat:Int)).map (fun n=>UInt8.ofNat n.toNat)=l:=by
   rw [List.map_map]
   exact (aDz (fun x _=>by simp)).trans (List.map_id l)
  rw [e]
  simp [ByteArray.empty,ByteArray.emptyWithCapacity]
  rfl
end Go.Proofs.YtlfeokjhphpjeaaGreat
