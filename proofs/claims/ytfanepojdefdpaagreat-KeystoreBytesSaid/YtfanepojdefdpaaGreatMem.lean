import Derived.Test.YtfanepojdefdpaaGreatBase
import Derived.WalkKit
import Derived.WalkLawsBesides
set_option linter.unusedSimpArgs false
set_option linter.unusedVariables false
namespace Go.Proofs.YtfanepojdefdpaaGreat
open Go.RowKit
def H6 (l:List UInt8):List C:=l.map fun x=>.int .u8 x.toNat
def fA:C->Bool
 | .sl _ _=>false
 | .mp _=>false
 | _=>true
theorem D3.flat_any {w w':World} {S S':Nat->Prop} {c:C} {v:Value} (hf:fA c=true) (h:D3 w S c v):D3 w' S' c v:=by
 cases c with
 | int k n=>unfold D3 at *; exact h
 | bool b=>unfold D3 at *; exact h
 | str s=>unfold D3 at *; exact h
 | raw u=>unfold D3 at *; exact h
 | sl sz cs=>cases hf
 | mp l=>cases hf
theorem Fb.flat_any {w w':World} {S S':Nat->Prop} {cs:List C} {us:List Value} (hf:∀ c∈cs,fA c=true) (h:Fb w S cs us):Fb w' S' cs us:=
 ⟨h.1,fun j c u h1 h2=>(h.2 j c u h1 h2).flat_any (hf c (aEy h1))⟩
theorem Kc (l:List UInt8):(H6 l).length=l.length:=by simp [H6]
theorem D3.byte {w:World} {S:Nat->Prop} {l:List UInt8} {n cap:Nat} {A:Option Addr} (h:D3 w S (.sl 1 (H6 l)) (.slice A n cap)) {k:Nat} (hk:k < n) :
  ∃ ad x,A=some ad/\S ad.block/\l[k]?=some x/\w.cell? (ad.add k)=some (.int .u8 x.toNat):=by
 have hl:=(D3.len h).1
 obtain⟨ad,hA,hS,hc⟩:=h.cells (by omega)
 have hk':k < l.length:=by simp [H6] at hl; omega
 obtain⟨u,c0,r0⟩:=hc k (.int .u8 l[k].toNat) (by simp [H6,hk'])
 exact⟨ad,l[k],hA,hS,aA1 hk',by rw [c0,r0.int_.1]⟩
theorem D3.blen {w:World} {S:Nat->Prop} {l:List UInt8} {n cap:Nat} {A:Option Addr} (h:D3 w S (.sl 1 (H6 l)) (.slice A n cap)):l.length=n/\n<=cap/\cap<=maxLen:=by
 have:=(D3.len h)
 rw [Kc] at this
 exact⟨by omega,this.2⟩
theorem gX {P:Program} {w:World} (src e dst:TypeId) (hs:P.underlying src=some (.slice e)) (he:P.underlying e=some (.int .u8)) (hd:P.underlying dst=some .string)
  {l:List UInt8} {A:Option Addr} {n c:Nat} (h:Rd w (.sl 1 (H6 l)) (.slice A n c)):(convert src dst (.slice A n c)).run P w=.ok (.string ⟨l.toArray⟩) w:=by
 have hl:=(D3.blen h).1
 have key:∀ a,A=some a->(loadCells a n).run P w=.ok ((l.map fun x=>(x.toNat:Int)).map (Value.int .u8)).toArray w:=by
  intro a ha
  have h1:=run_loadCells_list (P:=P) w a ((l.map fun x=>(x.toNat:Int)).map (Value.int .u8)) (fun j v hj=>by
   have hj':j < n:=by
    rcases aF4 j n with h | h
    ·exact h
    ·rw [aF5 (by simpa [hl] using h)] at hj; cases hj
   obtain⟨ad,x,e1,-,e2,e3⟩:=D3.byte h hj'
   rw [ha] at e1
   injection e1 with e1
   subst e1
   rw [e3]
   simp [e2] at hj
   rw [hj])
  simpa [hl] using h1
 rw [run_convert_bytes_string w src dst e A n c hs he hd]
 cases A with
 | none=>
  have h0:n=0:=by
   rcases aFa n with h0 | h0
   ·exact h0
   ·obtain⟨ad,_,e1,_⟩:=D3.byte h h0; cases e1
  have:l=[]:=aDu (by omega)
  subst this
  simp [Conv.bytesToString]
  rfl
 | some a=>
  rw [run_bytesToString w a n c _ (key a rfl),foldl_push_bytes]
  have e:(l.map fun x=>(x.toNat:Int)).map (fun n=>UInt8.ofNat n.toNat)=l:=by
   rw [List.map_map]
   exact (aGl (fun x _=>by simp)).trans (List.map_id l)
  rw [e]
  simp [ByteArray.empty,ByteArray.emptyWithCapacity]
  rfl
end Go.Proofs.YtfanepojdefdpaaGreat
