import Derived.Test.YtkioneinddihlaaGreatBase
import Derived.WalkKit
import Derived.WalkLawsBesides
set_option linter.unusedSimpArgs false
set_option linter.unusedVariables false
namespace Go.Proofs.YtkioneinddihlaaGreat
open Go.RowKit
def Ji (l:List UInt8):List C:=l.map fun x=>.int .u8 x.toNat
def lQ:C->Bool
 | .sl _ _=>false
 | .mp _=>false
 | _=>true
theorem El.flat_any {w w':World} {S S':Nat->Prop} {c:C} {v:Value} (hf:lQ c=true) (h:El w S c v):El w' S' c v:=by
 cases c with
 | int k n=>unfold El at *; exact h
 | bool b=>unfold El at *; exact h
 | str s=>unfold El at *; exact h
 | raw u=>unfold El at *; exact h
 | sl sz cs=>cases hf
 | mp l=>cases hf
theorem Fl.flat_any {w w':World} {S S':Nat->Prop} {cs:List C} {us:List Value} (hf:∀ c∈cs,lQ c=true) (h:Fl w S cs us):Fl w' S' cs us:=
 ⟨h.1,fun j c u h1 h2=>(h.2 j c u h1 h2).flat_any (hf c (aG3 h1))⟩
theorem Mg (l:List UInt8):(Ji l).length=l.length:=by simp [Ji]
theorem El.byte {w:World} {S:Nat->Prop} {l:List UInt8} {n cap:Nat} {A:Option Addr} (h:El w S (.sl 1 (Ji l)) (.slice A n cap)) {k:Nat} (hk:k < n) :
  ∃ ad x,A=some ad/\S ad.block/\l[k]?=some x/\w.cell? (ad.add k)=some (.int .u8 x.toNat):=by
 have hl:=(El.len h).1
 obtain⟨ad,hA,hS,hc⟩:=h.cells (by omega)
 have hk':k < l.length:=by simp [Ji] at hl; omega
 obtain⟨u,c0,r0⟩:=hc k (.int .u8 l[k].toNat) (by simp [Ji,hk'])
 exact⟨ad,l[k],hA,hS,aAy hk',by rw [c0,r0.int_.1]⟩
theorem El.blen {w:World} {S:Nat->Prop} {l:List UInt8} {n cap:Nat} {A:Option Addr} (h:El w S (.sl 1 (Ji l)) (.slice A n cap)):l.length=n/\n<=cap/\cap<=maxLen:=by
 have:=(El.len h)
 rw [Mg] at this
 exact⟨by omega,this.2⟩
theorem lF {P:Program} {w:World} (src e dst:TypeId) (hs:P.underlying src=some (.slice e)) (he:P.underlying e=some (.int .u8)) (hd:P.underlying dst=some .string)
  {l:List UInt8} {A:Option Addr} {n c:Nat} (h:Rd w (.sl 1 (Ji l)) (.slice A n c)):(convert src dst (.slice A n c)).run P w=.ok (.string ⟨l.toArray⟩) w:=by
 have hl:=(El.blen h).1
 have key:∀ a,A=some a->(loadCells a n).run P w=.ok ((l.map fun x=>(x.toNat:Int)).map (Value.int .u8)).toArray w:=by
  intro a ha
  have h1:=run_loadCells_list (P:=P) w a ((l.map fun x=>(x.toNat:Int)).map (Value.int .u8)) (fun j v hj=>by
   have hj':j < n:=by
    rcases aL2 j n with h | h
    ·exact h
    ·rw [aPd (by simpa [hl] using h)] at hj; cases hj
   obtain⟨ad,x,e1,-,e2,e3⟩:=El.byte h hj'
   rw [ha] at e1
   injection e1 with e1
   subst e1
   rw [e3]
   simp [e2] at hj
   rw [hj])
  simpa [hl] using h1
 rw [run_convert_bytes_string w src dst e A n c hs he hd]
 cases A with
 | none=>
  have h0:n=0:=by
   rcases aH2 n with h0 | h0
   ·exact h0
   ·obtain⟨ad,_,e1,_⟩:=El.byte h h0; cases e1
  have:l=[]:=aFc (by omega)
  subst this
  simp [Conv.bytesToString]
  rfl
 | some a=>
  rw [run_bytesToString w a n c _ (key a rfl),foldl_push_bytes]
  have e:(l.map fun x=>(x.toNat:Int)).map (fun n=>UInt8.ofNat n.toNat)=l:=by
   rw [List.map_map]
   exact (List.map_congr_left (fun x _=>by simp)).trans (List.map_id l)
  rw [e]
  simp [ByteArray.empty,ByteArray.emptyWithCapacity]
  rfl
end Go.Proofs.YtkioneinddihlaaGreat
