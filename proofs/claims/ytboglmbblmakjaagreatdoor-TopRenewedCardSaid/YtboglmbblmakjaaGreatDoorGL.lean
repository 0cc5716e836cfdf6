import Derived.Test.YtboglmbblmakjaaGreatDoorOP
import Derived.Test.YtboglmbblmakjaaGreatDoorRows
import Derived.LaidMore
import Derived.Stop.Joined
import Derived.Stop.LaidErr
set_option linter.unusedVariables false
set_option linter.unusedSimpArgs false
namespace Go.Proofs.YtboglmbblmakjaaGreatDoor
open Go.RowKit Go.ChangeShapes Go.WideShapes
def aVj:List Int:=[0,1,28,2,29,14,24,3,30,22,20,15,25,17,4,8,31,27,13,23,21,19,16,7,26,12,18,6,11,5,10,9]
def aPl:List Int:=(List.range 256).map fun i=>if i=32\/(9<=i/\i<=13) then 1 else 0
def qT:List (String×DataW Unit):=[("math/bits.deBruijn32tab",Rows.laid_math_bits_deBruijn32tab),("unicode.White_Space",Rows.laid_unicode_White_Space),("strings.asciiSpace",Rows.laid_strings_asciiSpace)]
theorem xU {w:World} {S:Nat->Prop} {ad:Addr}:∀ (cs:List C) (i:Nat),(∀ j c,cs[j]?=some c->∃ u,w.cell? (ad.add (i + j))=some u/\Ga w S c u)->Jq w S ad i cs
 | [],i,_=>by unfold Jq; trivial
 | c :: cs,i,h=>by
  unfold Jq
  exact⟨h 0 c rfl,xU cs (i + 1) fun j c' hj=>by
   have:=h (j + 1) c' (by simpa using hj)
   rwa [show i + (j + 1)=i + 1 + j by omega] at this⟩
theorem sH {W:World} {nums:List Int} {n:String} {r:List (String×DataW Unit)} {g t N:Nat} {cs:List C} (h:laidMet Tryz.prog ((n,.agg (nums.map fun n=>.lit (.int .u8 n))) :: r) W) (hN:nums.length=N) (h0:0 < N)
  (gT:Tryz.prog.globalNamed n=some g) (tT:(Tryz.prog.globals[g]?).map (·.type)=some t) (uT:Tryz.prog.underlying t=some (.array N 5)) (hc:cs=nums.map fun n=>C.int .u8 n):lt W.heap.size g/\Jq W (lt W.heap.size) ⟨g,0,none⟩ 0 cs:=by
 have cT:Tryz.prog.cellsOf 5=1:=by kernel_rfl
 obtain⟨ps,⟨g0,t0,cs0,f0,p0,q0,hg0,ht0,hv0,hd0,-,-⟩,-,-⟩:=h
 obtain rfl:=oi_ (gT.symm.trans hg0)
 obtain rfl:=oi_ (tT.symm.trans ht0)
 obtain⟨xs,m1,rfl,hx1,hlen,hn,hel⟩:=DataW.trod_array uT hd0
 have hx1:=(Prod.mk.injEq _ _ _ _).mp hx1
 have hx1:(DataW.agg (nums.map fun n=>DataW.lit (.int .u8 n)):DataW Unit)=.agg (xs.map (·.1)):=hx1.1
 injection hx1 with hx1
 have cell:∀ (j:Nat) (n:Int),nums[j]?=some n->W.cell? ⟨g,j,none⟩=some (.int .u8 n)/\IntKind.u8.min<=n/\n<=IntKind.u8.max:=fun j n hj=>by
  have hj32:j < N:=by rw [<- hN]; exact (aBe.1 hj).1
  obtain⟨y,hy⟩:∃ y,xs[j]?=some y:=⟨_,aBb (by omega)⟩
  have h1:=hel j hj32
  rw [hy,cT,Nat.mul_one] at h1
  obtain⟨k,e1,e2,e3⟩:=DataW.trod_int Tryz.underlying5 h1
  have hk:k=n:=by
   have h2:(nums.map fun n=>(DataW.lit (.int .u8 n):DataW Unit))[j]?=(xs.map (·.1))[j]?:=by rw [hx1]
   rw [aKm,aKm,hj,hy] at h2
   have h3:(DataW.lit (.int .u8 n):DataW Unit)=y.1:=oi_ h2
   rw [e2] at h3
   have h3:(DataW.lit (.int .u8 n):DataW Unit)=.lit (.int .u8 k):=h3
   simp only [DataW.lit.injEq,Lit.int.injEq,true_and] at h3
   exact h3.symm
  subst hk
  refine⟨?_,bD e3⟩
  have:=World.var?_cell hg0 hv0 j
  rw [this]
  have e4:cs0.toList[j]?=some (.int .u8 k):=by
   have:=congrArg (fun l=>l[0]?) e1
   simpa [aK0,aLf] using this
  rw [<- aUo]
  exact e4
 have hb:lt W.heap.size g:=by
  obtain⟨z,hz⟩:∃ z,nums[0]?=some z:=⟨_,aBb (by omega)⟩
  have:=(cell 0 z hz).1
  rcases aU5 g W.heap.size with h1 | h1
  ·exact h1
  ·rw [World.cell?,bCy h1] at this
   simp at this
 subst hc
 refine⟨hb,xU _ 0 fun j c hj=>?_⟩
 rw [aKm] at hj
 cases hn':nums[j]? with
 | none=>rw [hn'] at hj; cases hj
 | some n=>
  rw [hn'] at hj
  injection hj with hj
  subst hj
  obtain⟨c1,c2⟩:=cell j n hn'
  refine⟨.int .u8 n,?_,by unfold Ga; exact⟨rfl,c2⟩⟩
  show W.cell? (Addr.add ⟨g,0,none⟩ (0 + j))=_
  rw [<- c1,aNm]
  cases j with
  | zero=>rfl
  | succ j=>simp [Addr.add]
theorem aIf {W:World} (h:laidMetH Tryz.prog qT W):uK (lt W.heap.size) W:=fun p hp=>by
 rw [MakeChecks.laidMetH_plain _ _ _ (by kernel_rfl)] at h
 have e:(Rows.laid_strings_asciiSpace:DataW Unit)=.agg (aPl.map fun n=>.lit (.int .u8 n)):=by kernel_rfl
 have h2:laidMet Tryz.prog [("strings.asciiSpace",.agg (aPl.map fun n=>.lit (.int .u8 n)))] W:=by rw [<- e]; exact h.tail.tail
 unfold Dk
 rcases aF6.1 hp with hp | hp
 ·subst hp
  exact⟨⟨0,0,none⟩,rfl,sH (nums:=aVj) (N:=32) (g:=0) (t:=212) h rfl (by omega) (by kernel_rfl) (by kernel_rfl) (by kernel_rfl) rfl⟩
 ·rw [aF2.1 hp]
  exact⟨⟨1,0,none⟩,rfl,sH (nums:=aPl) (N:=256) (g:=1) (t:=303) h2 (by kernel_rfl) (by omega) (by kernel_rfl) (by kernel_rfl) (by kernel_rfl) (by kernel_rfl)⟩
theorem aEh (os:Os) (args:Array Value):laidMetH Tryz.prog qT ((World.doorLaid Tryz.prog 400 os).forCall (fun _ _=>0) ⟨#[],args,[]⟩).memory:=
 laidMetH_of_parts3 (fuel:=8) (laidMet_of_run' 8 (by kernel_rfl) (by kernel_rfl)) (by kernel_rfl) (by kernel_rfl)
end Go.Proofs.YtboglmbblmakjaaGreatDoor
