/- Plain texts, joined. No program is in sight here. -/
import Derived.Test.YtkioneinddihlaaGreatL3
import Derived.Test.YtkioneinddihlaaGreatC1
import Derived.Sort.AssemblyPlain
import Derived.Test.YtkioneinddihlaaGreatSG1
set_option linter.unusedVariables false
set_option linter.unusedSimpArgs false
namespace Go.Proofs.YtkioneinddihlaaGreat
section
open Go Go.Sort
section
variable {cmp:Aa->Aa->Option Int} {lt:Aa->Aa->Bool} {P:Aa->Prop}
def Be (cmp:Aa->Aa->Option Int) (lt:Aa->Aa->Bool) (P:Aa->Prop):Prop:=∀ x y,P x->P y->∃ n,cmp x y=some n/\decide (n < 0)=lt x y
def Ax (P:Aa->Prop) (d:Array Aa):Prop:=d.size<=1000000000/\∀ i,i < d.size->P d[i]!
theorem Bv (d:Array Aa) (i j:Nat):(swp d i j).size=d.size:=by simp [swp]
theorem Ax.swp {d:Array Aa} (h:Ax P d) {i j:Nat} (hi:i < d.size) (hj:j < d.size):Ax P (Sort.swp d i j):=by
 refine⟨by rw [Bv]; exact h.1,fun k hk=>?_⟩
 rw [Bv] at hk
 unfold Sort.swp
 by_cases h1:j=k
 ·subst h1
  rw [aPg ((d.setIfInBounds i d[j]!).setIfInBounds j d[i]!) _ (by simpa using hk)]
  simp only [Array.getElem_setIfInBounds_self]
  exact h.2 i hi
 ·by_cases h2:i=k
  ·subst h2
   rw [aPg ((d.setIfInBounds i d[j]!).setIfInBounds j d[i]!) _ (by simpa using hk)]
   rw [aO9 (by simpa using hk) (by omega)]
   simp only [Array.getElem_setIfInBounds_self]
   exact h.2 j hj
  ·rw [aPg _ _ (by simpa using hk)]
   rw [aO9 (by simpa using hk) (by omega),aO9 (by simpa using hk) (by omega)]
   have:=h.2 k hk
   rwa [aPg d k hk] at this
theorem Cj {d:Array Aa} {i:Nat} (h:i < d.size) {k:Int} (hk:k=(i:Int)):Bo d.toList k=some d[i]!:=by
 subst hk
 rw [Cr,aNt,aJh h,aPg d i h]
theorem Ls (d:Array Aa) (i:Nat) (x:Aa):Dj d.toList i x=(d.setIfInBounds i x).toList:=by
 unfold Dj
 simp
theorem G1 {d:Array Aa} {i:Nat} {x:Aa} {j:Nat} (h:i < d.size) {k:Int} (hk:k=(i:Int)):∃ y,Bo (Dj d.toList j x) k=some y:=by
 subst hk
 rw [Cr]
 exact⟨_,aAy (by unfold Dj; simpa using h)⟩
theorem Gx (d:Array Aa) (i j:Nat):Dj (Dj d.toList i d[j]!) j d[i]! = (Sort.swp d i j).toList:=by
 rw [Ls,Ls]
 rfl
theorem F9 (hc:Be cmp lt P) {d:Array Aa} (h:Ax P d) {i j:Nat} (hi:i < d.size) (hj:j < d.size):∃ n,cmp d[i]! d[j]! = some n/\decide (n < 0)=lt d[i]! d[j]!:=hc _ _ (h.2 i hi) (h.2 j hj)
theorem Ld (hc:Be cmp lt P) {a i1:Nat}:∀ (j:Nat) (d:Array Aa),j < d.size->Ax P d->
  Ax P (insInner lt a j d)/\(insInner lt a j d).size=d.size/\B1 (fun q'=>Ap.l2 (a:Int) cmp (i1:Int) q'.1 q'.2) ((j:Int),d.toList)=some (.next (W ((i1:Int) + 1),(insInner lt a j d).toList))
 | 0,d,hj,hd=>by
  refine⟨hd,rfl,D8 ?_⟩
  show Ap.l2 (a:Int) cmp (i1:Int) ((0:Nat):Int) d.toList=_
  unfold Ap.l2
  rw [aAk (by omega)]
  rfl
 | j + 1,d,hj,hd=>by
  have hsz:=hd.1
  have hW:W (((j + 1:Nat):Int) - 1)=(j:Int):=by rw [Db (by omega)]; omega
  unfold insInner
  by_cases ha:a < j + 1
  ·obtain⟨n,h1,h2⟩:=F9 hc hd hj (show j < d.size by omega)
   have hbody:∀ r,Ap.j3 (i1:Int) ((j + 1:Nat):Int) d.toList (lt d[j + 1]! d[j]!)=r->Ap.l2 (a:Int) cmp (i1:Int) ((j + 1:Nat):Int) d.toList=r:=fun r hr=>by
    unfold Ap.l2
    rw [aAg (by omega),aEw,Cj hj rfl,aAc,Cj (i:=j) (by omega) hW,aAc,h1,aAc,h2]
    exact hr
   cases hl:lt d[j + 1]! d[j]! with
   | true=>
    obtain⟨q1,q2,q3⟩:=Ld hc (i1:=i1) (a:=a) j (Sort.swp d (j + 1) j) (by rw [Bv]; omega) (hd.swp hj (by omega))
    rw [if_pos (by simp [ha])]
    refine⟨q1,by rw [q2,Bv],?_⟩
    have hb':Ap.l2 (a:Int) cmp (i1:Int) ((j + 1:Nat):Int) d.toList=some (.next ((j:Int),(Sort.swp d (j + 1) j).toList)):=by
     refine hbody _ ?_
     rw [hl]
     unfold Ap.j3
     obtain⟨y,hy⟩:=G1 (d:=d) (x:=d[j]!) (j:=(((j + 1:Nat):Int)).toNat) (i:=j) (by omega) hW
     rw [aEw,Cj (i:=j) (by omega) hW,aAc,Cj hj rfl,aAc,hy,aAc,hW]
     have e1:(((j + 1:Nat):Int)).toNat=j + 1:=by omega
     have e2:((j:Int)).toNat=j:=by omega
     rw [e1,e2,Gx]
    exact (En (body:=fun q'=>Ap.l2 (a:Int) cmp (i1:Int) q'.1 q'.2) (s:=(((j + 1:Nat):Int),d.toList)) hb').trans q3
   | false=>
    rw [if_neg (by simp)]
    refine⟨hd,rfl,D8 (hbody _ ?_)⟩
    rw [hl]
    rfl
  ·rw [if_neg (by simp [ha])]
   refine⟨hd,rfl,D8 ?_⟩
   show Ap.l2 (a:Int) cmp (i1:Int) ((j + 1:Nat):Int) d.toList=_
   unfold Ap.l2
   rw [aAk (by omega)]
   rfl
theorem Lb (hc:Be cmp lt P) {a b:Nat}:∀ (n i:Nat) (d:Array Aa),b - i=n->b<=d.size->Ax P d->
  B1 (fun q'=>Ap.l1 (a:Int) (b:Int) cmp q'.1 q'.2) ((i:Int),d.toList)=some (insOuter lt a b i d).toList
 | 0,i,d,hn,hb,hd=>by
  unfold insOuter
  rw [if_neg (by omega)]
  refine D8 (x:=some d.toList) ?_
  show Ap.l1 (a:Int) (b:Int) cmp (i:Int) d.toList=_
  unfold Ap.l1
  rw [aAk (by omega)]
  rfl
 | n + 1,i,d,hn,hb,hd=>by
  have hsz:=hd.1
  unfold insOuter
  rw [if_pos (by omega)]
  obtain⟨q1,q2,q3⟩:=Ld hc (a:=a) (i1:=i) i d (by omega) hd
  rw [En (s':=(((i + 1:Nat):Int),(insInner lt a i d).toList)) ?_]
  ·exact Lb hc n (i + 1) _ (by omega) (by rw [q2]; exact hb) q1
  ·show Ap.l1 (a:Int) (b:Int) cmp (i:Int) d.toList=_
   unfold Ap.l1
   rw [aAg (by omega),aEw,q3,Ia (by omega)]
theorem Pi (hc:Be cmp lt P) {a b:Nat} {d:Array Aa} (hab:a<=b) (hb:b<=d.size) (hd:Ax P d):Ap d.toList (a:Int) (b:Int) cmp=some (insertionSort lt d a b).toList:=by
 have hsz:=hd.1
 unfold Ap insertionSort
 rw [Ia (by omega)]
 exact Lb hc _ (a + 1) d rfl hb hd
theorem Q6 (hc:Be cmp lt P) {first root c:Nat} {d:Array Aa} (h1:first + root < d.size) (h2:first + c < d.size) (hd:Ax P d) :
  Ao.j3 (first:Int) cmp (root:Int) d.toList (c:Int)=some (bif lt d[first + root]! d[first + c]! then .next ((c:Int),(Sort.swp d (first + root) (first + c)).toList) else .done d.toList):=by
 have hsz:=hd.1
 have w1:W ((first:Int) + (root:Int))=((first + root:Nat):Int):=by rw [Db (by omega)]; omega
 have w2:W ((first:Int) + (c:Int))=((first + c:Nat):Int):=by rw [Db (by omega)]; omega
 obtain⟨n,n1,n2⟩:=F9 hc hd h1 h2
 unfold Ao.j3
 rw [w1,w2,Cj h1 rfl,aAc,Cj h2 rfl,aAc,n1,aAc,n2]
 cases lt d[first + root]! d[first + c]! with
 | false=>rfl
 | true=>
  obtain⟨y,hy⟩:=G1 (d:=d) (x:=d[first + c]!) (j:=(((first + root:Nat):Int)).toNat) h2 rfl
  rw [show (!true)=false from rfl,aD6,hy,aAc,aEw]
  have e1:(((first + root:Nat):Int)).toNat=first + root:=by omega
  have e2:(((first + c:Nat):Int)).toNat=first + c:=by omega
  rw [e1,e2,Gx]
theorem Nu (hc:Be cmp lt P) {hi first:Nat}:∀ (n root:Nat) (d:Array Aa),hi - root<=n->root<=1000000000->first + hi<=d.size->Ax P d->
  Ax P (siftDown lt hi first root d)/\(siftDown lt hi first root d).size=d.size/\B1 (fun q'=>Ao.l1 (hi:Int) (first:Int) cmp q'.1 q'.2) ((root:Int),d.toList)=some (siftDown lt hi first root d).toList:=by
 intro n
 induction n with
 | zero=>
  intro root d hn hr hh hd
  have hsz:=hd.1
  unfold siftDown
  rw [dif_pos (by omega)]
  refine⟨hd,rfl,D8 (x:=some d.toList) ?_⟩
  show Ao.l1 (hi:Int) (first:Int) cmp (root:Int) d.toList=_
  unfold Ao.l1
  rw [Db (x:=2 * (root:Int)) (by omega),Db (by omega),aAg (by omega)]
  rfl
 | succ n ih=>
  intro root d hn hr hh hd
  have hsz:=hd.1
  have w0:W (2 * (root:Int))=((2 * root:Nat):Int):=by rw [Db (by omega)]; omega
  have w1:W (((2 * root:Nat):Int) + 1)=((2 * root + 1:Nat):Int):=by rw [Db (by omega)]; omega
  have w2:W (((2 * root + 1:Nat):Int) + 1)=((2 * root + 2:Nat):Int):=by rw [Db (by omega)]; omega
  by_cases hend:2 * root + 1>=hi
  ·unfold siftDown
   rw [dif_pos hend]
   refine⟨hd,rfl,D8 (x:=some d.toList) ?_⟩
   show Ao.l1 (hi:Int) (first:Int) cmp (root:Int) d.toList=_
   unfold Ao.l1
   rw [w0,w1,aAg (by omega)]
   rfl
  ·have step:∀ c:Nat,c < hi->root < c->∀ (b:Bool) (r:Array Aa),(lt d[first + root]! d[first + c]! = b)->r=(bif b then siftDown lt hi first c (Sort.swp d (first + root) (first + c)) else d)->
     (Ao.l1 (hi:Int) (first:Int) cmp (root:Int) d.toList=Ao.j3 (first:Int) cmp (root:Int) d.toList (c:Int))->
     Ax P r/\r.size=d.size/\B1 (fun q'=>Ao.l1 (hi:Int) (first:Int) cmp q'.1 q'.2) ((root:Int),d.toList)=some r.toList:=fun c hc1 hc2 b r hb hrr hl=>by
    have hj:=Q6 hc (first:=first) (root:=root) (c:=c) (d:=d) (by omega) (by omega) hd
    rw [hb] at hj
    cases b with
    | false=>
     rw [aD6] at hrr
     rw [hrr]
     refine⟨hd,rfl,bI ?_⟩
     exact (by rw [hl,hj]; rfl:Ao.l1 (hi:Int) (first:Int) cmp (root:Int) d.toList=some (.done d.toList))
    | true=>
     rw [aEw] at hrr
     rw [hrr]
     obtain⟨q1,q2,q3⟩:=ih c (Sort.swp d (first + root) (first + c)) (by omega) (by omega) (by rw [Bv]; exact hh) (hd.swp (by omega) (by omega))
     refine⟨q1,by rw [q2,Bv],?_⟩
     have hb':Ao.l1 (hi:Int) (first:Int) cmp (root:Int) d.toList=some (.next ((c:Int),(Sort.swp d (first + root) (first + c)).toList)):=by rw [hl,hj]; rfl
     exact (En (body:=fun q'=>Ao.l1 (hi:Int) (first:Int) cmp q'.1 q'.2) (s:=((root:Int),d.toList)) hb').trans q3
   unfold siftDown
   rw [dif_neg hend]
   have hl:∀ b:Bool,(decide (2 * root + 1 + 1 < hi) && lt d[first + (2 * root + 1)]! d[first + (2 * root + 1) + 1]!)=b->Ao.l1 (hi:Int) (first:Int) cmp (root:Int) d.toList=Ao.j3 (first:Int) cmp (root:Int) d.toList (bif b then ((2 * root + 2:Nat):Int) else ((2 * root + 1:Nat):Int)):=fun b hb=>by
    unfold Ao.l1
    rw [w0,w1,w2,aAk (by omega),aD6]
    by_cases h2:2 * root + 2 < hi
    ·have a2:first + (2 * root + 1) + 1 < d.size:=by clear w0 w1 w2; omega
     have a1:first + (2 * root + 1) < d.size:=by clear w0 w1 w2; omega
     have a3:decide (2 * root + 1 + 1 < hi)=true:=aAg h2
     have a4:decide (((2 * root + 2:Nat):Int) < (hi:Int))=true:=aAg (by clear w0 w1 w2; omega)
     have v1:W ((first:Int) + ((2 * root + 1:Nat):Int))=((first + (2 * root + 1):Nat):Int):=by rw [Db (by omega)]; omega
     have v2:W (((first + (2 * root + 1):Nat):Int) + 1)=((first + (2 * root + 1) + 1:Nat):Int):=by rw [Db (by omega)]; omega
     obtain⟨m,m1,m2⟩:=F9 hc hd (i:=first + (2 * root + 1)) (j:=first + (2 * root + 1) + 1) a1 a2
     rw [a4,aEw,v1,v2,Cj (i:=first + (2 * root + 1)) a1 rfl,aAc,Cj (i:=first + (2 * root + 1) + 1) a2 rfl,aAc,m1,aAc,m2]
     rw [a3,aMv] at hb
     rw [hb]
     unfold Ao.j2
     rw [w0,w1,w2]
     cases b with
     | true=>rw [aEw,aEw]
     | false=>rw [aD6,aD6]
    ·rw [aAk (by omega),aD6]
     rw [aAk (by omega),aLj] at hb
     subst hb
     unfold Ao.j2
     rw [w0,w1,aD6,aD6]
   cases hb:(decide (2 * root + 1 + 1 < hi) && lt d[first + (2 * root + 1)]! d[first + (2 * root + 1) + 1]!) with
   | true=>
    rw [if_pos rfl]
    have h2:2 * root + 2 < hi:=by
     rw [aEs] at hb
     have:=aCe hb.1
     omega
    refine step (2 * root + 2) h2 (by omega) _ _ rfl ?_ (hl true hb)
    cases lt d[first + root]! d[first + (2 * root + 2)]! with
    | false=>rfl
    | true=>rw [show (!true)=false from rfl,if_neg (by simp),dif_pos h2]; rfl
   | false=>
    rw [if_neg (by simp)]
    refine step (2 * root + 1) (by omega) (by omega) _ _ rfl ?_ (hl false hb)
    cases lt d[first + root]! d[first + (2 * root + 1)]! with
    | false=>rfl
    | true=>rfl
theorem Kx (hc:Be cmp lt P) {a b:Nat}:∀ (k:Nat) (d:Array Aa),a + (b - a)<=d.size->a<=b->k<=1000000000->Ax P d->
  Ax P (heapBuild lt (b - a) a k d)/\(heapBuild lt (b - a) a k d).size=d.size/\B1 (fun q'=>A1.l1 (a:Int) (b:Int) cmp q'.1 q'.2) ((k:Int) - 1,d.toList)=B1 (fun q'=>A1.l1 (a:Int) (b:Int) cmp q'.1 q'.2) (-1,(heapBuild lt (b - a) a k d).toList)
 | 0,d,h1,hab,hk,hd=>⟨hd,rfl,rfl⟩
 | k + 1,d,h1,hab,hk,hd=>by
  have hsz:=hd.1
  obtain⟨q1,q2,q3⟩:=Nu hc (hi:=b - a) (first:=a) _ k d (aHy _) (by omega) h1 hd
  obtain⟨r1,r2,r3⟩:=Kx hc (a:=a) (b:=b) k (siftDown lt (b - a) a k d) (by rw [q2]; exact h1) hab (by omega) q1
  refine⟨r1,by show (heapBuild lt (b - a) a k _).size=_; rw [r2,q2],?_⟩
  rw [En (s':=((k:Int) - 1,(siftDown lt (b - a) a k d).toList)) ?_]
  ·exact r3
  ·show A1.l1 (a:Int) (b:Int) cmp (((k + 1:Nat):Int) - 1) d.toList=_
   have e0:((k + 1:Nat):Int) - 1=(k:Int):=by omega
   have e1:W ((b:Int) - (a:Int))=((b - a:Nat):Int):=by rw [Db (by omega)]; omega
   unfold A1.l1
   rw [e0,aAg (by omega),aEw,e1]
   have e2:Ao d.toList (k:Int) ((b - a:Nat):Int) (a:Int) cmp=some (siftDown lt (b - a) a k d).toList:=q3
   rw [e2,aAc,Db (by omega)]
theorem Ll (hc:Be cmp lt P) {a:Nat}:∀ (k:Nat) (d:Array Aa),a + k<=d.size->Ax P d->
  B1 (fun q'=>A1.l2 (a:Int) cmp q'.1 q'.2) ((k:Int) - 1,d.toList)=some (heapPop lt a k d).toList
 | 0,d,h1,hd=>D8 (x:=some d.toList) (by
   show A1.l2 (a:Int) cmp (((0:Nat):Int) - 1) d.toList=_
   unfold A1.l2
   rw [aAk (by omega)]
   rfl)
 | k + 1,d,h1,hd=>by
  have hsz:=hd.1
  obtain⟨q1,q2,q3⟩:=Nu hc (hi:=k) (first:=a) k 0 (Sort.swp d a (a + k)) (by omega) (by omega) (by rw [Bv]; omega) (hd.swp (by omega) (by omega))
  rw [En (s':=((k:Int) - 1,(siftDown lt k a 0 (Sort.swp d a (a + k))).toList)) ?_]
  ·exact Ll hc k _ (by rw [q2,Bv]; omega) q1
  ·show A1.l2 (a:Int) cmp (((k + 1:Nat):Int) - 1) d.toList=_
   have e0:((k + 1:Nat):Int) - 1=(k:Int):=by omega
   have e1:W ((a:Int) + (k:Int))=((a + k:Nat):Int):=by rw [Db (by omega)]; omega
   obtain⟨y,hy⟩:=G1 (d:=d) (x:=d[a + k]!) (j:=((a:Int)).toNat) (i:=a + k) (by omega) rfl
   unfold A1.l2
   rw [e0,aAg (by omega),aEw,e1,Cj (i:=a + k) (by omega) rfl,aAc,Cj (i:=a) (by omega) rfl,aAc,hy,aAc]
   have e2:((a:Int)).toNat=a:=by omega
   have e3:(((a + k:Nat):Int)).toNat=a + k:=by omega
   rw [e2,e3,Gx]
   have e4:Ao (Sort.swp d a (a + k)).toList 0 (k:Int) (a:Int) cmp=some (siftDown lt k a 0 (Sort.swp d a (a + k))).toList:=q3
   rw [e4,aAc,Db (by omega)]
theorem Tc (hc:Be cmp lt P) {a b:Nat} {d:Array Aa} (hab:a < b) (hb:b<=d.size) (hd:Ax P d):A1 d.toList (a:Int) (b:Int) cmp=some (heapSort lt d a b).toList:=by
 have hsz:=hd.1
 have e1:W ((b:Int) - (a:Int))=((b - a:Nat):Int):=by rw [Db (by omega)]; omega
 have e2:W (((b - a:Nat):Int) - 1)=((b - a - 1:Nat):Int):=by rw [Db (by omega)]; omega
 obtain⟨r1,r2,r3⟩:=Kx hc (a:=a) (b:=b) ((b - a - 1) / 2 + 1) d (by omega) (by omega) (by omega) hd
 unfold A1 heapSort
 rw [e1,e2]
 have eq:Ml ((b - a - 1:Nat):Int) 2=some (((b - a - 1) / 2:Nat):Int):=by
  unfold Ml
  rw [if_neg (by omega),Db]
  ·congr 1
  ·have:((b - a - 1:Nat):Int).tdiv 2=(((b - a - 1) / 2:Nat):Int):=rfl
   rw [this]
   omega
 rw [eq,aAc]
 have e0:(((b - a - 1) / 2:Nat):Int)=(((b - a - 1) / 2 + 1:Nat):Int) - 1:=by omega
 rw [e0,r3]
 refine D8 (x:=some (heapPop lt a (b - a) (heapBuild lt (b - a) a ((b - a - 1) / 2 + 1) d)).toList) ?_
 show A1.l1 (a:Int) (b:Int) cmp (-1) _=_
 unfold A1.l1
 rw [aAk (by omega),aD6,e1]
 have e3:W (((b - a:Nat):Int) - 1)=((b - a:Nat):Int) - 1:=Db (by omega)
 rw [e3,Ll hc (b - a) _ (by rw [r2]; omega) r1]
end
end
section
open Go Go.Sort
section
variable {cmp:Aa->Aa->Option Int} {lt:Aa->Aa->Bool} {P:Aa->Prop}
theorem Fb {d:Array Aa} {i j:Nat} (hi:i < d.size) (hj:j < d.size) {ki kj:Int} (eki:ki=(i:Int)) (ekj:kj=(j:Int)) {γ:Type} (F:List Aa->Option γ) :
  ((Bo d.toList kj).bind fun e=>(Bo d.toList ki).bind fun e2=>(Bo (Dj d.toList ki.toNat e) kj).bind fun _=>F (Dj (Dj d.toList ki.toNat e) kj.toNat e2))=F (Sort.swp d i j).toList:=by
 subst eki ekj
 obtain⟨y,hy⟩:=G1 (d:=d) (x:=d[j]!) (j:=((i:Int)).toNat) (i:=j) hj rfl
 rw [Cj hj rfl,aAc,Cj hi rfl,aAc,hy,aAc,aIm,aIm,Gx]
theorem Gj (hc:Be cmp lt P) {d:Array Aa} (h:Ax P d) {i j:Nat} (hi:i < d.size) (hj:j < d.size) {ki kj:Int} (eki:ki=(i:Int)) (ekj:kj=(j:Int)) {γ:Type} (F:Bool->Option γ) :
  ((Bo d.toList ki).bind fun e=>(Bo d.toList kj).bind fun e2=>(cmp e e2).bind fun y=>F (decide (y < 0)))=F (lt d[i]! d[j]!):=by
 subst eki ekj
 obtain⟨n,h1,h2⟩:=F9 hc h hi hj
 rw [Cj hi rfl,aAc,Cj hj rfl,aAc,h1,aAc,h2]
theorem Qz (hc:Be cmp lt P) {L0:List Aa} {e e2:Aa} {D:Array Aa} {a b pivot:Nat} (hD:Dj (Dj L0 ((a:Int)).toNat e) ((pivot:Int)).toNat e2=D.toList) (hA:Ax P D) (ha:a < b) (hb:b<=D.size) :
  B1 (fun q'=>Af.l1 L0 (a:Int) (b:Int) (pivot:Int) cmp e e2 q') (W ((a:Int) + 1))=B1 (fun q'=>Af.l3 L0 (a:Int) (pivot:Int) cmp e e2 ((scanUp (fun x=>lt x D[a]!) D (b - 1) (a + 1):Nat):Int) q') (((b - 1:Nat):Int)):=by
 have hsz:=hA.1
 rw [Wp (by omega)]
 refine lH (p:=fun x=>lt x D[a]!) (D:=D) (i0:=a + 1) (j:=b - 1) (J:=fun i x=>Af.j2 L0 (a:Int) (b:Int) (pivot:Int) cmp e e2 (i:Int) x) (K:=fun i=>B1 (fun q'=>Af.l3 L0 (a:Int) (pivot:Int) cmp e e2 (i:Int) q') (((b - 1:Nat):Int))) (by omega) (fun i h1 h2=>?_) (fun i=>rfl) (fun i _ _=>?_) _ (a + 1) rfl (aHy _) (by omega)
 ·unfold Af.l1
  rw [hD,Wm (by omega) (by omega)]
  by_cases h:i<=b - 1
  ·rw [aAg (by omega),aEw,aAg h,aMv]
   exact Gj hc hA (i:=i) (j:=a) (by omega) (by omega) rfl rfl (F:=fun x=>Af.j2 L0 (a:Int) (b:Int) (pivot:Int) cmp e e2 (i:Int) x)
  ·rw [aAk (by omega),aD6,aAk h,aLj]
 ·unfold Af.j2
  rw [Wm (by omega) (by omega)]
  rfl
theorem Q7 (hc:Be cmp lt P) {L0:List Aa} {e e2:Aa} {D:Array Aa} {a b i pivot:Nat} (hD:Dj (Dj L0 ((a:Int)).toNat e) ((pivot:Int)).toNat e2=D.toList) (hA:Ax P D) (ha:a < i) (hi:i<=b) (hb:b<=D.size) :
  B1 (fun q'=>Af.l3 L0 (a:Int) (pivot:Int) cmp e e2 (i:Int) q') (((b - 1:Nat):Int))=(fun j=>if j < i then some ((j:Int),true,(Sort.swp D j a).toList) else
   B1 (fun q'=>Af.l5 (a:Int) cmp q'.1 q'.2.1 q'.2.2) (((i + 1:Nat):Int),((j - 1:Nat):Int),(Sort.swp D i j).toList)) (scanDown (fun x=>!lt x D[a]!) D i (b - 1)):=by
 have hsz:=hA.1
 refine eR (p:=fun x=>!lt x D[a]!) (D:=D) (i:=i) (j0:=b - 1) (J:=fun j x=>Af.j4 L0 (a:Int) (pivot:Int) cmp e e2 (i:Int) (j:Int) x) (K:=fun j:Nat=>if j < i then some ((j:Int),true,(Sort.swp D j a).toList) else
   B1 (fun q'=>Af.l5 (a:Int) cmp q'.1 q'.2.1 q'.2.2) (((i + 1:Nat):Int),((j - 1:Nat):Int),(Sort.swp D i j).toList)) (by omega) (by omega) (fun j h1 h2=>?_) (fun i=>rfl) (fun j h1 h2=>?_) (b - 1) (by omega) (aHy _)
 ·unfold Af.l3
  rw [hD]
  by_cases h:i<=j
  ·rw [aAg (by omega),aEw,aAg h,aMv]
   exact Gj hc hA (i:=j) (j:=a) (by omega) (by omega) rfl rfl (F:=fun x=>Af.j4 L0 (a:Int) (pivot:Int) cmp e e2 (i:Int) (j:Int) (!x))
  ·rw [aAk (by omega),aD6,aAk h,aLj]
 ·unfold Af.j4
  rw [hD,aD6]
  congr 1
  by_cases h:j < i
  ·rw [aAg (by omega),aEw,if_pos h]
   exact Fb (i:=j) (j:=a) (by omega) (by omega) rfl rfl (fun l=>some ((j:Int),true,l))
  ·rw [aAk (by omega),aD6,if_neg h,Wp (by omega),Wm (by omega) (by omega)]
   exact Fb (i:=i) (j:=j) (by omega) (by omega) rfl rfl (fun l=>B1 (fun q'=>Af.l5 (a:Int) cmp q'.1 q'.2.1 q'.2.2) (((i + 1:Nat):Int),((j - 1:Nat):Int),l))
theorem Lj (hc:Be cmp lt P) {D:Array Aa} {a i j:Nat} (hA:Ax P D) (ha:a < i) (hi:i<=j + 1) (hj:j < D.size) :
  Af.l5 (a:Int) cmp (i:Int) (j:Int) D.toList=(fun i' j':Nat=>if j' < i' then up (some ((j':Int),false,(Sort.swp D j' a).toList)) else some (.next (((i' + 1:Nat):Int),((j' - 1:Nat):Int),(Sort.swp D i' j').toList))) (scanUp (fun x=>lt x D[a]!) D j i) (scanDown (fun x=>!lt x D[a]!) D (scanUp (fun x=>lt x D[a]!) D j i) j):=by
 have hsz:=hA.1
 have hu:=scanUp_spec (fun x=>lt x D[a]!) D j _ i rfl
 unfold Af.l5
 refine (lH (p:=fun x=>lt x D[a]!) (D:=D) (i0:=i) (j:=j) (J:=fun i x=>Af.j7 (a:Int) cmp (j:Int) D.toList (i:Int) x) (K:=fun i=>B1 (fun q'=>Af.l8 (a:Int) cmp D.toList (i:Int) q') (j:Int)) (by omega) (fun i' h1 h2=>?_) (fun i=>rfl) (fun i' h1 h2=>rfl) _ i rfl (aHy _) (by omega)).trans ?_
 ·unfold Af.l6
  by_cases h:i'<=j
  ·rw [aAg (by omega),aEw,aAg h,aMv]
   exact Gj hc hA (i:=i') (j:=a) (by omega) (by omega) rfl rfl (F:=fun x=>Af.j7 (a:Int) cmp (j:Int) D.toList (i':Int) x)
  ·rw [aAk (by omega),aD6,aAk h,aLj]
 ·generalize scanUp (fun x=>lt x D[a]!) D j i=i2 at hu ⊢
  have h1:=hu.1
  have h2:=hu.2.1 hi
  refine eR (p:=fun x=>!lt x D[a]!) (D:=D) (i:=i2) (j0:=j) (J:=fun j x=>Af.j9 (a:Int) D.toList (i2:Int) (j:Int) x) (K:=fun j':Nat=>if j' < i2 then up (some ((j':Int),false,(Sort.swp D j' a).toList)) else some (.next (((i2 + 1:Nat):Int),((j' - 1:Nat):Int),(Sort.swp D i2 j').toList))) (by omega) (by omega) (fun j' h3 h4=>?_) (fun j'=>rfl) (fun j' h3 h4=>?_) j (by omega) (aHy _)
  ·unfold Af.l8
   by_cases h:i2<=j'
   ·rw [aAg (by omega),aEw,aAg h,aMv]
    exact Gj hc hA (i:=j') (j:=a) (by omega) (by omega) rfl rfl (F:=fun x=>Af.j9 (a:Int) D.toList (i2:Int) (j':Int) (!x))
   ·rw [aAk (by omega),aD6,aAk h,aLj]
  ·unfold Af.j9
   rw [aD6]
   congr 1
   by_cases h:j' < i2
   ·rw [aAg (by omega),aEw,if_pos h]
    congr 1
    exact Fb (i:=j') (j:=a) (by omega) (by omega) rfl rfl (fun l=>some ((j':Int),false,l))
   ·rw [aAk (by omega),aD6,if_neg h,Wp (by omega),Wm (by omega) (by omega)]
    exact Fb (i:=i2) (j:=j') (by omega) (by omega) rfl rfl (fun l=>some (Lp.next (((i2 + 1:Nat):Int),((j' - 1:Nat):Int),l)))
theorem P2 (hc:Be cmp lt P) {a:Nat}:∀ (n i j:Nat) (D:Array Aa),j + 1 - i<=n->a < i->i<=j + 1->j < D.size->Ax P D->
  Ax P (partLoop lt a i j D).2/\(partLoop lt a i j D).2.size=D.size/\(partLoop lt a i j D).1 < D.size/\
  B1 (fun q'=>Af.l5 (a:Int) cmp q'.1 q'.2.1 q'.2.2) ((i:Int),(j:Int),D.toList)=some (((partLoop lt a i j D).1:Int),false,(Sort.swp (partLoop lt a i j D).2 (partLoop lt a i j D).1 a).toList):=by
 intro n
 induction n with
 | zero=>
  intro i j D hn ha hi hj hA
  have hr:=Lj hc hA ha hi hj
  have hu:=scanUp_spec (fun x=>lt x D[a]!) D j _ i rfl
  rw [partLoop_eq]
  generalize scanUp (fun x=>lt x D[a]!) D j i=i2 at hu hr ⊢
  have hd:=scanDown_spec (fun x=>!lt x D[a]!) D i2 j
  generalize scanDown (fun x=>!lt x D[a]!) D i2 j=j2 at hd hr ⊢
  have h1:=hu.1
  have h2:=hd.1
  rw [if_pos (show i2 > j2 by omega)]
  refine⟨hA,rfl,show j2 < D.size by omega,D8 (hr.trans ?_)⟩
  exact if_pos (show j2 < i2 by omega)
 | succ n ih=>
  intro i j D hn ha hi hj hA
  have hr:=Lj hc hA ha hi hj
  have hu:=scanUp_spec (fun x=>lt x D[a]!) D j _ i rfl
  rw [partLoop_eq]
  generalize scanUp (fun x=>lt x D[a]!) D j i=i2 at hu hr ⊢
  have hd:=scanDown_spec (fun x=>!lt x D[a]!) D i2 j
  generalize scanDown (fun x=>!lt x D[a]!) D i2 j=j2 at hd hr ⊢
  have h1:=hu.1
  have h2:=hd.1
  by_cases h:i2 > j2
  ·rw [if_pos h]
   refine⟨hA,rfl,show j2 < D.size by omega,D8 (hr.trans ?_)⟩
   exact if_pos (show j2 < i2 by omega)
  ·rw [if_neg h]
   have hne:i2≠j2:=fun e=>by
    have u4:=hu.2.2.2 (by omega)
    have d4:=hd.2.2.2 (by omega) (by omega)
    rw [e] at u4
    rw [u4] at d4
    cases d4
   obtain⟨q1,q2,q3,q4⟩:=ih (i2 + 1) (j2 - 1) (Sort.swp D i2 j2) (by omega) (by omega) (by omega) (by rw [Bv]; omega) (hA.swp (by omega) (by omega))
   rw [Bv] at q2 q3
   refine⟨q1,q2,q3,(En (hr.trans (if_neg (show ¬ j2 < i2 by omega)))).trans q4⟩
theorem Tn (hc:Be cmp lt P) {a b pivot:Nat} {d:Array Aa} (hab:a < b) (hp1:a<=pivot) (hp2:pivot < b) (hb:b<=d.size) (hd:Ax P d) :
  Af d.toList (a:Int) (b:Int) (pivot:Int) cmp=some (((partition lt d a b pivot).1:Int),(partition lt d a b pivot).2.1,(partition lt d a b pivot).2.2.toList):=by
 have hsz:=hd.1
 have hA:Ax P (Sort.swp d a pivot):=hd.swp (by omega) (by omega)
 have hs:=Bv d a pivot
 have hD:Dj (Dj d.toList ((a:Int)).toNat d[pivot]!) ((pivot:Int)).toNat d[a]! = (Sort.swp d a pivot).toList:=by
  rw [aIm,aIm,Gx]
 obtain⟨y,hy⟩:=G1 (d:=d) (x:=d[pivot]!) (j:=((a:Int)).toNat) (i:=pivot) (by omega) rfl
 unfold Af partition
 rw [Cj (i:=pivot) (by omega) rfl,aAc,Cj (i:=a) (by omega) rfl,aAc,hy,aAc,Qz hc hD hA hab (by omega)]
 simp only []
 generalize Sort.swp d a pivot=D at hA hs hD ⊢
 have hu:=scanUp_spec (fun x=>lt x D[a]!) D (b - 1) _ (a + 1) rfl
 generalize scanUp (fun x=>lt x D[a]!) D (b - 1) (a + 1)=i2 at hu ⊢
 have h1:=hu.1
 have h2:=hu.2.1 (by omega)
 rw [Q7 hc hD hA (b:=b) (i:=i2) (by omega) (by omega) (by omega)]
 have hdn:=scanDown_spec (fun x=>!lt x D[a]!) D i2 (b - 1)
 generalize scanDown (fun x=>!lt x D[a]!) D i2 (b - 1)=j2 at hdn ⊢
 have h3:=hdn.1
 by_cases h:i2 > j2
 ·rw [if_pos h]
  exact if_pos (show j2 < i2 by omega)
 ·rw [if_neg h]
  have hne:i2≠j2:=fun e=>by
   have u4:=hu.2.2.2 (by omega)
   have d4:=hdn.2.2.2 (by omega) (by omega)
   rw [e] at u4
   rw [u4] at d4
   cases d4
  refine (if_neg (show ¬ j2 < i2 by omega)).trans ?_
  exact (P2 hc _ (i2 + 1) (j2 - 1) (Sort.swp D i2 j2) (aHy _) (by omega) (by omega) (by rw [Bv]; omega) (hA.swp (by omega) (by omega))).2.2.2
end
end
section
open Go Go.Sort
section
variable {cmp:Aa->Aa->Option Int} {lt:Aa->Aa->Bool} {P:Aa->Prop}
theorem L4 (hc:Be cmp lt P) {D:Array Aa} {a i j:Nat} (hA:Ax P D) (ha:a < i) (hi:i<=j + 1) (hj:j < D.size) :
  Am.l1 (a:Int) cmp (i:Int) (j:Int) D.toList=(fun i' j':Nat=>if j' < i' then up (some ((i':Int),D.toList)) else some (.next (((i' + 1:Nat):Int),((j' - 1:Nat):Int),(Sort.swp D i' j').toList))) (scanUp (fun x=>!lt D[a]! x) D j i) (scanDown (fun x=>lt D[a]! x) D (scanUp (fun x=>!lt D[a]! x) D j i) j):=by
 have hsz:=hA.1
 have hu:=scanUp_spec (fun x=>!lt D[a]! x) D j _ i rfl
 unfold Am.l1
 refine (lH (p:=fun x=>!lt D[a]! x) (D:=D) (i0:=i) (j:=j) (J:=fun i x=>Am.j3 (a:Int) cmp (j:Int) D.toList (i:Int) x) (K:=fun i=>B1 (fun q'=>Am.l4 (a:Int) cmp D.toList (i:Int) q') (j:Int)) (by omega) (fun i' h1 h2=>?_) (fun i=>rfl) (fun i' h1 h2=>rfl) _ i rfl (aHy _) (by omega)).trans ?_
 ·unfold Am.l2
  by_cases h:i'<=j
  ·rw [aAg (by omega),aEw,aAg h,aMv]
   exact Gj hc hA (i:=a) (j:=i') (by omega) (by omega) rfl rfl (F:=fun x=>Am.j3 (a:Int) cmp (j:Int) D.toList (i':Int) (!x))
  ·rw [aAk (by omega),aD6,aAk h,aLj]
 ·generalize scanUp (fun x=>!lt D[a]! x) D j i=i2 at hu ⊢
  have h1:=hu.1
  have h2:=hu.2.1 hi
  refine eR (p:=fun x=>lt D[a]! x) (D:=D) (i:=i2) (j0:=j) (J:=fun j x=>Am.j5 D.toList (i2:Int) (j:Int) x) (K:=fun j':Nat=>if j' < i2 then up (some ((i2:Int),D.toList)) else some (.next (((i2 + 1:Nat):Int),((j' - 1:Nat):Int),(Sort.swp D i2 j').toList))) (by omega) (by omega) (fun j' h3 h4=>?_) (fun j'=>rfl) (fun j' h3 h4=>?_) j (by omega) (aHy _)
  ·unfold Am.l4
   by_cases h:i2<=j'
   ·rw [aAg (by omega),aEw,aAg h,aMv]
    exact Gj hc hA (i:=a) (j:=j') (by omega) (by omega) rfl rfl (F:=fun x=>Am.j5 D.toList (i2:Int) (j':Int) x)
   ·rw [aAk (by omega),aD6,aAk h,aLj]
  ·unfold Am.j5
   rw [aD6]
   congr 1
   by_cases h:j' < i2
   ·rw [aAg (by omega),aEw,if_pos h]
   ·rw [aAk (by omega),aD6,if_neg h,Wp (by omega),Wm (by omega) (by omega)]
    exact Fb (i:=i2) (j:=j') (by omega) (by omega) rfl rfl (fun l=>some (Lp.next (((i2 + 1:Nat):Int),((j' - 1:Nat):Int),l)))
theorem Qd (hc:Be cmp lt P) {a:Nat}:∀ (n i j:Nat) (D:Array Aa),j + 1 - i<=n->a < i->i<=j + 1->j < D.size->Ax P D->
  B1 (fun q'=>Am.l1 (a:Int) cmp q'.1 q'.2.1 q'.2.2) ((i:Int),(j:Int),D.toList)=some (((partEqLoop lt a i j D).1:Int),(partEqLoop lt a i j D).2.toList):=by
 intro n
 induction n with
 | zero=>
  intro i j D hn ha hi hj hA
  have hr:=L4 hc hA ha hi hj
  have hu:=scanUp_spec (fun x=>!lt D[a]! x) D j _ i rfl
  rw [partEqLoop_eq]
  generalize scanUp (fun x=>!lt D[a]! x) D j i=i2 at hu hr ⊢
  have hd:=scanDown_spec (fun x=>lt D[a]! x) D i2 j
  generalize scanDown (fun x=>lt D[a]! x) D i2 j=j2 at hd hr ⊢
  have h1:=hu.1
  have h2:=hd.1
  rw [if_pos (show i2 > j2 by omega)]
  refine D8 (hr.trans ?_)
  exact if_pos (show j2 < i2 by omega)
 | succ n ih=>
  intro i j D hn ha hi hj hA
  have hr:=L4 hc hA ha hi hj
  have hu:=scanUp_spec (fun x=>!lt D[a]! x) D j _ i rfl
  rw [partEqLoop_eq]
  generalize scanUp (fun x=>!lt D[a]! x) D j i=i2 at hu hr ⊢
  have hd:=scanDown_spec (fun x=>lt D[a]! x) D i2 j
  generalize scanDown (fun x=>lt D[a]! x) D i2 j=j2 at hd hr ⊢
  have h1:=hu.1
  have h2:=hd.1
  by_cases h:i2 > j2
  ·rw [if_pos h]
   refine D8 (hr.trans ?_)
   exact if_pos (show j2 < i2 by omega)
  ·rw [if_neg h]
   have hne:i2≠j2:=fun e=>by
    have u4:=hu.2.2.2 (by omega)
    have d4:=hd.2.2.2 (by omega) (by omega)
    rw [e] at u4
    rw [d4] at u4
    cases u4
   exact (En (hr.trans (if_neg (show ¬ j2 < i2 by omega)))).trans (ih (i2 + 1) (j2 - 1) (Sort.swp D i2 j2) (by omega) (by omega) (by omega) (by rw [Bv]; omega) (hA.swp (by omega) (by omega)))
theorem Ux (hc:Be cmp lt P) {a b pivot:Nat} {d:Array Aa} (hab:a < b) (hp1:a<=pivot) (hp2:pivot < b) (hb:b<=d.size) (hd:Ax P d) :
  Am d.toList (a:Int) (b:Int) (pivot:Int) cmp=some (((partitionEqual lt d a b pivot).1:Int),(partitionEqual lt d a b pivot).2.toList):=by
 have hsz:=hd.1
 unfold Am partitionEqual
 rw [Wp (by omega),Wm (by omega) (by omega)]
 refine (Fb (i:=a) (j:=pivot) (by omega) (by omega) rfl rfl (fun l=>B1 (fun q'=>Am.l1 (a:Int) cmp q'.1 q'.2.1 q'.2.2) (((a + 1:Nat):Int),((b - 1:Nat):Int),l))).trans ?_
 exact Qd hc _ (a + 1) (b - 1) (Sort.swp d a pivot) (aHy _) (by omega) (by omega) (by rw [Bv]; omega) (hd.swp (by omega) (by omega))
theorem Uc (hc:Be cmp lt P) {b i2:Nat} {j1:Int}:∀ (n j:Nat) (d:Array Aa),b - j=n->1<=j->b<=d.size->Ax P d->
  Ax P (shiftUp lt b j d)/\(shiftUp lt b j d).size=d.size/\B1 (fun q'=>Ad.l6 (b:Int) cmp j1 (i2:Int) q'.1 q'.2) ((j:Int),d.toList)=some (.next ((i2:Int),W (j1 + 1),(shiftUp lt b j d).toList)):=by
 intro n
 induction n with
 | zero=>
  intro j d hn h1 hb hd
  rw [shiftUp,if_neg (by omega)]
  refine⟨hd,rfl,D8 ?_⟩
  show Ad.l6 (b:Int) cmp j1 (i2:Int) (j:Int) d.toList=_
  unfold Ad.l6
  rw [aAk (by omega),aD6]
  rfl
 | succ n ih=>
  intro j d hn h1 hb hd
  have hsz:=hd.1
  rw [shiftUp,if_pos (by omega)]
  obtain⟨m,m1,m2⟩:=F9 hc hd (i:=j) (j:=j - 1) (by omega) (by omega)
  have hbody:Ad.l6 (b:Int) cmp j1 (i2:Int) (j:Int) d.toList=bif lt d[j]! d[j - 1]! then some (.next (((j + 1:Nat):Int),(Sort.swp d j (j - 1)).toList)) else up (some (.next ((i2:Int),W (j1 + 1),d.toList))):=by
   obtain⟨y,hy⟩:=G1 (d:=d) (x:=d[j - 1]!) (j:=((j:Int)).toNat) (i:=j - 1) (by omega) rfl
   unfold Ad.l6
   rw [aAg (by omega),aEw,Wm (by omega) (by omega),Cj (i:=j) (by omega) rfl,aAc,Cj (i:=j - 1) (by omega) rfl,aAc,m1,aAc,m2,hy,aAc,Wp (by omega),aIm,aIm,Gx]
   cases lt d[j]! d[j - 1]! <;> rfl
  cases hl:lt d[j]! d[j - 1]! with
  | false=>
   rw [hl] at hbody
   rw [if_pos (by rfl)]
   exact⟨hd,rfl,D8 hbody⟩
  | true=>
   rw [hl] at hbody
   rw [if_neg (by simp)]
   obtain⟨q1,q2,q3⟩:=ih (j + 1) (Sort.swp d j (j - 1)) (by omega) (by omega) (by rw [Bv]; exact hb) (hd.swp (by omega) (by omega))
   exact⟨q1,by rw [q2,Bv],(En hbody).trans q3⟩
theorem Ug (hc:Be cmp lt P) {b i2:Nat} {j1:Int} {d:Array Aa} (h1:1<=i2) (h2:i2 < b) (hb:b<=d.size) (hd:Ax P d) :
  Ax P (if b - i2>=2 then shiftUp lt b (i2 + 1) d else d)/\(if b - i2>=2 then shiftUp lt b (i2 + 1) d else d).size=d.size/\Ad.j5 (b:Int) cmp j1 (i2:Int) d.toList=some (.next ((i2:Int),W (j1 + 1),(if b - i2>=2 then shiftUp lt b (i2 + 1) d else d).toList)):=by
 have hsz:=hd.1
 unfold Ad.j5
 rw [Wd (by omega) (by omega)]
 by_cases h:b - i2>=2
 ·rw [aAg (by omega),aEw,if_pos h,Wp (by omega)]
  exact Uc hc _ (i2 + 1) d rfl (by omega) hb hd
 ·rw [aAk (by omega),aD6,if_neg h]
  exact⟨hd,rfl,rfl⟩
theorem Oz (hc:Be cmp lt P) {b i2:Nat} {j1:Int}:∀ (j:Nat) (d:Array Aa),j < d.size->Ax P d->
  Ax P (shiftDown lt j d)/\(shiftDown lt j d).size=d.size/\B1 (fun q'=>Ad.l4 (b:Int) cmp j1 (i2:Int) q'.1 q'.2) ((j:Int),d.toList)=Ad.j5 (b:Int) cmp j1 (i2:Int) (shiftDown lt j d).toList
 | 0,d,hj,hd=>by
  refine⟨hd,rfl,D8 ?_⟩
  show Ad.l4 (b:Int) cmp j1 (i2:Int) ((0:Nat):Int) d.toList=_
  unfold Ad.l4
  rw [aAk (by omega),aD6]
  rfl
 | j + 1,d,hj,hd=>by
  have hsz:=hd.1
  unfold shiftDown
  obtain⟨m,m1,m2⟩:=F9 hc hd (i:=j + 1) (j:=j) (by omega) (by omega)
  have hbody:Ad.l4 (b:Int) cmp j1 (i2:Int) ((j + 1:Nat):Int) d.toList=bif lt d[j + 1]! d[j]! then some (.next ((j:Int),(Sort.swp d (j + 1) j).toList)) else up (Ad.j5 (b:Int) cmp j1 (i2:Int) d.toList):=by
   obtain⟨y,hy⟩:=G1 (d:=d) (x:=d[j]!) (j:=(((j + 1:Nat):Int)).toNat) (i:=j) (by omega) rfl
   unfold Ad.l4
   have e:W (((j + 1:Nat):Int) - 1)=(j:Int):=Wm (n:=j + 1) (by omega) (by omega)
   rw [aAg (by omega),aEw,e,Cj (i:=j + 1) (by omega) rfl,aAc,Cj (i:=j) (by omega) rfl,aAc,m1,aAc,m2,hy,aAc,aIm,aIm,Gx]
   cases lt d[j + 1]! d[j]! <;> rfl
  cases hl:lt d[j + 1]! d[j]! with
  | false=>
   rw [hl] at hbody
   rw [if_pos (by rfl)]
   exact⟨hd,rfl,D8 hbody⟩
  | true=>
   rw [hl] at hbody
   rw [if_neg (by simp)]
   obtain⟨q1,q2,q3⟩:=Oz hc j (Sort.swp d (j + 1) j) (by rw [Bv]; omega) (hd.swp (by omega) (by omega))
   exact⟨q1,by rw [q2,Bv],(En hbody).trans q3⟩
theorem N6 (hc:Be cmp lt P) {a b:Nat}:∀ (s i:Nat) (d:Array Aa),s<=5->a < i->i<=b->b<=d.size->Ax P d->
  B1 (fun q'=>Ad.l1 (a:Int) (b:Int) cmp q'.1 q'.2.1 q'.2.2) ((i:Int),((5 - s:Nat):Int),d.toList)=some ((partialIns lt a b s i d).2,(partialIns lt a b s i d).1.toList)
 | 0,i,d,hs,ha,hi,hb,hd=>by
  refine D8 ?_
  show Ad.l1 (a:Int) (b:Int) cmp (i:Int) ((5 - 0:Nat):Int) d.toList=_
  unfold Ad.l1
  rw [aAk (by omega),aD6]
  rfl
 | s + 1,i,d,hs,ha,hi,hb,hd=>by
  have hsz:=hd.1
  have hle:=aR lt d b _ i rfl hi
  have hbody:Ad.l1 (a:Int) (b:Int) cmp (i:Int) ((5 - (s + 1):Nat):Int) d.toList =
    (fun i':Nat=>if i'=b then up (some (true,d.toList)) else if b - a < 50 then up (some (false,d.toList)) else
     bif decide (i' - a>=2) then B1 (fun q'=>Ad.l4 (b:Int) cmp ((5 - (s + 1):Nat):Int) (i':Int) q'.1 q'.2) (((i' - 1:Nat):Int),(Sort.swp d i' (i' - 1)).toList)
     else Ad.j5 (b:Int) cmp ((5 - (s + 1):Nat):Int) (i':Int) (Sort.swp d i' (i' - 1)).toList) (scanSorted lt d b i):=by
   unfold Ad.l1
   rw [aAg (by omega),aEw]
   refine aD9 (lt:=lt) (D:=d) (i0:=i) (b:=b) (J:=fun i x=>Ad.j3 (a:Int) (b:Int) cmp ((5 - (s + 1):Nat):Int) d.toList (i:Int) x) (K:=fun i':Nat=>if i'=b then up (some (true,d.toList)) else if b - a < 50 then up (some (false,d.toList)) else
     bif decide (i' - a>=2) then B1 (fun q'=>Ad.l4 (b:Int) cmp ((5 - (s + 1):Nat):Int) (i':Int) q'.1 q'.2) (((i' - 1:Nat):Int),(Sort.swp d i' (i' - 1)).toList)
     else Ad.j5 (b:Int) cmp ((5 - (s + 1):Nat):Int) (i':Int) (Sort.swp d i' (i' - 1)).toList) (by omega) (fun i' h1 h2=>?_) (fun i'=>rfl) (fun i' h1 h2=>?_) _ i rfl (aHy _) hi
   ·unfold Ad.l2
    by_cases h:i' < b
    ·rw [aAg (by omega),aEw,aAg h,aMv,Wm (by omega) (by omega)]
     exact Gj hc hd (i:=i') (j:=i' - 1) (by omega) (by omega) rfl rfl (F:=fun x=>Ad.j3 (a:Int) (b:Int) cmp ((5 - (s + 1):Nat):Int) d.toList (i':Int) (!x))
    ·rw [aAk (by omega),aD6,aAk h,aLj]
   ·unfold Ad.j3
    rw [aD6]
    congr 1
    by_cases e:i'=b
    ·rw [aAg (by omega),aEw,if_pos e]
    ·rw [aAk (by omega),aD6,if_neg e,Wd (by omega) (by omega)]
     by_cases h50:b - a < 50
     ·rw [aAg (by omega),aEw,if_pos h50]
     ·rw [aAk (by omega),aD6,if_neg h50,Wm (by omega) (by omega),Wd (by omega) (by omega)]
      have e2:decide ((2:Int)<=((i' - a:Nat):Int))=decide (i' - a>=2):=decide_eq_decide.2 (by omega)
      rw [e2]
      exact Fb (i:=i') (j:=i' - 1) (by omega) (by omega) rfl rfl (fun l=>cond (decide (i' - a>=2)) (B1 (fun q'=>Ad.l4 (b:Int) cmp ((5 - (s + 1):Nat):Int) (i':Int) q'.1 q'.2) (((i' - 1:Nat):Int),l)) (Ad.j5 (b:Int) cmp ((5 - (s + 1):Nat):Int) (i':Int) l))
  rw [partialIns_succ]
  generalize scanSorted lt d b i=i2 at hbody hle ⊢
  by_cases e:i2=b
  ·rw [if_pos e]
   exact D8 (hbody.trans (if_pos e))
  ·rw [if_neg e]
   by_cases h50:b - a < 50
   ·rw [if_pos h50]
    exact D8 (hbody.trans ((if_neg e).trans (if_pos h50)))
   ·rw [if_neg h50]
    have hb2:=hbody.trans ((if_neg e).trans (if_neg h50))
    unfold fixDown fixUp
    have hd1:Ax P (Sort.swp d i2 (i2 - 1)):=hd.swp (by omega) (by omega)
    have hz1:=Bv d i2 (i2 - 1)
    generalize Sort.swp d i2 (i2 - 1)=d1 at hb2 hd1 hz1 ⊢
    have e5:W (((5 - (s + 1):Nat):Int) + 1)=((5 - s:Nat):Int):=by
     rw [Wp (by omega)]
     omega
    have main:∀ d2:Array Aa,d2.size=d1.size->Ax P d2->Ad.l1 (a:Int) (b:Int) cmp (i:Int) ((5 - (s + 1):Nat):Int) d.toList=Ad.j5 (b:Int) cmp ((5 - (s + 1):Nat):Int) (i2:Int) d2.toList->
      B1 (fun q'=>Ad.l1 (a:Int) (b:Int) cmp q'.1 q'.2.1 q'.2.2) ((i:Int),((5 - (s + 1):Nat):Int),d.toList)=some ((partialIns lt a b s i2 (if b - i2>=2 then shiftUp lt b (i2 + 1) d2 else d2)).2,(partialIns lt a b s i2 (if b - i2>=2 then shiftUp lt b (i2 + 1) d2 else d2)).1.toList):=fun d2 hz2 hd2 hl=>by
     obtain⟨q1,q2,q3⟩:=Ug hc (b:=b) (i2:=i2) (j1:=((5 - (s + 1):Nat):Int)) (d:=d2) (by omega) (by omega) (by omega) hd2
     rw [e5] at q3
     exact (En (hl.trans q3)).trans (N6 hc s i2 _ (by omega) (by omega) (by omega) (by omega) q1)
    by_cases h2:i2 - a>=2
    ·rw [if_pos h2]
     rw [aAg h2,aEw] at hb2
     obtain⟨q1,q2,q3⟩:=Oz hc (b:=b) (i2:=i2) (j1:=((5 - (s + 1):Nat):Int)) (i2 - 1) d1 (by omega) hd1
     exact main _ q2 q1 (hb2.trans q3)
    ·rw [if_neg h2]
     rw [aAk h2,aD6] at hb2
     exact main _ rfl hd1 hb2
theorem Q4 (hc:Be cmp lt P) {a b:Nat} {d:Array Aa} (hab:a < b) (hb:b<=d.size) (hd:Ax P d) :
  Ad d.toList (a:Int) (b:Int) cmp=some ((partialInsertionSort lt d a b).2,(partialInsertionSort lt d a b).1.toList):=by
 have hsz:=hd.1
 unfold Ad partialInsertionSort
 rw [Wp (by omega)]
 exact N6 hc 5 (a + 1) d (by omega) (by omega) (by omega) hb hd
end
end
section
open Go Go.Sort
section
variable {cmp:Aa->Aa->Option Int} {lt:Aa->Aa->Bool} {P:Aa->Prop}
theorem Ax.perm {d d':Array Aa} {a b:Nat} (h:Ax P d) (hb:b<=d.size) (hp:PermIn a b d d'):Ax P d':=by
 refine⟨by rw [hp.1]; exact h.1,fun i hi=>?_⟩
 rw [hp.1] at hi
 by_cases hr:a<=i/\i < b
 ·exact permIn_all d d' a b P hb hp (fun k _ hk=>h.2 k (by omega)) i hr.1 hr.2
 ·rw [hp.2.1 i (by omega)]
  exact h.2 i hi
theorem Uf:∀ (n i j:Nat) (d:Array Aa),j - i<=n->j < d.size->d.size<=1000000000->
  B1 (fun q'=>Bg.l1 q'.1 q'.2.1 q'.2.2) ((i:Int),(j:Int),d.toList)=some (reverseLoop i j d).toList:=by
 intro n
 induction n with
 | zero=>
  intro i j d hn hj hs
  rw [reverseLoop,if_neg (by omega)]
  refine D8 ?_
  show Bg.l1 (i:Int) (j:Int) d.toList=_
  unfold Bg.l1
  rw [aAk (by omega),aD6]
 | succ n ih=>
  intro i j d hn hj hs
  rw [reverseLoop]
  by_cases h:i < j
  ·rw [if_pos h]
   have hb:Bg.l1 (i:Int) (j:Int) d.toList=some (.next (((i + 1:Nat):Int),((j - 1:Nat):Int),(Sort.swp d i j).toList)):=by
    unfold Bg.l1
    rw [aAg (by omega),aEw,Wp (by omega),Wm (by omega) (by omega)]
    exact Fb (i:=i) (j:=j) (by omega) (by omega) rfl rfl (fun l=>some (Lp.next (((i + 1:Nat):Int),((j - 1:Nat):Int),l)))
   exact (En hb).trans (ih (i + 1) (j - 1) _ (by omega) (by rw [Bv]; omega) (by rw [Bv]; exact hs))
  ·rw [if_neg h]
   refine D8 ?_
   show Bg.l1 (i:Int) (j:Int) d.toList=_
   unfold Bg.l1
   rw [aAk (by omega),aD6]
theorem Qy {a b:Nat} {d:Array Aa} (hab:a < b) (hb:b<=d.size) (hs:d.size<=1000000000):Bg d.toList (a:Int) (b:Int) cmp=some (reverseRange d a b).toList:=by
 unfold Bg reverseRange
 rw [Wm (by omega) (by omega)]
 exact Uf _ a (b - 1) d (aHy _) (by omega) hs
theorem Mt {a idx o:Nat} {d:Array Aa} {z:Int×Int} (hi:idx < d.size) (ho:a + o < d.size) (hs:d.size<=1000000000) :
  Az.j2 (a:Int) (idx:Int) d.toList z (o:Int)=some (.next (((idx + 1:Nat):Int),(Sort.swp d idx (a + o)).toList,z.2)):=by
 unfold Az.j2
 have e:W ((a:Int) + (o:Int))=((a + o:Nat):Int):=by rw [Db (by omega)]; omega
 rw [e,Wp (by omega)]
 exact Fb (i:=idx) (j:=a + o) hi ho rfl rfl (fun l=>some (Lp.next (((idx + 1:Nat):Int),l,z.2)))
theorem Ra {a b y:Nat} (hab:a < b) (h8:8<=b - a) (hy1:b - a < y) (hy2:y<=2 * (b - a)):∀ (k idx:Nat) (d:Array Aa) (r:Int),idx + k=a + (b - a) / 4 * 2 + 2->a<=idx->b<=d.size->d.size < 65536->
  ∃ d',B1 (fun q'=>Az.l1 (a:Int) (b:Int) (y:Int) q'.1 q'.2.1 q'.2.2) ((idx:Int),d.toList,r)=some d'.toList/\PermIn a b d d':=by
 intro k
 induction k with
 | zero=>
  intro idx d r hk hi hb hs
  refine⟨d,D8 ?_,permIn_refl d a b⟩
  show Az.l1 (a:Int) (b:Int) (y:Int) (idx:Int) d.toList r=_
  unfold Az.l1
  rw [Wd (by omega) (by omega),xP (by omega),aAc,Wq2 (by omega) (by omega),Wp (by omega),aAk (by omega),aD6]
 | succ k ih=>
  intro idx d r hk hi hb hs
  obtain⟨z,hz⟩:=aEf r
  obtain⟨m,m1,m2⟩:=aCg z.1 (y - 1) (by omega)
  have e3:((y:Int) - 1)=((y - 1:Nat):Int):=by omega
  have hbody:∃ o:Nat,o < b - a/\Az.l1 (a:Int) (b:Int) (y:Int) (idx:Int) d.toList r=some (.next (((idx + 1:Nat):Int),(Sort.swp d idx (a + o)).toList,z.2)):=by
   unfold Az.l1
   rw [Wd (m:=b) (n:=a) (by omega) (by omega),xP (by omega),aAc,Wq2 (by omega) (by omega),Wp (by omega),aAg (by omega),aEw,hz,aAc,e3,m2]
   clear m2
   by_cases h:b - a<=m
   ·refine⟨m - (b - a),by omega,?_⟩
    rw [aAg (by omega),aEw,Wd (by omega) h]
    exact Mt (by omega) (by omega) (by omega)
   ·refine⟨m,by omega,?_⟩
    rw [aAk (by omega),aD6]
    exact Mt (by omega) (by omega) (by omega)
  obtain⟨o,ho,hbd⟩:=hbody
  obtain⟨d',h1,h2⟩:=ih (idx + 1) (Sort.swp d idx (a + o)) z.2 (by omega) (by omega) (by rw [Bv]; exact hb) (by rw [Bv]; exact hs)
  exact⟨d',(En hbd).trans h1,permIn_trans _ _ _ a b (swp_permIn d a b idx (a + o) (by omega) (by omega) (by omega) (by omega) hb) h2⟩
theorem Sy {a b:Nat} {d:Array Aa} (hab:a < b) (hb:b<=d.size) (hs:d.size < 65536):∃ d',Az d.toList (a:Int) (b:Int) cmp=some d'.toList/\PermIn a b d d':=by
 unfold Az
 rw [Wd (by omega) (by omega)]
 by_cases h8:8<=b - a
 ·obtain⟨y,y1,y2,y3⟩:=yZ (b - a) (by omega) (by omega)
  rw [aAg (by omega),aEw,y3,aAc,xP (by omega),aAc,Wq2 (by omega) (by omega),Wm (by omega) (by omega)]
  exact Ra hab h8 y1 y2 3 (a + (b - a) / 4 * 2 - 1) d _ (by omega) (by omega) hb hs
 ·rw [aAk (by omega),aD6]
  exact⟨d,rfl,permIn_refl d a b⟩
theorem K4 (hc:Be cmp lt P) {d:Array Aa} (hd:Ax P d) {x y:Nat} (hx:x < d.size) (hy:y < d.size) (s:Int) :
  ∃ (x' y':Nat) (s':Int),Df d.toList (x:Int) (y:Int) s cmp=some ((x':Int),(y':Int),s')/\(x'=x/\y'=y\/x'=y/\y'=x):=by
 obtain⟨m,m1,m2⟩:=F9 hc hd (i:=y) (j:=x) hy hx
 unfold Df
 rw [Cj (i:=y) hy rfl,aAc,Cj (i:=x) hx rfl,aAc,m1,aAc]
 cases decide (m < 0) with
 | true=>exact⟨y,x,_,rfl,Or.inr ⟨rfl,rfl⟩⟩
 | false=>exact⟨x,y,_,rfl,Or.inl ⟨rfl,rfl⟩⟩
theorem On (hc:Be cmp lt P) {d:Array Aa} (hd:Ax P d) {x y z:Nat} (hx:x < d.size) (hy:y < d.size) (hz:z < d.size) (s:Int) :
  ∃ (x':Nat) (s':Int),Do d.toList (x:Int) (y:Int) (z:Int) s cmp=some ((x':Int),s')/\(x'=x\/x'=y\/x'=z):=by
 obtain⟨p1,p2,s1,h1,k1⟩:=K4 hc hd hx hy s
 unfold Do
 rw [h1,aAc]
 obtain⟨q1,q2,s2,h2,k2⟩:=K4 hc hd (x:=p2) (y:=z) (by omega) hz s1
 simp only []
 rw [h2,aAc]
 obtain⟨r1,r2,s3,h3,k3⟩:=K4 hc hd (x:=p1) (y:=q1) (by omega) (by omega) s2
 simp only []
 rw [h3,aAc]
 exact⟨r2,s3,rfl,by omega⟩
theorem K2 (hc:Be cmp lt P) {d:Array Aa} (hd:Ax P d) {x:Nat} (h0:0 < x) (hx:x + 1 < d.size) (s:Int) :
  ∃ (x':Nat) (s':Int),Cm d.toList (x:Int) s cmp=some ((x':Int),s')/\(x'=x - 1\/x'=x\/x'=x + 1):=by
 have hsz:=hd.1
 obtain⟨p,s1,h1,k1⟩:=On hc hd (x:=x - 1) (y:=x) (z:=x + 1) (by omega) (by omega) hx s
 unfold Cm
 rw [Wm (by omega) h0,Wp (by omega),h1,aAc]
 exact⟨p,s1,rfl,k1⟩
theorem Ta (p:Nat) (s:Int):∃ h:Int,A5.j2 (p:Int) s=some ((p:Int),h):=by
 unfold A5.j2
 cases decide (s=0) with
 | true=>exact⟨_,rfl⟩
 | false=>
  cases decide (s=12) with
  | true=>exact⟨_,rfl⟩
  | false=>exact⟨_,rfl⟩
theorem Rq (hc:Be cmp lt P) {d:Array Aa} (hd:Ax P d) {a b:Nat} (h8:8<=b - a) (hb:b<=d.size) :
  ∃ (p:Nat) (h:Int),A5 d.toList (a:Int) (b:Int) cmp=some ((p:Int),h)/\a<=p/\p < b:=by
 have hsz:=hd.1
 have j1:∀ (i j k:Nat) (s:Int),a<=i->i < b->a<=j->j < b->a<=k->k < b->∃ (p:Nat) (h:Int),A5.j1 d.toList cmp (i:Int) (j:Int) (k:Int) s=some ((p:Int),h)/\a<=p/\p < b:=fun i j k s h1 h2 h3 h4 h5 h6=>by
  obtain⟨p,s1,k1,k2⟩:=On hc hd (x:=i) (y:=j) (z:=k) (by omega) (by omega) (by omega) s
  unfold A5.j1
  rw [k1,aAc]
  obtain⟨h,hh⟩:=Ta p s1
  exact⟨p,h,hh,by omega,by omega⟩
 unfold A5
 rw [Wd (by omega) (by omega),xP (by omega),aAc,aAc,aAc,aAg (by omega),aEw]
 generalize hq:(b - a) / 4=q
 rw [Wq1 (by omega) (by omega),Wq2 (by omega) (by omega),Wq3 (by omega) (by omega)]
 by_cases h50:50<=b - a
 ·rw [aAg (by omega),aEw]
  obtain⟨x1,s1,g1,k1⟩:=K2 hc hd (x:=a + q) (by omega) (by omega) 0
  rw [g1,aAc]
  obtain⟨x2,s2,g2,k2⟩:=K2 hc hd (x:=a + q * 2) (by omega) (by omega) s1
  simp only []
  rw [g2,aAc]
  obtain⟨x3,s3,g3,k3⟩:=K2 hc hd (x:=a + q * 3) (by omega) (by omega) s2
  simp only []
  rw [g3,aAc]
  exact j1 x1 x2 x3 s3 (by omega) (by omega) (by omega) (by omega) (by omega) (by omega)
 ·rw [aAk (by omega),aD6]
  exact j1 (a + q) (a + q * 2) (a + q * 3) 0 (by omega) (by omega) (by omega) (by omega) (by omega) (by omega)
end
end
section
open Go Go.Sort
section
variable {cmp:Aa->Aa->Option Int} {lt:Aa->Aa->Bool} {P:Aa->Prop}
def N4 (lt:Aa->Aa->Bool) (P:Aa->Prop) (Fin:Array Aa->Prop) (s:Int×Int×Int×Bool×Bool×List Aa):Prop:=
 ∃ (d:Array Aa) (a b:Nat),s.1=(a:Int)/\s.2.1=(b:Int)/\s.2.2.2.2.2=d.toList/\a<=b/\b<=d.size/\d.size < 65536/\Ax P d/\Below lt a b d/\∀ R,PermIn a b d R->SortedIn lt a b R->Fin R
def Gi (lt:Aa->Aa->Bool) (P:Aa->Prop) (rec:List Aa->Int->Int->Int->Option (List Aa)) (n:Nat):Prop:=
 ∀ (d:Array Aa) (a b:Nat) (lim:Int),a<=b->b<=d.size->d.size < 65536->Ax P d->Below lt a b d->b - a < n->Ok (rec d.toList (a:Int) (b:Int) lim) (fun r=>∃ d',r=d'.toList/\PermIn a b d d'/\SortedIn lt a b d')
abbrev Hu (lt:Aa->Aa->Bool) (P:Aa->Prop) (Fin:Array Aa->Prop) (n:Nat):Lp (Int×Int×Int×Bool×Bool×List Aa) (List Aa)->Prop:=
 S6 (fun s=>N4 lt P Fin s/\(s.2.1 - s.1).toNat < n) (fun r=>∃ d',r=d'.toList/\Fin d')
variable {Fin:Array Aa->Prop} {rec:List Aa->Int->Int->Int->Option (List Aa)}
theorem Mp (hS:SWO lt) (hc:Be cmp lt P) {a b pivot:Nat} {d:Array Aa} {wb wp:Bool} {lim:Int} {x:Bool} (hr:Gi lt P rec (b - a)) (hab:a < b) (hp1:a<=pivot) (hp2:pivot < b) (hb:b<=d.size) (hs:d.size < 65536) (hd:Ax P d) (hB:Below lt a b d) (hF:∀ R,PermIn a b d R->SortedIn lt a b R->Fin R) (hx:x=true->0 < a/\lt d[a - 1]! d[pivot]! = false) :
  Ok (Aj.j6 rec cmp (a:Int) (b:Int) wb wp lim (pivot:Int) d.toList x) (Hu lt P Fin (b - a)):=by
 unfold Aj.j6
 refine Ok.cond (fun hxt=>?_) (fun _=>?_)
 ·obtain⟨h0,h1⟩:=hx hxt
  rw [Ux hc hab hp1 hp2 hb hd,aAc]
  obtain⟨g1,g2,g3,g4,g5⟩:=round_eq (d4:=(partitionEqual lt d a b pivot).2) (mid:=(partitionEqual lt d a b pivot).1) hS (partitionEqual_holds lt) h0 hp1 hp2 hb hB h1 rfl
  have hge:∀ i,a<=i->i < b->lt d[i]! d[pivot]! = false:=fun i hi hi'=>by
   rcases hB with h0 | hB
   ·omega
   ·exact hS.ntrans _ _ _ (hB i hi hi') h1
  have hpm:=(partitionEqual_holds lt hS d a b pivot hp1 hp2 hb hge).2.2.1
  generalize (partitionEqual lt d a b pivot).2=d4 at g3 g4 g5 hpm ⊢
  generalize (partitionEqual lt d a b pivot).1=mid at g1 g2 g4 g5 ⊢
  refine Ok.ret ⟨⟨d4,mid,b,rfl,rfl,rfl,g2,by omega,by omega,hd.perm hb hpm,g4,fun R h2 h3=>?_⟩,?_⟩
  ·obtain⟨k1,k2⟩:=g5 R h2 h3
   exact hF R k1 k2
  ·show (((b:Int)) - (mid:Int)).toNat < b - a
   omega
 ·rw [Tn hc hab hp1 hp2 hb hd,aAc]
  obtain⟨g1,g2,g3,g4,g5,g6,g7⟩:=round_part (d4:=(partition lt d a b pivot).2.2) (mid:=(partition lt d a b pivot).1) (ap:=(partition lt d a b pivot).2.1) hS (partition_holds lt) hp1 hp2 hb hB rfl
  have hpm:=(partition_holds lt hS d a b pivot hp1 hp2 hb).2.2.1
  generalize (partition lt d a b pivot).2.2=d4 at g3 g4 g5 g6 g7 hpm ⊢
  generalize (partition lt d a b pivot).2.1=ap
  generalize (partition lt d a b pivot).1=mid at g1 g2 g4 g5 g6 g7 ⊢
  have hd4:=hd.perm hb hpm
  simp only []
  rw [Wd (m:=b) (n:=a) (by omega) (by omega),aGv (by omega),aAc,Wd (m:=mid) (n:=a) (by omega) (by omega),Wd (m:=b) (n:=mid) (by omega) (by omega),Wp (by omega)]
  refine Ok.cond (fun hm=>?_) (fun hm=>?_)
  ·have hm':=aCe hm
   refine Ok.bind (hr d4 a mid lim g1 (by omega) (by omega) hd4 g4 (by omega)) (fun r hr'=>?_)
   obtain⟨L,rfl,l1,l2⟩:=hr'
   obtain⟨k1,k2⟩:=g6 L l1 l2
   have hz:=l1.1
   refine Ok.ret ⟨⟨L,mid + 1,b,rfl,rfl,rfl,by omega,by omega,by omega,hd4.perm (by omega) l1,k1,fun R h2 h3=>?_⟩,?_⟩
   ·obtain⟨m1,m2⟩:=k2 R h2 h3
    exact hF R m1 m2
   ·show (((b:Int)) - ((mid + 1:Nat):Int)).toNat < b - a
    omega
  ·have hm':=aDs hm
   refine Ok.bind (hr d4 (mid + 1) b lim (by omega) (by omega) (by omega) hd4 g5 (by omega)) (fun r hr'=>?_)
   obtain⟨L,rfl,l1,l2⟩:=hr'
   obtain⟨k1,k2⟩:=g7 L l1 l2
   have hz:=l1.1
   refine Ok.ret ⟨⟨L,a,mid,rfl,rfl,rfl,by omega,by omega,by omega,hd4.perm (by omega) l1,k1,fun R h2 h3=>?_⟩,?_⟩
   ·obtain⟨m1,m2⟩:=k2 R h2 h3
    exact hF R m1 m2
   ·show (((mid:Int)) - (a:Int)).toNat < b - a
    omega
theorem Mu (hS:SWO lt) (hc:Be cmp lt P) {a b pivot:Nat} {d:Array Aa} {wb wp:Bool} {lim:Int} (hr:Gi lt P rec (b - a)) (hab:a < b) (hp1:a<=pivot) (hp2:pivot < b) (hb:b<=d.size) (hs:d.size < 65536) (hd:Ax P d) (hB:Below lt a b d) (hF:∀ R,PermIn a b d R->SortedIn lt a b R->Fin R) :
  Ok (Aj.j5 rec cmp (a:Int) (b:Int) wb wp lim (pivot:Int) d.toList) (Hu lt P Fin (b - a)):=by
 unfold Aj.j5
 refine Ok.cond (fun ha=>?_) (fun _=>Mp hS hc hr hab hp1 hp2 hb hs hd hB hF (fun h=>by cases h))
 have ha':=aCe ha
 rw [Wm (by omega) (by omega)]
 obtain⟨n,n1,n2⟩:=F9 hc hd (i:=a - 1) (j:=pivot) (by omega) (by omega)
 rw [Cj (i:=a - 1) (by omega) rfl,aAc,Cj (i:=pivot) (by omega) rfl,aAc,n1,aAc,n2]
 refine Mp hS hc hr hab hp1 hp2 hb hs hd hB hF (fun h=>⟨by omega,?_⟩)
 cases hl:lt d[a - 1]! d[pivot]! with
 | false=>rfl
 | true=>rw [hl] at h; cases h
theorem Ka (hS:SWO lt) (hc:Be cmp lt P) {a b pivot:Nat} {d:Array Aa} {wb wp:Bool} {lim:Int} {x:Bool} (hr:Gi lt P rec (b - a)) (hab:a < b) (hp1:a<=pivot) (hp2:pivot < b) (hb:b<=d.size) (hs:d.size < 65536) (hd:Ax P d) (hB:Below lt a b d) (hF:∀ R,PermIn a b d R->SortedIn lt a b R->Fin R) :
  Ok (Aj.j4 rec cmp (a:Int) (b:Int) wb wp lim (pivot:Int) d.toList x) (Hu lt P Fin (b - a)):=by
 unfold Aj.j4
 refine Ok.cond (fun _=>?_) (fun _=>Mu hS hc hr hab hp1 hp2 hb hs hd hB hF)
 rw [Q4 hc hab hb hd,aAc]
 obtain⟨k1,k2⟩:=partialInsertionSort_holds hS d a b hab hb hB
 generalize partialInsertionSort lt d a b=pi at k1 k2 ⊢
 have hz:pi.1.size=d.size:=k1.1
 have hb':b<=pi.1.size:=by omega
 have hs':pi.1.size < 65536:=by omega
 refine Ok.cond (fun h=>?_) (fun _=>Mu (d:=pi.1) hS hc hr hab hp1 hp2 hb' hs' (hd.perm hb k1) (hB.perm hb k1) (fun R h2 h3=>hF R (permIn_trans _ _ _ a b k1 h2) h3))
 exact Ok.up (Ok.ret ⟨_,rfl,hF _ k1 (k2 h)⟩)
theorem Mm (hS:SWO lt) (hc:Be cmp lt P) {a b pivot:Nat} {d:Array Aa} {wb wp:Bool} {lim hint:Int} (hr:Gi lt P rec (b - a)) (hab:a < b) (hp1:a<=pivot) (hp2:pivot < b) (hb:b<=d.size) (hs:d.size < 65536) (hd:Ax P d) (hB:Below lt a b d) (hF:∀ R,PermIn a b d R->SortedIn lt a b R->Fin R) :
  Ok (Aj.j3 rec cmp (a:Int) (b:Int) wb wp lim (pivot:Int) hint d.toList) (Hu lt P Fin (b - a)):=by
 unfold Aj.j3
 exact Ok.cond (fun _=>Ok.cond (fun _=>Ka hS hc hr hab hp1 hp2 hb hs hd hB hF) (fun _=>Ka hS hc hr hab hp1 hp2 hb hs hd hB hF)) (fun _=>Ka hS hc hr hab hp1 hp2 hb hs hd hB hF)
theorem Mv (hS:SWO lt) (hc:Be cmp lt P) {a b:Nat} {d:Array Aa} {wb wp:Bool} {lim:Int} (hr:Gi lt P rec (b - a)) (h12:12 < b - a) (hb:b<=d.size) (hs:d.size < 65536) (hd:Ax P d) (hB:Below lt a b d) (hF:∀ R,PermIn a b d R->SortedIn lt a b R->Fin R) :
  Ok (Aj.j2 rec cmp (a:Int) (b:Int) wb wp lim d.toList) (Hu lt P Fin (b - a)):=by
 obtain⟨p,h,h1,h2,h3⟩:=Rq hc hd (a:=a) (b:=b) (by omega) hb
 unfold Aj.j2
 rw [h1,aAc]
 refine Ok.cond (fun _=>?_) (fun _=>Mm hS hc hr (by omega) h2 h3 hb hs hd hB hF)
 rw [Qy (by omega) hb (by omega),aAc]
 have k1:=reverseRange_holds d a b (by omega) hb
 generalize reverseRange d a b=d2 at k1 ⊢
 have hz:=k1.1
 have e:W (W ((b:Int) - 1) - W ((p:Int) - (a:Int)))=((b - 1 - (p - a):Nat):Int):=by
  rw [Wm (by omega) (by omega),Wd (by omega) (by omega),Wd (by omega) (by omega)]
 simp only []
 rw [e]
 clear e
 exact Mm hS hc hr (by omega) (by omega) (by omega) (by omega) (by omega) (hd.perm hb k1) (hB.perm hb k1) (fun R h2 h3=>hF R (permIn_trans _ _ _ a b k1 h2) h3)
theorem Ru (hS:SWO lt) (hc:Be cmp lt P) {a b:Nat} {d:Array Aa} {wb wp:Bool} {lim:Int} (hr:Gi lt P rec (b - a)) (hab:a<=b) (hb:b<=d.size) (hs:d.size < 65536) (hd:Ax P d) (hB:Below lt a b d) (hF:∀ R,PermIn a b d R->SortedIn lt a b R->Fin R) :
  Ok (Aj.l1 rec cmp (a:Int) (b:Int) lim wb wp d.toList) (Hu lt P Fin (b - a)):=by
 unfold Aj.l1
 rw [Wd (by omega) hab]
 refine Ok.cond (fun _=>?_) (fun h12=>?_)
 ·rw [Pi hc hab hb hd,aAc]
  obtain⟨k1,k2⟩:=insertionSort_holds hS d a b hab hb
  exact Ok.up (Ok.ret ⟨_,rfl,hF _ k1 k2⟩)
 ·have h12':=aDs h12
  refine Ok.cond (fun _=>?_) (fun _=>?_)
  ·rw [Tc hc (by omega) hb hd,aAc]
   obtain⟨k1,k2⟩:=heapSort_holds hS d a b hab hb
   exact Ok.up (Ok.ret ⟨_,rfl,hF _ k1 k2⟩)
  ·refine Ok.cond (fun _=>?_) (fun _=>Mv hS hc hr (by omega) hb hs hd hB hF)
   obtain⟨d1,k0,k1⟩:=Sy (cmp:=cmp) (a:=a) (b:=b) (d:=d) (by omega) hb hs
   have hz:=k1.1
   rw [k0,aAc]
   exact Mv hS hc hr (by omega) (by omega) (by omega) (hd.perm hb k1) (hB.perm hb k1) (fun R h2 h3=>hF R (permIn_trans _ _ _ a b k1 h2) h3)
theorem Uh (hS:SWO lt) (hc:Be cmp lt P) {a b:Nat} {d:Array Aa} {lim:Int} (hab:a<=b) (hb:b<=d.size) (hs:d.size < 65536) (hd:Ax P d) (hB:Below lt a b d) :
  Ok (Aj d.toList (a:Int) (b:Int) lim cmp) (fun r=>∃ d',r=d'.toList/\PermIn a b d d'/\SortedIn lt a b d'):=by
 unfold Aj
 refine (yA (Jp (cmp:=cmp)) (fun x=>(x.2.2.1 - x.2.1).toNat)
  (fun x=>∃ (d:Array Aa) (a b:Nat),x.1=d.toList/\x.2.1=(a:Int)/\x.2.2.1=(b:Int)/\a<=b/\b<=d.size/\d.size < 65536/\Ax P d/\Below lt a b d)
  (fun x r=>∀ (d:Array Aa) (a b:Nat),x.1=d.toList->x.2.1=(a:Int)->x.2.2.1=(b:Int)->∃ d',r=d'.toList/\PermIn a b d d'/\SortedIn lt a b d') ?_ _ ⟨d,a,b,rfl,rfl,rfl,hab,hb,hs,hd,hB⟩).mono (fun r hr=>hr d a b rfl rfl rfl)
 rintro rec ⟨l,a',b',lim'⟩ ⟨d,a,b,h1,h2,h3,hab,hb,hs,hd,hB⟩ ih
 have h1:l=d.toList:=h1
 have h2:a'=(a:Int):=h2
 have h3:b'=(b:Int):=h3
 subst h1 h2 h3
 have hr:Gi lt P (fun data a b limit=>rec (data,a,b,limit)) (b - a):=fun d2 a2 b2 lim2 k1 k2 k3 k4 k5 k6=>
  (ih (d2.toList,(a2:Int),(b2:Int),lim2) ⟨d2,a2,b2,rfl,rfl,rfl,k1,k2,k3,k4,k5⟩ (by show (((b2:Int)) - (a2:Int)).toNat < (((b:Int)) - (a:Int)).toNat; omega)).mono (fun r hr=>hr d2 a2 b2 rfl rfl rfl)
 have main:Ok (Aj.F (fun data a b limit=>rec (data,a,b,limit)) d.toList (a:Int) (b:Int) lim' cmp) (fun r=>∃ d',r=d'.toList/\(PermIn a b d d'/\SortedIn lt a b d')):=by
  unfold Aj.F
  refine Ok.loop (fun s=>N4 lt P (fun R=>PermIn a b d R/\SortedIn lt a b R) s/\(s.2.1 - s.1).toNat<=b - a) (fun s=>(s.2.1 - s.1).toNat) ?_ ⟨⟨d,a,b,rfl,rfl,rfl,hab,hb,hs,hd,hB,fun R h1 h2=>⟨h1,h2⟩⟩,?_⟩
  ·rintro⟨sa,sb,sl,wb,wp,dl⟩ ⟨⟨d3,a3,b3,e1,e2,e3,k1,k2,k3,k4,k5,k6⟩,hm⟩
   have e1:sa=(a3:Int):=e1
   have e2:sb=(b3:Int):=e2
   have e3:dl=d3.toList:=e3
   subst e1 e2 e3
   have hm:(((b3:Int)) - (a3:Int)).toNat<=b - a:=hm
   refine (Ru hS hc (fun d2 a2 b2 lim2 q1 q2 q3 q4 q5 q6=>hr d2 a2 b2 lim2 q1 q2 q3 q4 q5 (by omega)) k1 k2 k3 k4 k5 k6).mono (fun o ho=>?_)
   have em:(((b3:Int)) - (a3:Int)).toNat=b3 - a3:=by omega
   cases o with
   | done r=>exact ho
   | next s=>
    obtain⟨ho1,ho2⟩:=ho
    refine⟨⟨ho1,by omega⟩,?_⟩
    show (s.2.1 - s.1).toNat < (((b3:Int)) - (a3:Int)).toNat
    omega
  ·show (((b:Int)) - (a:Int)).toNat<=b - a
   omega
 refine main.mono (fun r hr d2 a2 b2 e1 e2 e3=>?_)
 have e1:d.toList=d2.toList:=e1
 have e2:(a:Int)=(a2:Int):=e2
 have e3:(b:Int)=(b2:Int):=e3
 obtain rfl:d=d2:=Array.toList_inj.1 e1
 obtain rfl:a=a2:=by omega
 obtain rfl:b=b2:=by omega
 exact hr
theorem Sw (hS:SWO lt) (hc:Be cmp lt P) (l:List Aa) (hl:l.length < 65536) (hP:∀ x∈l,P x) :
  Ok (D6 l cmp) (fun r=>r.Perm l/\r.Pairwise (fun x y=>lt y x=false)):=by
 obtain⟨L,_,_,_,h4⟩:=tW l.length hl
 unfold D6
 rw [Rc (by omega),h4,aAc]
 have hsz:l.toArray.size=l.length:=by simp
 have hA:Ax P l.toArray:=⟨by omega,fun i hi=>by
  rw [aPg l.toArray i hi]
  exact hP _ (by simp)⟩
 have h:=Uh hS hc (a:=0) (b:=l.toArray.size) (d:=l.toArray) (lim:=(L:Int)) (aFf _) (aHy _) (by omega) hA (Or.inl rfl)
 rw [hsz] at h
 have e:((0:Nat):Int)=0:=rfl
 rw [e] at h
 refine Ok.bind h (fun r hr=>?_)
 obtain⟨d',rfl,k1,k2⟩:=hr
 have hz:=k1.1
 refine Ok.ret ⟨?_,?_⟩
 ·have:=k1.2.2
  have e1:d'.extract 0 l.length=d':=by
   rw [<- hsz,<- hz]; exact Array.extract_size
  have e2:l.toArray.extract 0 l.length=l.toArray:=by
   rw [<- hsz]; exact Array.extract_size
  rw [e1,e2] at this
  exact this
 ·rw [aOi]
  intro i j hi hj hij
  have hi':i < d'.size:=by simpa using hi
  have hj':j < d'.size:=by simpa using hj
  have:=k2 i j (aFf _) hij (by omega)
  rw [aPg d' i hi',aPg d' j hj'] at this
  simpa using this
def Dn:Nat:=65535
theorem Sv (hS:SWO lt) (hc:Be cmp lt P) (l:List Aa) (hl:l.length<=Dn) (hP:∀ x∈l,P x) :
  Ok (D6 l cmp) (fun r=>r.Perm l/\r.Pairwise (fun x y=>lt y x=false)):=Sw hS hc l (by unfold Dn at hl; omega) hP
end
end
end Go.Proofs.YtkioneinddihlaaGreat
