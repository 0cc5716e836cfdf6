/- Plain texts, joined. No program is in sight here. -/
import Derived.Test.YtkoflhimdenjaaaGreatL3
import Derived.Test.YtkoflhimdenjaaaGreatC1
import Derived.Sort.AssemblyPlain
import Derived.Test.YtkoflhimdenjaaaGreatSG1
set_option linter.unusedVariables false
set_option linter.unusedSimpArgs false
namespace Go.Proofs.YtkoflhimdenjaaaGreat
section
open Go Go.Sort
section
variable {cmp:Aa->Aa->Option Int} {lt:Aa->Aa->Bool} {P:Aa->Prop}
def Bp (cmp:Aa->Aa->Option Int) (lt:Aa->Aa->Bool) (P:Aa->Prop):Prop:=∀ x y,P x->P y->∃ n,cmp x y=some n/\decide (n < 0)=lt x y
def A8 (P:Aa->Prop) (d:Array Aa):Prop:=d.size<=1000000000/\∀ i,i < d.size->P d[i]!
theorem B2 (d:Array Aa) (i j:Nat):(swp d i j).size=d.size:=by simp [swp]
theorem A8.swp {d:Array Aa} (h:A8 P d) {i j:Nat} (hi:i < d.size) (hj:j < d.size):A8 P (Sort.swp d i j):=by
 refine⟨by rw [B2]; exact h.1,fun k hk=>?_⟩
 rw [B2] at hk
 unfold Sort.swp
 by_cases h1:j=k
 ·subst h1
  rw [aKo ((d.setIfInBounds i d[j]!).setIfInBounds j d[i]!) _ (by simpa using hk)]
  simp only [Array.getElem_setIfInBounds_self]
  exact h.2 i hi
 ·by_cases h2:i=k
  ·subst h2
   rw [aKo ((d.setIfInBounds i d[j]!).setIfInBounds j d[i]!) _ (by simpa using hk)]
   rw [aKb (by simpa using hk) (by omega)]
   simp only [Array.getElem_setIfInBounds_self]
   exact h.2 j hj
  ·rw [aKo _ _ (by simpa using hk)]
   rw [aKb (by simpa using hk) (by omega),aKb (by simpa using hk) (by omega)]
   have:=h.2 k hk
   rwa [aKo d k hk] at this
theorem Cy {d:Array Aa} {i:Nat} (h:i < d.size) {k:Int} (hk:k=(i:Int)):B5 d.toList k=some d[i]!:=by
 subst hk
 rw [Hx,aJo,aJt h,aKo d i h]
theorem M0 (d:Array Aa) (i:Nat) (x:Aa):C2 d.toList i x=(d.setIfInBounds i x).toList:=by
 unfold C2
 simp
theorem Iq {d:Array Aa} {i:Nat} {x:Aa} {j:Nat} (h:i < d.size) {k:Int} (hk:k=(i:Int)):∃ y,B5 (C2 d.toList j x) k=some y:=by
 subst hk
 rw [Hx]
 exact⟨_,aA9 (by unfold C2; simpa using h)⟩
theorem Ii (d:Array Aa) (i j:Nat):C2 (C2 d.toList i d[j]!) j d[i]! = (Sort.swp d i j).toList:=by
 rw [M0,M0]
 rfl
theorem G5 (hc:Bp cmp lt P) {d:Array Aa} (h:A8 P d) {i j:Nat} (hi:i < d.size) (hj:j < d.size):∃ n,cmp d[i]! d[j]! = some n/\decide (n < 0)=lt d[i]! d[j]!:=hc _ _ (h.2 i hi) (h.2 j hj)
theorem Mb (hc:Bp cmp lt P) {a i1:Nat}:∀ (j:Nat) (d:Array Aa),j < d.size->A8 P d->
  A8 P (insInner lt a j d)/\(insInner lt a j d).size=d.size/\Cp (fun q'=>Ao.l2 (a:Int) cmp (i1:Int) q'.1 q'.2) ((j:Int),d.toList)=some (.next (W ((i1:Int) + 1),(insInner lt a j d).toList))
 | 0,d,hj,hd=>by
  refine⟨hd,rfl,Et ?_⟩
  show Ao.l2 (a:Int) cmp (i1:Int) ((0:Nat):Int) d.toList=_
  unfold Ao.l2
  rw [aAy (by omega)]
  rfl
 | j + 1,d,hj,hd=>by
  have hsz:=hd.1
  have hW:W (((j + 1:Nat):Int) - 1)=(j:Int):=by rw [Ex (by omega)]; omega
  unfold insInner
  by_cases ha:a < j + 1
  ·obtain⟨n,h1,h2⟩:=G5 hc hd hj (show j < d.size by omega)
   have hbody:∀ r,Ao.j3 (i1:Int) ((j + 1:Nat):Int) d.toList (lt d[j + 1]! d[j]!)=r->Ao.l2 (a:Int) cmp (i1:Int) ((j + 1:Nat):Int) d.toList=r:=fun r hr=>by
    unfold Ao.l2
    rw [aAv (by omega),aEn,Cy hj rfl,aAf,Cy (i:=j) (by omega) hW,aAf,h1,aAf,h2]
    exact hr
   cases hl:lt d[j + 1]! d[j]! with
   | true=>
    obtain⟨q1,q2,q3⟩:=Mb hc (i1:=i1) (a:=a) j (Sort.swp d (j + 1) j) (by rw [B2]; omega) (hd.swp hj (by omega))
    rw [if_pos (by simp [ha])]
    refine⟨q1,by rw [q2,B2],?_⟩
    have hb':Ao.l2 (a:Int) cmp (i1:Int) ((j + 1:Nat):Int) d.toList=some (.next ((j:Int),(Sort.swp d (j + 1) j).toList)):=by
     refine hbody _ ?_
     rw [hl]
     unfold Ao.j3
     obtain⟨y,hy⟩:=Iq (d:=d) (x:=d[j]!) (j:=(((j + 1:Nat):Int)).toNat) (i:=j) (by omega) hW
     rw [aEn,Cy (i:=j) (by omega) hW,aAf,Cy hj rfl,aAf,hy,aAf,hW]
     have e1:(((j + 1:Nat):Int)).toNat=j + 1:=by omega
     have e2:((j:Int)).toNat=j:=by omega
     rw [e1,e2,Ii]
    exact (Fl (body:=fun q'=>Ao.l2 (a:Int) cmp (i1:Int) q'.1 q'.2) (s:=(((j + 1:Nat):Int),d.toList)) hb').trans q3
   | false=>
    rw [if_neg (by simp)]
    refine⟨hd,rfl,Et (hbody _ ?_)⟩
    rw [hl]
    rfl
  ·rw [if_neg (by simp [ha])]
   refine⟨hd,rfl,Et ?_⟩
   show Ao.l2 (a:Int) cmp (i1:Int) ((j + 1:Nat):Int) d.toList=_
   unfold Ao.l2
   rw [aAy (by omega)]
   rfl
theorem Me (hc:Bp cmp lt P) {a b:Nat}:∀ (n i:Nat) (d:Array Aa),b - i=n->b<=d.size->A8 P d->
  Cp (fun q'=>Ao.l1 (a:Int) (b:Int) cmp q'.1 q'.2) ((i:Int),d.toList)=some (insOuter lt a b i d).toList
 | 0,i,d,hn,hb,hd=>by
  unfold insOuter
  rw [if_neg (by omega)]
  refine Et (x:=some d.toList) ?_
  show Ao.l1 (a:Int) (b:Int) cmp (i:Int) d.toList=_
  unfold Ao.l1
  rw [aAy (by omega)]
  rfl
 | n + 1,i,d,hn,hb,hd=>by
  have hsz:=hd.1
  unfold insOuter
  rw [if_pos (by omega)]
  obtain⟨q1,q2,q3⟩:=Mb hc (a:=a) (i1:=i) i d (by omega) hd
  rw [Fl (s':=(((i + 1:Nat):Int),(insInner lt a i d).toList)) ?_]
  ·exact Me hc n (i + 1) _ (by omega) (by rw [q2]; exact hb) q1
  ·show Ao.l1 (a:Int) (b:Int) cmp (i:Int) d.toList=_
   unfold Ao.l1
   rw [aAv (by omega),aEn,q3,H6 (by omega)]
theorem So (hc:Bp cmp lt P) {a b:Nat} {d:Array Aa} (hab:a<=b) (hb:b<=d.size) (hd:A8 P d):Ao d.toList (a:Int) (b:Int) cmp=some (insertionSort lt d a b).toList:=by
 have hsz:=hd.1
 unfold Ao insertionSort
 rw [H6 (by omega)]
 exact Me hc _ (a + 1) d rfl hb hd
theorem Um (hc:Bp cmp lt P) {first root c:Nat} {d:Array Aa} (h1:first + root < d.size) (h2:first + c < d.size) (hd:A8 P d) :
  Ap.j3 (first:Int) cmp (root:Int) d.toList (c:Int)=some (bif lt d[first + root]! d[first + c]! then .next ((c:Int),(Sort.swp d (first + root) (first + c)).toList) else .done d.toList):=by
 have hsz:=hd.1
 have w1:W ((first:Int) + (root:Int))=((first + root:Nat):Int):=by rw [Ex (by omega)]; omega
 have w2:W ((first:Int) + (c:Int))=((first + c:Nat):Int):=by rw [Ex (by omega)]; omega
 obtain⟨n,n1,n2⟩:=G5 hc hd h1 h2
 unfold Ap.j3
 rw [w1,w2,Cy h1 rfl,aAf,Cy h2 rfl,aAf,n1,aAf,n2]
 cases lt d[first + root]! d[first + c]! with
 | false=>rfl
 | true=>
  obtain⟨y,hy⟩:=Iq (d:=d) (x:=d[first + c]!) (j:=(((first + root:Nat):Int)).toNat) h2 rfl
  rw [show (!true)=false from rfl,aDk,hy,aAf,aEn]
  have e1:(((first + root:Nat):Int)).toNat=first + root:=by omega
  have e2:(((first + c:Nat):Int)).toNat=first + c:=by omega
  rw [e1,e2,Ii]
theorem Qj (hc:Bp cmp lt P) {hi first:Nat}:∀ (n root:Nat) (d:Array Aa),hi - root<=n->root<=1000000000->first + hi<=d.size->A8 P d->
  A8 P (siftDown lt hi first root d)/\(siftDown lt hi first root d).size=d.size/\Cp (fun q'=>Ap.l1 (hi:Int) (first:Int) cmp q'.1 q'.2) ((root:Int),d.toList)=some (siftDown lt hi first root d).toList:=by
 intro n
 induction n with
 | zero=>
  intro root d hn hr hh hd
  have hsz:=hd.1
  unfold siftDown
  rw [dif_pos (by omega)]
  refine⟨hd,rfl,Et (x:=some d.toList) ?_⟩
  show Ap.l1 (hi:Int) (first:Int) cmp (root:Int) d.toList=_
  unfold Ap.l1
  rw [Ex (x:=2 * (root:Int)) (by omega),Ex (by omega),aAv (by omega)]
  rfl
 | succ n ih=>
  intro root d hn hr hh hd
  have hsz:=hd.1
  have w0:W (2 * (root:Int))=((2 * root:Nat):Int):=by rw [Ex (by omega)]; omega
  have w1:W (((2 * root:Nat):Int) + 1)=((2 * root + 1:Nat):Int):=by rw [Ex (by omega)]; omega
  have w2:W (((2 * root + 1:Nat):Int) + 1)=((2 * root + 2:Nat):Int):=by rw [Ex (by omega)]; omega
  by_cases hend:2 * root + 1>=hi
  ·unfold siftDown
   rw [dif_pos hend]
   refine⟨hd,rfl,Et (x:=some d.toList) ?_⟩
   show Ap.l1 (hi:Int) (first:Int) cmp (root:Int) d.toList=_
   unfold Ap.l1
   rw [w0,w1,aAv (by omega)]
   rfl
  ·have step:∀ c:Nat,c < hi->root < c->∀ (b:Bool) (r:Array Aa),(lt d[first + root]! d[first + c]! = b)->r=(bif b then siftDown lt hi first c (Sort.swp d (first + root) (first + c)) else d)->
     (Ap.l1 (hi:Int) (first:Int) cmp (root:Int) d.toList=Ap.j3 (first:Int) cmp (root:Int) d.toList (c:Int))->
     A8 P r/\r.size=d.size/\Cp (fun q'=>Ap.l1 (hi:Int) (first:Int) cmp q'.1 q'.2) ((root:Int),d.toList)=some r.toList:=fun c hc1 hc2 b r hb hrr hl=>by
    have hj:=Um hc (first:=first) (root:=root) (c:=c) (d:=d) (by omega) (by omega) hd
    rw [hb] at hj
    cases b with
    | false=>
     rw [aDk] at hrr
     rw [hrr]
     refine⟨hd,rfl,T0 ?_⟩
     exact (by rw [hl,hj]; rfl:Ap.l1 (hi:Int) (first:Int) cmp (root:Int) d.toList=some (.done d.toList))
    | true=>
     rw [aEn] at hrr
     rw [hrr]
     obtain⟨q1,q2,q3⟩:=ih c (Sort.swp d (first + root) (first + c)) (by omega) (by omega) (by rw [B2]; exact hh) (hd.swp (by omega) (by omega))
     refine⟨q1,by rw [q2,B2],?_⟩
     have hb':Ap.l1 (hi:Int) (first:Int) cmp (root:Int) d.toList=some (.next ((c:Int),(Sort.swp d (first + root) (first + c)).toList)):=by rw [hl,hj]; rfl
     exact (Fl (body:=fun q'=>Ap.l1 (hi:Int) (first:Int) cmp q'.1 q'.2) (s:=((root:Int),d.toList)) hb').trans q3
   unfold siftDown
   rw [dif_neg hend]
   have hl:∀ b:Bool,(decide (2 * root + 1 + 1 < hi) && lt d[first + (2 * root + 1)]! d[first + (2 * root + 1) + 1]!)=b->Ap.l1 (hi:Int) (first:Int) cmp (root:Int) d.toList=Ap.j3 (first:Int) cmp (root:Int) d.toList (bif b then ((2 * root + 2:Nat):Int) else ((2 * root + 1:Nat):Int)):=fun b hb=>by
    unfold Ap.l1
    rw [w0,w1,w2,aAy (by omega),aDk]
    by_cases h2:2 * root + 2 < hi
    ·have a2:first + (2 * root + 1) + 1 < d.size:=by clear w0 w1 w2; omega
     have a1:first + (2 * root + 1) < d.size:=by clear w0 w1 w2; omega
     have a3:decide (2 * root + 1 + 1 < hi)=true:=aAv h2
     have a4:decide (((2 * root + 2:Nat):Int) < (hi:Int))=true:=aAv (by clear w0 w1 w2; omega)
     have v1:W ((first:Int) + ((2 * root + 1:Nat):Int))=((first + (2 * root + 1):Nat):Int):=by rw [Ex (by omega)]; omega
     have v2:W (((first + (2 * root + 1):Nat):Int) + 1)=((first + (2 * root + 1) + 1:Nat):Int):=by rw [Ex (by omega)]; omega
     obtain⟨m,m1,m2⟩:=G5 hc hd (i:=first + (2 * root + 1)) (j:=first + (2 * root + 1) + 1) a1 a2
     rw [a4,aEn,v1,v2,Cy (i:=first + (2 * root + 1)) a1 rfl,aAf,Cy (i:=first + (2 * root + 1) + 1) a2 rfl,aAf,m1,aAf,m2]
     rw [a3,aJu] at hb
     rw [hb]
     unfold Ap.j2
     rw [w0,w1,w2]
     cases b with
     | true=>rw [aEn,aEn]
     | false=>rw [aDk,aDk]
    ·rw [aAy (by omega),aDk]
     rw [aAy (by omega),aJk] at hb
     subst hb
     unfold Ap.j2
     rw [w0,w1,aDk,aDk]
   cases hb:(decide (2 * root + 1 + 1 < hi) && lt d[first + (2 * root + 1)]! d[first + (2 * root + 1) + 1]!) with
   | true=>
    rw [if_pos rfl]
    have h2:2 * root + 2 < hi:=by
     rw [aEw] at hb
     have:=aBs hb.1
     omega
    refine step (2 * root + 2) h2 (by omega) _ _ rfl ?_ (hl true hb)
    cases lt d[first + root]! d[first + (2 * root + 2)]! with
    | false=>rfl
    | true=>rw [show (!true)=false from rfl,if_neg (by simp),dif_pos h2]; rfl
   | false=>
    rw [if_neg (by simp)]
    refine step (2 * root + 1) (by omega) (by omega) _ _ rfl ?_ (hl false hb)
    cases lt d[first + root]! d[first + (2 * root + 1)]! with
    | false=>rfl
    | true=>rfl
theorem Lw (hc:Bp cmp lt P) {a b:Nat}:∀ (k:Nat) (d:Array Aa),a + (b - a)<=d.size->a<=b->k<=1000000000->A8 P d->
  A8 P (heapBuild lt (b - a) a k d)/\(heapBuild lt (b - a) a k d).size=d.size/\Cp (fun q'=>A3.l1 (a:Int) (b:Int) cmp q'.1 q'.2) ((k:Int) - 1,d.toList)=Cp (fun q'=>A3.l1 (a:Int) (b:Int) cmp q'.1 q'.2) (-1,(heapBuild lt (b - a) a k d).toList)
 | 0,d,h1,hab,hk,hd=>⟨hd,rfl,rfl⟩
 | k + 1,d,h1,hab,hk,hd=>by
  have hsz:=hd.1
  obtain⟨q1,q2,q3⟩:=Qj hc (hi:=b - a) (first:=a) _ k d (aHl _) (by omega) h1 hd
  obtain⟨r1,r2,r3⟩:=Lw hc (a:=a) (b:=b) k (siftDown lt (b - a) a k d) (by rw [q2]; exact h1) hab (by omega) q1
  refine⟨r1,by show (heapBuild lt (b - a) a k _).size=_; rw [r2,q2],?_⟩
  rw [Fl (s':=((k:Int) - 1,(siftDown lt (b - a) a k d).toList)) ?_]
  ·exact r3
  ·show A3.l1 (a:Int) (b:Int) cmp (((k + 1:Nat):Int) - 1) d.toList=_
   have e0:((k + 1:Nat):Int) - 1=(k:Int):=by omega
   have e1:W ((b:Int) - (a:Int))=((b - a:Nat):Int):=by rw [Ex (by omega)]; omega
   unfold A3.l1
   rw [e0,aAv (by omega),aEn,e1]
   have e2:Ap d.toList (k:Int) ((b - a:Nat):Int) (a:Int) cmp=some (siftDown lt (b - a) a k d).toList:=q3
   rw [e2,aAf,Ex (by omega)]
theorem Mz (hc:Bp cmp lt P) {a:Nat}:∀ (k:Nat) (d:Array Aa),a + k<=d.size->A8 P d->
  Cp (fun q'=>A3.l2 (a:Int) cmp q'.1 q'.2) ((k:Int) - 1,d.toList)=some (heapPop lt a k d).toList
 | 0,d,h1,hd=>Et (x:=some d.toList) (by
   show A3.l2 (a:Int) cmp (((0:Nat):Int) - 1) d.toList=_
   unfold A3.l2
   rw [aAy (by omega)]
   rfl)
 | k + 1,d,h1,hd=>by
  have hsz:=hd.1
  obtain⟨q1,q2,q3⟩:=Qj hc (hi:=k) (first:=a) k 0 (Sort.swp d a (a + k)) (by omega) (by omega) (by rw [B2]; omega) (hd.swp (by omega) (by omega))
  rw [Fl (s':=((k:Int) - 1,(siftDown lt k a 0 (Sort.swp d a (a + k))).toList)) ?_]
  ·exact Mz hc k _ (by rw [q2,B2]; omega) q1
  ·show A3.l2 (a:Int) cmp (((k + 1:Nat):Int) - 1) d.toList=_
   have e0:((k + 1:Nat):Int) - 1=(k:Int):=by omega
   have e1:W ((a:Int) + (k:Int))=((a + k:Nat):Int):=by rw [Ex (by omega)]; omega
   obtain⟨y,hy⟩:=Iq (d:=d) (x:=d[a + k]!) (j:=((a:Int)).toNat) (i:=a + k) (by omega) rfl
   unfold A3.l2
   rw [e0,aAv (by omega),aEn,e1,Cy (i:=a + k) (by omega) rfl,aAf,Cy (i:=a) (by omega) rfl,aAf,hy,aAf]
   have e2:((a:Int)).toNat=a:=by omega
   have e3:(((a + k:Nat):Int)).toNat=a + k:=by omega
   rw [e2,e3,Ii]
   have e4:Ap (Sort.swp d a (a + k)).toList 0 (k:Int) (a:Int) cmp=some (siftDown lt k a 0 (Sort.swp d a (a + k))).toList:=q3
   rw [e4,aAf,Ex (by omega)]
theorem Xj (hc:Bp cmp lt P) {a b:Nat} {d:Array Aa} (hab:a < b) (hb:b<=d.size) (hd:A8 P d):A3 d.toList (a:Int) (b:Int) cmp=some (heapSort lt d a b).toList:=by
 have hsz:=hd.1
 have e1:W ((b:Int) - (a:Int))=((b - a:Nat):Int):=by rw [Ex (by omega)]; omega
 have e2:W (((b - a:Nat):Int) - 1)=((b - a - 1:Nat):Int):=by rw [Ex (by omega)]; omega
 obtain⟨r1,r2,r3⟩:=Lw hc (a:=a) (b:=b) ((b - a - 1) / 2 + 1) d (by omega) (by omega) (by omega) hd
 unfold A3 heapSort
 rw [e1,e2]
 have eq:M2 ((b - a - 1:Nat):Int) 2=some (((b - a - 1) / 2:Nat):Int):=by
  unfold M2
  rw [if_neg (by omega),Ex]
  ·congr 1
  ·have:((b - a - 1:Nat):Int).tdiv 2=(((b - a - 1) / 2:Nat):Int):=rfl
   rw [this]
   omega
 rw [eq,aAf]
 have e0:(((b - a - 1) / 2:Nat):Int)=(((b - a - 1) / 2 + 1:Nat):Int) - 1:=by omega
 rw [e0,r3]
 refine Et (x:=some (heapPop lt a (b - a) (heapBuild lt (b - a) a ((b - a - 1) / 2 + 1) d)).toList) ?_
 show A3.l1 (a:Int) (b:Int) cmp (-1) _=_
 unfold A3.l1
 rw [aAy (by omega),aDk,e1]
 have e3:W (((b - a:Nat):Int) - 1)=((b - a:Nat):Int) - 1:=Ex (by omega)
 rw [e3,Mz hc (b - a) _ (by rw [r2]; omega) r1]
end
end
section
open Go Go.Sort
section
variable {cmp:Aa->Aa->Option Int} {lt:Aa->Aa->Bool} {P:Aa->Prop}
theorem Fu {d:Array Aa} {i j:Nat} (hi:i < d.size) (hj:j < d.size) {ki kj:Int} (eki:ki=(i:Int)) (ekj:kj=(j:Int)) {γ:Type} (F:List Aa->Option γ) :
  ((B5 d.toList kj).bind fun e=>(B5 d.toList ki).bind fun e2=>(B5 (C2 d.toList ki.toNat e) kj).bind fun _=>F (C2 (C2 d.toList ki.toNat e) kj.toNat e2))=F (Sort.swp d i j).toList:=by
 subst eki ekj
 obtain⟨y,hy⟩:=Iq (d:=d) (x:=d[j]!) (j:=((i:Int)).toNat) (i:=j) hj rfl
 rw [Cy hj rfl,aAf,Cy hi rfl,aAf,hy,aAf,aId,aId,Ii]
theorem Hr (hc:Bp cmp lt P) {d:Array Aa} (h:A8 P d) {i j:Nat} (hi:i < d.size) (hj:j < d.size) {ki kj:Int} (eki:ki=(i:Int)) (ekj:kj=(j:Int)) {γ:Type} (F:Bool->Option γ) :
  ((B5 d.toList ki).bind fun e=>(B5 d.toList kj).bind fun e2=>(cmp e e2).bind fun y=>F (decide (y < 0)))=F (lt d[i]! d[j]!):=by
 subst eki ekj
 obtain⟨n,h1,h2⟩:=G5 hc h hi hj
 rw [Cy hi rfl,aAf,Cy hj rfl,aAf,h1,aAf,h2]
theorem Uj (hc:Bp cmp lt P) {L0:List Aa} {e e2:Aa} {D:Array Aa} {a b pivot:Nat} (hD:C2 (C2 L0 ((a:Int)).toNat e) ((pivot:Int)).toNat e2=D.toList) (hA:A8 P D) (ha:a < b) (hb:b<=D.size) :
  Cp (fun q'=>Ad.l1 L0 (a:Int) (b:Int) (pivot:Int) cmp e e2 q') (W ((a:Int) + 1))=Cp (fun q'=>Ad.l3 L0 (a:Int) (pivot:Int) cmp e e2 ((scanUp (fun x=>lt x D[a]!) D (b - 1) (a + 1):Nat):Int) q') (((b - 1:Nat):Int)):=by
 have hsz:=hA.1
 rw [Wp (by omega)]
 refine lC (p:=fun x=>lt x D[a]!) (D:=D) (i0:=a + 1) (j:=b - 1) (J:=fun i x=>Ad.j2 L0 (a:Int) (b:Int) (pivot:Int) cmp e e2 (i:Int) x) (K:=fun i=>Cp (fun q'=>Ad.l3 L0 (a:Int) (pivot:Int) cmp e e2 (i:Int) q') (((b - 1:Nat):Int))) (by omega) (fun i h1 h2=>?_) (fun i=>rfl) (fun i _ _=>?_) _ (a + 1) rfl (aHl _) (by omega)
 ·unfold Ad.l1
  rw [hD,Wm (by omega) (by omega)]
  by_cases h:i<=b - 1
  ·rw [aAv (by omega),aEn,aAv h,aJu]
   exact Hr hc hA (i:=i) (j:=a) (by omega) (by omega) rfl rfl (F:=fun x=>Ad.j2 L0 (a:Int) (b:Int) (pivot:Int) cmp e e2 (i:Int) x)
  ·rw [aAy (by omega),aDk,aAy h,aJk]
 ·unfold Ad.j2
  rw [Wm (by omega) (by omega)]
  rfl
theorem Up (hc:Bp cmp lt P) {L0:List Aa} {e e2:Aa} {D:Array Aa} {a b i pivot:Nat} (hD:C2 (C2 L0 ((a:Int)).toNat e) ((pivot:Int)).toNat e2=D.toList) (hA:A8 P D) (ha:a < i) (hi:i<=b) (hb:b<=D.size) :
  Cp (fun q'=>Ad.l3 L0 (a:Int) (pivot:Int) cmp e e2 (i:Int) q') (((b - 1:Nat):Int))=(fun j=>if j < i then some ((j:Int),true,(Sort.swp D j a).toList) else
   Cp (fun q'=>Ad.l5 (a:Int) cmp q'.1 q'.2.1 q'.2.2) (((i + 1:Nat):Int),((j - 1:Nat):Int),(Sort.swp D i j).toList)) (scanDown (fun x=>!lt x D[a]!) D i (b - 1)):=by
 have hsz:=hA.1
 refine gN (p:=fun x=>!lt x D[a]!) (D:=D) (i:=i) (j0:=b - 1) (J:=fun j x=>Ad.j4 L0 (a:Int) (pivot:Int) cmp e e2 (i:Int) (j:Int) x) (K:=fun j:Nat=>if j < i then some ((j:Int),true,(Sort.swp D j a).toList) else
   Cp (fun q'=>Ad.l5 (a:Int) cmp q'.1 q'.2.1 q'.2.2) (((i + 1:Nat):Int),((j - 1:Nat):Int),(Sort.swp D i j).toList)) (by omega) (by omega) (fun j h1 h2=>?_) (fun i=>rfl) (fun j h1 h2=>?_) (b - 1) (by omega) (aHl _)
 ·unfold Ad.l3
  rw [hD]
  by_cases h:i<=j
  ·rw [aAv (by omega),aEn,aAv h,aJu]
   exact Hr hc hA (i:=j) (j:=a) (by omega) (by omega) rfl rfl (F:=fun x=>Ad.j4 L0 (a:Int) (pivot:Int) cmp e e2 (i:Int) (j:Int) (!x))
  ·rw [aAy (by omega),aDk,aAy h,aJk]
 ·unfold Ad.j4
  rw [hD,aDk]
  congr 1
  by_cases h:j < i
  ·rw [aAv (by omega),aEn,if_pos h]
   exact Fu (i:=j) (j:=a) (by omega) (by omega) rfl rfl (fun l=>some ((j:Int),true,l))
  ·rw [aAy (by omega),aDk,if_neg h,Wp (by omega),Wm (by omega) (by omega)]
   exact Fu (i:=i) (j:=j) (by omega) (by omega) rfl rfl (fun l=>Cp (fun q'=>Ad.l5 (a:Int) cmp q'.1 q'.2.1 q'.2.2) (((i + 1:Nat):Int),((j - 1:Nat):Int),l))
theorem Nd (hc:Bp cmp lt P) {D:Array Aa} {a i j:Nat} (hA:A8 P D) (ha:a < i) (hi:i<=j + 1) (hj:j < D.size) :
  Ad.l5 (a:Int) cmp (i:Int) (j:Int) D.toList=(fun i' j':Nat=>if j' < i' then up (some ((j':Int),false,(Sort.swp D j' a).toList)) else some (.next (((i' + 1:Nat):Int),((j' - 1:Nat):Int),(Sort.swp D i' j').toList))) (scanUp (fun x=>lt x D[a]!) D j i) (scanDown (fun x=>!lt x D[a]!) D (scanUp (fun x=>lt x D[a]!) D j i) j):=by
 have hsz:=hA.1
 have hu:=scanUp_spec (fun x=>lt x D[a]!) D j _ i rfl
 unfold Ad.l5
 refine (lC (p:=fun x=>lt x D[a]!) (D:=D) (i0:=i) (j:=j) (J:=fun i x=>Ad.j7 (a:Int) cmp (j:Int) D.toList (i:Int) x) (K:=fun i=>Cp (fun q'=>Ad.l8 (a:Int) cmp D.toList (i:Int) q') (j:Int)) (by omega) (fun i' h1 h2=>?_) (fun i=>rfl) (fun i' h1 h2=>rfl) _ i rfl (aHl _) (by omega)).trans ?_
 ·unfold Ad.l6
  by_cases h:i'<=j
  ·rw [aAv (by omega),aEn,aAv h,aJu]
   exact Hr hc hA (i:=i') (j:=a) (by omega) (by omega) rfl rfl (F:=fun x=>Ad.j7 (a:Int) cmp (j:Int) D.toList (i':Int) x)
  ·rw [aAy (by omega),aDk,aAy h,aJk]
 ·generalize scanUp (fun x=>lt x D[a]!) D j i=i2 at hu ⊢
  have h1:=hu.1
  have h2:=hu.2.1 hi
  refine gN (p:=fun x=>!lt x D[a]!) (D:=D) (i:=i2) (j0:=j) (J:=fun j x=>Ad.j9 (a:Int) D.toList (i2:Int) (j:Int) x) (K:=fun j':Nat=>if j' < i2 then up (some ((j':Int),false,(Sort.swp D j' a).toList)) else some (.next (((i2 + 1:Nat):Int),((j' - 1:Nat):Int),(Sort.swp D i2 j').toList))) (by omega) (by omega) (fun j' h3 h4=>?_) (fun j'=>rfl) (fun j' h3 h4=>?_) j (by omega) (aHl _)
  ·unfold Ad.l8
   by_cases h:i2<=j'
   ·rw [aAv (by omega),aEn,aAv h,aJu]
    exact Hr hc hA (i:=j') (j:=a) (by omega) (by omega) rfl rfl (F:=fun x=>Ad.j9 (a:Int) D.toList (i2:Int) (j':Int) (!x))
   ·rw [aAy (by omega),aDk,aAy h,aJk]
  ·unfold Ad.j9
   rw [aDk]
   congr 1
   by_cases h:j' < i2
   ·rw [aAv (by omega),aEn,if_pos h]
    congr 1
    exact Fu (i:=j') (j:=a) (by omega) (by omega) rfl rfl (fun l=>some ((j':Int),false,l))
   ·rw [aAy (by omega),aDk,if_neg h,Wp (by omega),Wm (by omega) (by omega)]
    exact Fu (i:=i2) (j:=j') (by omega) (by omega) rfl rfl (fun l=>some (Lp.next (((i2 + 1:Nat):Int),((j' - 1:Nat):Int),l)))
theorem Sp (hc:Bp cmp lt P) {a:Nat}:∀ (n i j:Nat) (D:Array Aa),j + 1 - i<=n->a < i->i<=j + 1->j < D.size->A8 P D->
  A8 P (partLoop lt a i j D).2/\(partLoop lt a i j D).2.size=D.size/\(partLoop lt a i j D).1 < D.size/\
  Cp (fun q'=>Ad.l5 (a:Int) cmp q'.1 q'.2.1 q'.2.2) ((i:Int),(j:Int),D.toList)=some (((partLoop lt a i j D).1:Int),false,(Sort.swp (partLoop lt a i j D).2 (partLoop lt a i j D).1 a).toList):=by
 intro n
 induction n with
 | zero=>
  intro i j D hn ha hi hj hA
  have hr:=Nd hc hA ha hi hj
  have hu:=scanUp_spec (fun x=>lt x D[a]!) D j _ i rfl
  rw [partLoop_eq]
  generalize scanUp (fun x=>lt x D[a]!) D j i=i2 at hu hr ⊢
  have hd:=scanDown_spec (fun x=>!lt x D[a]!) D i2 j
  generalize scanDown (fun x=>!lt x D[a]!) D i2 j=j2 at hd hr ⊢
  have h1:=hu.1
  have h2:=hd.1
  rw [if_pos (show i2 > j2 by omega)]
  refine⟨hA,rfl,show j2 < D.size by omega,Et (hr.trans ?_)⟩
  exact if_pos (show j2 < i2 by omega)
 | succ n ih=>
  intro i j D hn ha hi hj hA
  have hr:=Nd hc hA ha hi hj
  have hu:=scanUp_spec (fun x=>lt x D[a]!) D j _ i rfl
  rw [partLoop_eq]
  generalize scanUp (fun x=>lt x D[a]!) D j i=i2 at hu hr ⊢
  have hd:=scanDown_spec (fun x=>!lt x D[a]!) D i2 j
  generalize scanDown (fun x=>!lt x D[a]!) D i2 j=j2 at hd hr ⊢
  have h1:=hu.1
  have h2:=hd.1
  by_cases h:i2 > j2
  ·rw [if_pos h]
   refine⟨hA,rfl,show j2 < D.size by omega,Et (hr.trans ?_)⟩
   exact if_pos (show j2 < i2 by omega)
  ·rw [if_neg h]
   have hne:i2≠j2:=fun e=>by
    have u4:=hu.2.2.2 (by omega)
    have d4:=hd.2.2.2 (by omega) (by omega)
    rw [e] at u4
    rw [u4] at d4
    cases d4
   obtain⟨q1,q2,q3,q4⟩:=ih (i2 + 1) (j2 - 1) (Sort.swp D i2 j2) (by omega) (by omega) (by omega) (by rw [B2]; omega) (hA.swp (by omega) (by omega))
   rw [B2] at q2 q3
   refine⟨q1,q2,q3,(Fl (hr.trans (if_neg (show ¬ j2 < i2 by omega)))).trans q4⟩
theorem Xc (hc:Bp cmp lt P) {a b pivot:Nat} {d:Array Aa} (hab:a < b) (hp1:a<=pivot) (hp2:pivot < b) (hb:b<=d.size) (hd:A8 P d) :
  Ad d.toList (a:Int) (b:Int) (pivot:Int) cmp=some (((partition lt d a b pivot).1:Int),(partition lt d a b pivot).2.1,(partition lt d a b pivot).2.2.toList):=by
 have hsz:=hd.1
 have hA:A8 P (Sort.swp d a pivot):=hd.swp (by omega) (by omega)
 have hs:=B2 d a pivot
 have hD:C2 (C2 d.toList ((a:Int)).toNat d[pivot]!) ((pivot:Int)).toNat d[a]! = (Sort.swp d a pivot).toList:=by
  rw [aId,aId,Ii]
 obtain⟨y,hy⟩:=Iq (d:=d) (x:=d[pivot]!) (j:=((a:Int)).toNat) (i:=pivot) (by omega) rfl
 unfold Ad partition
 rw [Cy (i:=pivot) (by omega) rfl,aAf,Cy (i:=a) (by omega) rfl,aAf,hy,aAf,Uj hc hD hA hab (by omega)]
 simp only []
 generalize Sort.swp d a pivot=D at hA hs hD ⊢
 have hu:=scanUp_spec (fun x=>lt x D[a]!) D (b - 1) _ (a + 1) rfl
 generalize scanUp (fun x=>lt x D[a]!) D (b - 1) (a + 1)=i2 at hu ⊢
 have h1:=hu.1
 have h2:=hu.2.1 (by omega)
 rw [Up hc hD hA (b:=b) (i:=i2) (by omega) (by omega) (by omega)]
 have hdn:=scanDown_spec (fun x=>!lt x D[a]!) D i2 (b - 1)
 generalize scanDown (fun x=>!lt x D[a]!) D i2 (b - 1)=j2 at hdn ⊢
 have h3:=hdn.1
 by_cases h:i2 > j2
 ·rw [if_pos h]
  exact if_pos (show j2 < i2 by omega)
 ·rw [if_neg h]
  have hne:i2≠j2:=fun e=>by
   have u4:=hu.2.2.2 (by omega)
   have d4:=hdn.2.2.2 (by omega) (by omega)
   rw [e] at u4
   rw [u4] at d4
   cases d4
  refine (if_neg (show ¬ j2 < i2 by omega)).trans ?_
  exact (Sp hc _ (i2 + 1) (j2 - 1) (Sort.swp D i2 j2) (aHl _) (by omega) (by omega) (by rw [B2]; omega) (hA.swp (by omega) (by omega))).2.2.2
end
end
section
open Go Go.Sort
section
variable {cmp:Aa->Aa->Option Int} {lt:Aa->Aa->Bool} {P:Aa->Prop}
theorem Nq (hc:Bp cmp lt P) {D:Array Aa} {a i j:Nat} (hA:A8 P D) (ha:a < i) (hi:i<=j + 1) (hj:j < D.size) :
  An.l1 (a:Int) cmp (i:Int) (j:Int) D.toList=(fun i' j':Nat=>if j' < i' then up (some ((i':Int),D.toList)) else some (.next (((i' + 1:Nat):Int),((j' - 1:Nat):Int),(Sort.swp D i' j').toList))) (scanUp (fun x=>!lt D[a]! x) D j i) (scanDown (fun x=>lt D[a]! x) D (scanUp (fun x=>!lt D[a]! x) D j i) j):=by
 have hsz:=hA.1
 have hu:=scanUp_spec (fun x=>!lt D[a]! x) D j _ i rfl
 unfold An.l1
 refine (lC (p:=fun x=>!lt D[a]! x) (D:=D) (i0:=i) (j:=j) (J:=fun i x=>An.j3 (a:Int) cmp (j:Int) D.toList (i:Int) x) (K:=fun i=>Cp (fun q'=>An.l4 (a:Int) cmp D.toList (i:Int) q') (j:Int)) (by omega) (fun i' h1 h2=>?_) (fun i=>rfl) (fun i' h1 h2=>rfl) _ i rfl (aHl _) (by omega)).trans ?_
 ·unfold An.l2
  by_cases h:i'<=j
  ·rw [aAv (by omega),aEn,aAv h,aJu]
   exact Hr hc hA (i:=a) (j:=i') (by omega) (by omega) rfl rfl (F:=fun x=>An.j3 (a:Int) cmp (j:Int) D.toList (i':Int) (!x))
  ·rw [aAy (by omega),aDk,aAy h,aJk]
 ·generalize scanUp (fun x=>!lt D[a]! x) D j i=i2 at hu ⊢
  have h1:=hu.1
  have h2:=hu.2.1 hi
  refine gN (p:=fun x=>lt D[a]! x) (D:=D) (i:=i2) (j0:=j) (J:=fun j x=>An.j5 D.toList (i2:Int) (j:Int) x) (K:=fun j':Nat=>if j' < i2 then up (some ((i2:Int),D.toList)) else some (.next (((i2 + 1:Nat):Int),((j' - 1:Nat):Int),(Sort.swp D i2 j').toList))) (by omega) (by omega) (fun j' h3 h4=>?_) (fun j'=>rfl) (fun j' h3 h4=>?_) j (by omega) (aHl _)
  ·unfold An.l4
   by_cases h:i2<=j'
   ·rw [aAv (by omega),aEn,aAv h,aJu]
    exact Hr hc hA (i:=a) (j:=j') (by omega) (by omega) rfl rfl (F:=fun x=>An.j5 D.toList (i2:Int) (j':Int) x)
   ·rw [aAy (by omega),aDk,aAy h,aJk]
  ·unfold An.j5
   rw [aDk]
   congr 1
   by_cases h:j' < i2
   ·rw [aAv (by omega),aEn,if_pos h]
   ·rw [aAy (by omega),aDk,if_neg h,Wp (by omega),Wm (by omega) (by omega)]
    exact Fu (i:=i2) (j:=j') (by omega) (by omega) rfl rfl (fun l=>some (Lp.next (((i2 + 1:Nat):Int),((j' - 1:Nat):Int),l)))
theorem S8 (hc:Bp cmp lt P) {a:Nat}:∀ (n i j:Nat) (D:Array Aa),j + 1 - i<=n->a < i->i<=j + 1->j < D.size->A8 P D->
  Cp (fun q'=>An.l1 (a:Int) cmp q'.1 q'.2.1 q'.2.2) ((i:Int),(j:Int),D.toList)=some (((partEqLoop lt a i j D).1:Int),(partEqLoop lt a i j D).2.toList):=by
 intro n
 induction n with
 | zero=>
  intro i j D hn ha hi hj hA
  have hr:=Nq hc hA ha hi hj
  have hu:=scanUp_spec (fun x=>!lt D[a]! x) D j _ i rfl
  rw [partEqLoop_eq]
  generalize scanUp (fun x=>!lt D[a]! x) D j i=i2 at hu hr ⊢
  have hd:=scanDown_spec (fun x=>lt D[a]! x) D i2 j
  generalize scanDown (fun x=>lt D[a]! x) D i2 j=j2 at hd hr ⊢
  have h1:=hu.1
  have h2:=hd.1
  rw [if_pos (show i2 > j2 by omega)]
  refine Et (hr.trans ?_)
  exact if_pos (show j2 < i2 by omega)
 | succ n ih=>
  intro i j D hn ha hi hj hA
  have hr:=Nq hc hA ha hi hj
  have hu:=scanUp_spec (fun x=>!lt D[a]! x) D j _ i rfl
  rw [partEqLoop_eq]
  generalize scanUp (fun x=>!lt D[a]! x) D j i=i2 at hu hr ⊢
  have hd:=scanDown_spec (fun x=>lt D[a]! x) D i2 j
  generalize scanDown (fun x=>lt D[a]! x) D i2 j=j2 at hd hr ⊢
  have h1:=hu.1
  have h2:=hd.1
  by_cases h:i2 > j2
  ·rw [if_pos h]
   refine Et (hr.trans ?_)
   exact if_pos (show j2 < i2 by omega)
  ·rw [if_neg h]
   have hne:i2≠j2:=fun e=>by
    have u4:=hu.2.2.2 (by omega)
    have d4:=hd.2.2.2 (by omega) (by omega)
    rw [e] at u4
    rw [d4] at u4
    cases u4
   exact (Fl (hr.trans (if_neg (show ¬ j2 < i2 by omega)))).trans (ih (i2 + 1) (j2 - 1) (Sort.swp D i2 j2) (by omega) (by omega) (by omega) (by rw [B2]; omega) (hA.swp (by omega) (by omega)))
theorem Yu (hc:Bp cmp lt P) {a b pivot:Nat} {d:Array Aa} (hab:a < b) (hp1:a<=pivot) (hp2:pivot < b) (hb:b<=d.size) (hd:A8 P d) :
  An d.toList (a:Int) (b:Int) (pivot:Int) cmp=some (((partitionEqual lt d a b pivot).1:Int),(partitionEqual lt d a b pivot).2.toList):=by
 have hsz:=hd.1
 unfold An partitionEqual
 rw [Wp (by omega),Wm (by omega) (by omega)]
 refine (Fu (i:=a) (j:=pivot) (by omega) (by omega) rfl rfl (fun l=>Cp (fun q'=>An.l1 (a:Int) cmp q'.1 q'.2.1 q'.2.2) (((a + 1:Nat):Int),((b - 1:Nat):Int),l))).trans ?_
 exact S8 hc _ (a + 1) (b - 1) (Sort.swp d a pivot) (aHl _) (by omega) (by omega) (by rw [B2]; omega) (hd.swp (by omega) (by omega))
theorem Yv (hc:Bp cmp lt P) {b i2:Nat} {j1:Int}:∀ (n j:Nat) (d:Array Aa),b - j=n->1<=j->b<=d.size->A8 P d->
  A8 P (shiftUp lt b j d)/\(shiftUp lt b j d).size=d.size/\Cp (fun q'=>Ac.l6 (b:Int) cmp j1 (i2:Int) q'.1 q'.2) ((j:Int),d.toList)=some (.next ((i2:Int),W (j1 + 1),(shiftUp lt b j d).toList)):=by
 intro n
 induction n with
 | zero=>
  intro j d hn h1 hb hd
  rw [shiftUp,if_neg (by omega)]
  refine⟨hd,rfl,Et ?_⟩
  show Ac.l6 (b:Int) cmp j1 (i2:Int) (j:Int) d.toList=_
  unfold Ac.l6
  rw [aAy (by omega),aDk]
  rfl
 | succ n ih=>
  intro j d hn h1 hb hd
  have hsz:=hd.1
  rw [shiftUp,if_pos (by omega)]
  obtain⟨m,m1,m2⟩:=G5 hc hd (i:=j) (j:=j - 1) (by omega) (by omega)
  have hbody:Ac.l6 (b:Int) cmp j1 (i2:Int) (j:Int) d.toList=bif lt d[j]! d[j - 1]! then some (.next (((j + 1:Nat):Int),(Sort.swp d j (j - 1)).toList)) else up (some (.next ((i2:Int),W (j1 + 1),d.toList))):=by
   obtain⟨y,hy⟩:=Iq (d:=d) (x:=d[j - 1]!) (j:=((j:Int)).toNat) (i:=j - 1) (by omega) rfl
   unfold Ac.l6
   rw [aAv (by omega),aEn,Wm (by omega) (by omega),Cy (i:=j) (by omega) rfl,aAf,Cy (i:=j - 1) (by omega) rfl,aAf,m1,aAf,m2,hy,aAf,Wp (by omega),aId,aId,Ii]
   cases lt d[j]! d[j - 1]! <;> rfl
  cases hl:lt d[j]! d[j - 1]! with
  | false=>
   rw [hl] at hbody
   rw [if_pos (by rfl)]
   exact⟨hd,rfl,Et hbody⟩
  | true=>
   rw [hl] at hbody
   rw [if_neg (by simp)]
   obtain⟨q1,q2,q3⟩:=ih (j + 1) (Sort.swp d j (j - 1)) (by omega) (by omega) (by rw [B2]; exact hb) (hd.swp (by omega) (by omega))
   exact⟨q1,by rw [q2,B2],(Fl hbody).trans q3⟩
theorem Yj (hc:Bp cmp lt P) {b i2:Nat} {j1:Int} {d:Array Aa} (h1:1<=i2) (h2:i2 < b) (hb:b<=d.size) (hd:A8 P d) :
  A8 P (if b - i2>=2 then shiftUp lt b (i2 + 1) d else d)/\(if b - i2>=2 then shiftUp lt b (i2 + 1) d else d).size=d.size/\Ac.j5 (b:Int) cmp j1 (i2:Int) d.toList=some (.next ((i2:Int),W (j1 + 1),(if b - i2>=2 then shiftUp lt b (i2 + 1) d else d).toList)):=by
 have hsz:=hd.1
 unfold Ac.j5
 rw [Wd (by omega) (by omega)]
 by_cases h:b - i2>=2
 ·rw [aAv (by omega),aEn,if_pos h,Wp (by omega)]
  exact Yv hc _ (i2 + 1) d rfl (by omega) hb hd
 ·rw [aAy (by omega),aDk,if_neg h]
  exact⟨hd,rfl,rfl⟩
theorem R8 (hc:Bp cmp lt P) {b i2:Nat} {j1:Int}:∀ (j:Nat) (d:Array Aa),j < d.size->A8 P d->
  A8 P (shiftDown lt j d)/\(shiftDown lt j d).size=d.size/\Cp (fun q'=>Ac.l4 (b:Int) cmp j1 (i2:Int) q'.1 q'.2) ((j:Int),d.toList)=Ac.j5 (b:Int) cmp j1 (i2:Int) (shiftDown lt j d).toList
 | 0,d,hj,hd=>by
  refine⟨hd,rfl,Et ?_⟩
  show Ac.l4 (b:Int) cmp j1 (i2:Int) ((0:Nat):Int) d.toList=_
  unfold Ac.l4
  rw [aAy (by omega),aDk]
  rfl
 | j + 1,d,hj,hd=>by
  have hsz:=hd.1
  unfold shiftDown
  obtain⟨m,m1,m2⟩:=G5 hc hd (i:=j + 1) (j:=j) (by omega) (by omega)
  have hbody:Ac.l4 (b:Int) cmp j1 (i2:Int) ((j + 1:Nat):Int) d.toList=bif lt d[j + 1]! d[j]! then some (.next ((j:Int),(Sort.swp d (j + 1) j).toList)) else up (Ac.j5 (b:Int) cmp j1 (i2:Int) d.toList):=by
   obtain⟨y,hy⟩:=Iq (d:=d) (x:=d[j]!) (j:=(((j + 1:Nat):Int)).toNat) (i:=j) (by omega) rfl
   unfold Ac.l4
   have e:W (((j + 1:Nat):Int) - 1)=(j:Int):=Wm (n:=j + 1) (by omega) (by omega)
   rw [aAv (by omega),aEn,e,Cy (i:=j + 1) (by omega) rfl,aAf,Cy (i:=j) (by omega) rfl,aAf,m1,aAf,m2,hy,aAf,aId,aId,Ii]
   cases lt d[j + 1]! d[j]! <;> rfl
  cases hl:lt d[j + 1]! d[j]! with
  | false=>
   rw [hl] at hbody
   rw [if_pos (by rfl)]
   exact⟨hd,rfl,Et hbody⟩
  | true=>
   rw [hl] at hbody
   rw [if_neg (by simp)]
   obtain⟨q1,q2,q3⟩:=R8 hc j (Sort.swp d (j + 1) j) (by rw [B2]; omega) (hd.swp (by omega) (by omega))
   exact⟨q1,by rw [q2,B2],(Fl hbody).trans q3⟩
theorem Re (hc:Bp cmp lt P) {a b:Nat}:∀ (s i:Nat) (d:Array Aa),s<=5->a < i->i<=b->b<=d.size->A8 P d->
  Cp (fun q'=>Ac.l1 (a:Int) (b:Int) cmp q'.1 q'.2.1 q'.2.2) ((i:Int),((5 - s:Nat):Int),d.toList)=some ((partialIns lt a b s i d).2,(partialIns lt a b s i d).1.toList)
 | 0,i,d,hs,ha,hi,hb,hd=>by
  refine Et ?_
  show Ac.l1 (a:Int) (b:Int) cmp (i:Int) ((5 - 0:Nat):Int) d.toList=_
  unfold Ac.l1
  rw [aAy (by omega),aDk]
  rfl
 | s + 1,i,d,hs,ha,hi,hb,hd=>by
  have hsz:=hd.1
  have hle:=bX lt d b _ i rfl hi
  have hbody:Ac.l1 (a:Int) (b:Int) cmp (i:Int) ((5 - (s + 1):Nat):Int) d.toList =
    (fun i':Nat=>if i'=b then up (some (true,d.toList)) else if b - a < 50 then up (some (false,d.toList)) else
     bif decide (i' - a>=2) then Cp (fun q'=>Ac.l4 (b:Int) cmp ((5 - (s + 1):Nat):Int) (i':Int) q'.1 q'.2) (((i' - 1:Nat):Int),(Sort.swp d i' (i' - 1)).toList)
     else Ac.j5 (b:Int) cmp ((5 - (s + 1):Nat):Int) (i':Int) (Sort.swp d i' (i' - 1)).toList) (scanSorted lt d b i):=by
   unfold Ac.l1
   rw [aAv (by omega),aEn]
   refine aDn (lt:=lt) (D:=d) (i0:=i) (b:=b) (J:=fun i x=>Ac.j3 (a:Int) (b:Int) cmp ((5 - (s + 1):Nat):Int) d.toList (i:Int) x) (K:=fun i':Nat=>if i'=b then up (some (true,d.toList)) else if b - a < 50 then up (some (false,d.toList)) else
     bif decide (i' - a>=2) then Cp (fun q'=>Ac.l4 (b:Int) cmp ((5 - (s + 1):Nat):Int) (i':Int) q'.1 q'.2) (((i' - 1:Nat):Int),(Sort.swp d i' (i' - 1)).toList)
     else Ac.j5 (b:Int) cmp ((5 - (s + 1):Nat):Int) (i':Int) (Sort.swp d i' (i' - 1)).toList) (by omega) (fun i' h1 h2=>?_) (fun i'=>rfl) (fun i' h1 h2=>?_) _ i rfl (aHl _) hi
   ·unfold Ac.l2
    by_cases h:i' < b
    ·rw [aAv (by omega),aEn,aAv h,aJu,Wm (by omega) (by omega)]
     exact Hr hc hd (i:=i') (j:=i' - 1) (by omega) (by omega) rfl rfl (F:=fun x=>Ac.j3 (a:Int) (b:Int) cmp ((5 - (s + 1):Nat):Int) d.toList (i':Int) (!x))
    ·rw [aAy (by omega),aDk,aAy h,aJk]
   ·unfold Ac.j3
    rw [aDk]
    congr 1
    by_cases e:i'=b
    ·rw [aAv (by omega),aEn,if_pos e]
    ·rw [aAy (by omega),aDk,if_neg e,Wd (by omega) (by omega)]
     by_cases h50:b - a < 50
     ·rw [aAv (by omega),aEn,if_pos h50]
     ·rw [aAy (by omega),aDk,if_neg h50,Wm (by omega) (by omega),Wd (by omega) (by omega)]
      have e2:decide ((2:Int)<=((i' - a:Nat):Int))=decide (i' - a>=2):=decide_eq_decide.2 (by omega)
      rw [e2]
      exact Fu (i:=i') (j:=i' - 1) (by omega) (by omega) rfl rfl (fun l=>cond (decide (i' - a>=2)) (Cp (fun q'=>Ac.l4 (b:Int) cmp ((5 - (s + 1):Nat):Int) (i':Int) q'.1 q'.2) (((i' - 1:Nat):Int),l)) (Ac.j5 (b:Int) cmp ((5 - (s + 1):Nat):Int) (i':Int) l))
  rw [partialIns_succ]
  generalize scanSorted lt d b i=i2 at hbody hle ⊢
  by_cases e:i2=b
  ·rw [if_pos e]
   exact Et (hbody.trans (if_pos e))
  ·rw [if_neg e]
   by_cases h50:b - a < 50
   ·rw [if_pos h50]
    exact Et (hbody.trans ((if_neg e).trans (if_pos h50)))
   ·rw [if_neg h50]
    have hb2:=hbody.trans ((if_neg e).trans (if_neg h50))
    unfold fixDown fixUp
    have hd1:A8 P (Sort.swp d i2 (i2 - 1)):=hd.swp (by omega) (by omega)
    have hz1:=B2 d i2 (i2 - 1)
    generalize Sort.swp d i2 (i2 - 1)=d1 at hb2 hd1 hz1 ⊢
    have e5:W (((5 - (s + 1):Nat):Int) + 1)=((5 - s:Nat):Int):=by
     rw [Wp (by omega)]
     omega
    have main:∀ d2:Array Aa,d2.size=d1.size->A8 P d2->Ac.l1 (a:Int) (b:Int) cmp (i:Int) ((5 - (s + 1):Nat):Int) d.toList=Ac.j5 (b:Int) cmp ((5 - (s + 1):Nat):Int) (i2:Int) d2.toList->
      Cp (fun q'=>Ac.l1 (a:Int) (b:Int) cmp q'.1 q'.2.1 q'.2.2) ((i:Int),((5 - (s + 1):Nat):Int),d.toList)=some ((partialIns lt a b s i2 (if b - i2>=2 then shiftUp lt b (i2 + 1) d2 else d2)).2,(partialIns lt a b s i2 (if b - i2>=2 then shiftUp lt b (i2 + 1) d2 else d2)).1.toList):=fun d2 hz2 hd2 hl=>by
     obtain⟨q1,q2,q3⟩:=Yj hc (b:=b) (i2:=i2) (j1:=((5 - (s + 1):Nat):Int)) (d:=d2) (by omega) (by omega) (by omega) hd2
     rw [e5] at q3
     exact (Fl (hl.trans q3)).trans (Re hc s i2 _ (by omega) (by omega) (by omega) (by omega) q1)
    by_cases h2:i2 - a>=2
    ·rw [if_pos h2]
     rw [aAv h2,aEn] at hb2
     obtain⟨q1,q2,q3⟩:=R8 hc (b:=b) (i2:=i2) (j1:=((5 - (s + 1):Nat):Int)) (i2 - 1) d1 (by omega) hd1
     exact main _ q2 q1 (hb2.trans q3)
    ·rw [if_neg h2]
     rw [aAy h2,aDk] at hb2
     exact main _ rfl hd1 hb2
theorem Ui (hc:Bp cmp lt P) {a b:Nat} {d:Array Aa} (hab:a < b) (hb:b<=d.size) (hd:A8 P d) :
  Ac d.toList (a:Int) (b:Int) cmp=some ((partialInsertionSort lt d a b).2,(partialInsertionSort lt d a b).1.toList):=by
 have hsz:=hd.1
 unfold Ac partialInsertionSort
 rw [Wp (by omega)]
 exact Re hc 5 (a + 1) d (by omega) (by omega) (by omega) hb hd
end
end
section
open Go Go.Sort
section
variable {cmp:Aa->Aa->Option Int} {lt:Aa->Aa->Bool} {P:Aa->Prop}
theorem A8.perm {d d':Array Aa} {a b:Nat} (h:A8 P d) (hb:b<=d.size) (hp:PermIn a b d d'):A8 P d':=by
 refine⟨by rw [hp.1]; exact h.1,fun i hi=>?_⟩
 rw [hp.1] at hi
 by_cases hr:a<=i/\i < b
 ·exact permIn_all d d' a b P hb hp (fun k _ hk=>h.2 k (by omega)) i hr.1 hr.2
 ·rw [hp.2.1 i (by omega)]
  exact h.2 i hi
theorem Yf:∀ (n i j:Nat) (d:Array Aa),j - i<=n->j < d.size->d.size<=1000000000->
  Cp (fun q'=>Bj.l1 q'.1 q'.2.1 q'.2.2) ((i:Int),(j:Int),d.toList)=some (reverseLoop i j d).toList:=by
 intro n
 induction n with
 | zero=>
  intro i j d hn hj hs
  rw [reverseLoop,if_neg (by omega)]
  refine Et ?_
  show Bj.l1 (i:Int) (j:Int) d.toList=_
  unfold Bj.l1
  rw [aAy (by omega),aDk]
 | succ n ih=>
  intro i j d hn hj hs
  rw [reverseLoop]
  by_cases h:i < j
  ·rw [if_pos h]
   have hb:Bj.l1 (i:Int) (j:Int) d.toList=some (.next (((i + 1:Nat):Int),((j - 1:Nat):Int),(Sort.swp d i j).toList)):=by
    unfold Bj.l1
    rw [aAv (by omega),aEn,Wp (by omega),Wm (by omega) (by omega)]
    exact Fu (i:=i) (j:=j) (by omega) (by omega) rfl rfl (fun l=>some (Lp.next (((i + 1:Nat):Int),((j - 1:Nat):Int),l)))
   exact (Fl hb).trans (ih (i + 1) (j - 1) _ (by omega) (by rw [B2]; omega) (by rw [B2]; exact hs))
  ·rw [if_neg h]
   refine Et ?_
   show Bj.l1 (i:Int) (j:Int) d.toList=_
   unfold Bj.l1
   rw [aAy (by omega),aDk]
theorem Uh {a b:Nat} {d:Array Aa} (hab:a < b) (hb:b<=d.size) (hs:d.size<=1000000000):Bj d.toList (a:Int) (b:Int) cmp=some (reverseRange d a b).toList:=by
 unfold Bj reverseRange
 rw [Wm (by omega) (by omega)]
 exact Yf _ a (b - 1) d (aHl _) (by omega) hs
theorem Ow {a idx o:Nat} {d:Array Aa} {z:Int×Int} (hi:idx < d.size) (ho:a + o < d.size) (hs:d.size<=1000000000) :
  A1.j2 (a:Int) (idx:Int) d.toList z (o:Int)=some (.next (((idx + 1:Nat):Int),(Sort.swp d idx (a + o)).toList,z.2)):=by
 unfold A1.j2
 have e:W ((a:Int) + (o:Int))=((a + o:Nat):Int):=by rw [Ex (by omega)]; omega
 rw [e,Wp (by omega)]
 exact Fu (i:=idx) (j:=a + o) hi ho rfl rfl (fun l=>some (Lp.next (((idx + 1:Nat):Int),l,z.2)))
theorem Ve {a b y:Nat} (hab:a < b) (h8:8<=b - a) (hy1:b - a < y) (hy2:y<=2 * (b - a)):∀ (k idx:Nat) (d:Array Aa) (r:Int),idx + k=a + (b - a) / 4 * 2 + 2->a<=idx->b<=d.size->d.size < 65536->
  ∃ d',Cp (fun q'=>A1.l1 (a:Int) (b:Int) (y:Int) q'.1 q'.2.1 q'.2.2) ((idx:Int),d.toList,r)=some d'.toList/\PermIn a b d d':=by
 intro k
 induction k with
 | zero=>
  intro idx d r hk hi hb hs
  refine⟨d,Et ?_,permIn_refl d a b⟩
  show A1.l1 (a:Int) (b:Int) (y:Int) (idx:Int) d.toList r=_
  unfold A1.l1
  rw [Wd (by omega) (by omega),xX (by omega),aAf,Wq2 (by omega) (by omega),Wp (by omega),aAy (by omega),aDk]
 | succ k ih=>
  intro idx d r hk hi hb hs
  obtain⟨z,hz⟩:=aCg r
  obtain⟨m,m1,m2⟩:=aBh z.1 (y - 1) (by omega)
  have e3:((y:Int) - 1)=((y - 1:Nat):Int):=by omega
  have hbody:∃ o:Nat,o < b - a/\A1.l1 (a:Int) (b:Int) (y:Int) (idx:Int) d.toList r=some (.next (((idx + 1:Nat):Int),(Sort.swp d idx (a + o)).toList,z.2)):=by
   unfold A1.l1
   rw [Wd (m:=b) (n:=a) (by omega) (by omega),xX (by omega),aAf,Wq2 (by omega) (by omega),Wp (by omega),aAv (by omega),aEn,hz,aAf,e3,m2]
   clear m2
   by_cases h:b - a<=m
   ·refine⟨m - (b - a),by omega,?_⟩
    rw [aAv (by omega),aEn,Wd (by omega) h]
    exact Ow (by omega) (by omega) (by omega)
   ·refine⟨m,by omega,?_⟩
    rw [aAy (by omega),aDk]
    exact Ow (by omega) (by omega) (by omega)
  obtain⟨o,ho,hbd⟩:=hbody
  obtain⟨d',h1,h2⟩:=ih (idx + 1) (Sort.swp d idx (a + o)) z.2 (by omega) (by omega) (by rw [B2]; exact hb) (by rw [B2]; exact hs)
  exact⟨d',(Fl hbd).trans h1,permIn_trans _ _ _ a b (swp_permIn d a b idx (a + o) (by omega) (by omega) (by omega) (by omega) hb) h2⟩
theorem Wh {a b:Nat} {d:Array Aa} (hab:a < b) (hb:b<=d.size) (hs:d.size < 65536):∃ d',A1 d.toList (a:Int) (b:Int) cmp=some d'.toList/\PermIn a b d d':=by
 unfold A1
 rw [Wd (by omega) (by omega)]
 by_cases h8:8<=b - a
 ·obtain⟨y,y1,y2,y3⟩:=yR (b - a) (by omega) (by omega)
  rw [aAv (by omega),aEn,y3,aAf,xX (by omega),aAf,Wq2 (by omega) (by omega),Wm (by omega) (by omega)]
  exact Ve hab h8 y1 y2 3 (a + (b - a) / 4 * 2 - 1) d _ (by omega) (by omega) hb hs
 ·rw [aAy (by omega),aDk]
  exact⟨d,rfl,permIn_refl d a b⟩
theorem Mg (hc:Bp cmp lt P) {d:Array Aa} (hd:A8 P d) {x y:Nat} (hx:x < d.size) (hy:y < d.size) (s:Int) :
  ∃ (x' y':Nat) (s':Int),Di d.toList (x:Int) (y:Int) s cmp=some ((x':Int),(y':Int),s')/\(x'=x/\y'=y\/x'=y/\y'=x):=by
 obtain⟨m,m1,m2⟩:=G5 hc hd (i:=y) (j:=x) hy hx
 unfold Di
 rw [Cy (i:=y) hy rfl,aAf,Cy (i:=x) hx rfl,aAf,m1,aAf]
 cases decide (m < 0) with
 | true=>exact⟨y,x,_,rfl,Or.inr ⟨rfl,rfl⟩⟩
 | false=>exact⟨x,y,_,rfl,Or.inl ⟨rfl,rfl⟩⟩
theorem R7 (hc:Bp cmp lt P) {d:Array Aa} (hd:A8 P d) {x y z:Nat} (hx:x < d.size) (hy:y < d.size) (hz:z < d.size) (s:Int) :
  ∃ (x':Nat) (s':Int),Du d.toList (x:Int) (y:Int) (z:Int) s cmp=some ((x':Int),s')/\(x'=x\/x'=y\/x'=z):=by
 obtain⟨p1,p2,s1,h1,k1⟩:=Mg hc hd hx hy s
 unfold Du
 rw [h1,aAf]
 obtain⟨q1,q2,s2,h2,k2⟩:=Mg hc hd (x:=p2) (y:=z) (by omega) hz s1
 simp only []
 rw [h2,aAf]
 obtain⟨r1,r2,s3,h3,k3⟩:=Mg hc hd (x:=p1) (y:=q1) (by omega) (by omega) s2
 simp only []
 rw [h3,aAf]
 exact⟨r2,s3,rfl,by omega⟩
theorem Mi (hc:Bp cmp lt P) {d:Array Aa} (hd:A8 P d) {x:Nat} (h0:0 < x) (hx:x + 1 < d.size) (s:Int) :
  ∃ (x':Nat) (s':Int),Cs d.toList (x:Int) s cmp=some ((x':Int),s')/\(x'=x - 1\/x'=x\/x'=x + 1):=by
 have hsz:=hd.1
 obtain⟨p,s1,h1,k1⟩:=R7 hc hd (x:=x - 1) (y:=x) (z:=x + 1) (by omega) (by omega) hx s
 unfold Cs
 rw [Wm (by omega) h0,Wp (by omega),h1,aAf]
 exact⟨p,s1,rfl,k1⟩
theorem W2 (p:Nat) (s:Int):∃ h:Int,A6.j2 (p:Int) s=some ((p:Int),h):=by
 unfold A6.j2
 cases decide (s=0) with
 | true=>exact⟨_,rfl⟩
 | false=>
  cases decide (s=12) with
  | true=>exact⟨_,rfl⟩
  | false=>exact⟨_,rfl⟩
theorem U4 (hc:Bp cmp lt P) {d:Array Aa} (hd:A8 P d) {a b:Nat} (h8:8<=b - a) (hb:b<=d.size) :
  ∃ (p:Nat) (h:Int),A6 d.toList (a:Int) (b:Int) cmp=some ((p:Int),h)/\a<=p/\p < b:=by
 have hsz:=hd.1
 have j1:∀ (i j k:Nat) (s:Int),a<=i->i < b->a<=j->j < b->a<=k->k < b->∃ (p:Nat) (h:Int),A6.j1 d.toList cmp (i:Int) (j:Int) (k:Int) s=some ((p:Int),h)/\a<=p/\p < b:=fun i j k s h1 h2 h3 h4 h5 h6=>by
  obtain⟨p,s1,k1,k2⟩:=R7 hc hd (x:=i) (y:=j) (z:=k) (by omega) (by omega) (by omega) s
  unfold A6.j1
  rw [k1,aAf]
  obtain⟨h,hh⟩:=W2 p s1
  exact⟨p,h,hh,by omega,by omega⟩
 unfold A6
 rw [Wd (by omega) (by omega),xX (by omega),aAf,aAf,aAf,aAv (by omega),aEn]
 generalize hq:(b - a) / 4=q
 rw [Wq1 (by omega) (by omega),Wq2 (by omega) (by omega),Wq3 (by omega) (by omega)]
 by_cases h50:50<=b - a
 ·rw [aAv (by omega),aEn]
  obtain⟨x1,s1,g1,k1⟩:=Mi hc hd (x:=a + q) (by omega) (by omega) 0
  rw [g1,aAf]
  obtain⟨x2,s2,g2,k2⟩:=Mi hc hd (x:=a + q * 2) (by omega) (by omega) s1
  simp only []
  rw [g2,aAf]
  obtain⟨x3,s3,g3,k3⟩:=Mi hc hd (x:=a + q * 3) (by omega) (by omega) s2
  simp only []
  rw [g3,aAf]
  exact j1 x1 x2 x3 s3 (by omega) (by omega) (by omega) (by omega) (by omega) (by omega)
 ·rw [aAy (by omega),aDk]
  exact j1 (a + q) (a + q * 2) (a + q * 3) 0 (by omega) (by omega) (by omega) (by omega) (by omega) (by omega)
end
end
section
open Go Go.Sort
section
variable {cmp:Aa->Aa->Option Int} {lt:Aa->Aa->Bool} {P:Aa->Prop}
def Q0 (lt:Aa->Aa->Bool) (P:Aa->Prop) (Fin:Array Aa->Prop) (s:Int×Int×Int×Bool×Bool×List Aa):Prop:=
 ∃ (d:Array Aa) (a b:Nat),s.1=(a:Int)/\s.2.1=(b:Int)/\s.2.2.2.2.2=d.toList/\a<=b/\b<=d.size/\d.size < 65536/\A8 P d/\Below lt a b d/\∀ R,PermIn a b d R->SortedIn lt a b R->Fin R
def Hp (lt:Aa->Aa->Bool) (P:Aa->Prop) (rec:List Aa->Int->Int->Int->Option (List Aa)) (n:Nat):Prop:=
 ∀ (d:Array Aa) (a b:Nat) (lim:Int),a<=b->b<=d.size->d.size < 65536->A8 P d->Below lt a b d->b - a < n->Ok (rec d.toList (a:Int) (b:Int) lim) (fun r=>∃ d',r=d'.toList/\PermIn a b d d'/\SortedIn lt a b d')
abbrev Jj (lt:Aa->Aa->Bool) (P:Aa->Prop) (Fin:Array Aa->Prop) (n:Nat):Lp (Int×Int×Int×Bool×Bool×List Aa) (List Aa)->Prop:=
 pY (fun s=>Q0 lt P Fin s/\(s.2.1 - s.1).toNat < n) (fun r=>∃ d',r=d'.toList/\Fin d')
variable {Fin:Array Aa->Prop} {rec:List Aa->Int->Int->Int->Option (List Aa)}
theorem Pq (hS:SWO lt) (hc:Bp cmp lt P) {a b pivot:Nat} {d:Array Aa} {wb wp:Bool} {lim:Int} {x:Bool} (hr:Hp lt P rec (b - a)) (hab:a < b) (hp1:a<=pivot) (hp2:pivot < b) (hb:b<=d.size) (hs:d.size < 65536) (hd:A8 P d) (hB:Below lt a b d) (hF:∀ R,PermIn a b d R->SortedIn lt a b R->Fin R) (hx:x=true->0 < a/\lt d[a - 1]! d[pivot]! = false) :
  Ok (Aj.j6 rec cmp (a:Int) (b:Int) wb wp lim (pivot:Int) d.toList x) (Jj lt P Fin (b - a)):=by
 unfold Aj.j6
 refine Ok.cond (fun hxt=>?_) (fun _=>?_)
 ·obtain⟨h0,h1⟩:=hx hxt
  rw [Yu hc hab hp1 hp2 hb hd,aAf]
  obtain⟨g1,g2,g3,g4,g5⟩:=round_eq (d4:=(partitionEqual lt d a b pivot).2) (mid:=(partitionEqual lt d a b pivot).1) hS (partitionEqual_holds lt) h0 hp1 hp2 hb hB h1 rfl
  have hge:∀ i,a<=i->i < b->lt d[i]! d[pivot]! = false:=fun i hi hi'=>by
   rcases hB with h0 | hB
   ·omega
   ·exact hS.ntrans _ _ _ (hB i hi hi') h1
  have hpm:=(partitionEqual_holds lt hS d a b pivot hp1 hp2 hb hge).2.2.1
  generalize (partitionEqual lt d a b pivot).2=d4 at g3 g4 g5 hpm ⊢
  generalize (partitionEqual lt d a b pivot).1=mid at g1 g2 g4 g5 ⊢
  refine Ok.ret ⟨⟨d4,mid,b,rfl,rfl,rfl,g2,by omega,by omega,hd.perm hb hpm,g4,fun R h2 h3=>?_⟩,?_⟩
  ·obtain⟨k1,k2⟩:=g5 R h2 h3
   exact hF R k1 k2
  ·show (((b:Int)) - (mid:Int)).toNat < b - a
   omega
 ·rw [Xc hc hab hp1 hp2 hb hd,aAf]
  obtain⟨g1,g2,g3,g4,g5,g6,g7⟩:=round_part (d4:=(partition lt d a b pivot).2.2) (mid:=(partition lt d a b pivot).1) (ap:=(partition lt d a b pivot).2.1) hS (partition_holds lt) hp1 hp2 hb hB rfl
  have hpm:=(partition_holds lt hS d a b pivot hp1 hp2 hb).2.2.1
  generalize (partition lt d a b pivot).2.2=d4 at g3 g4 g5 g6 g7 hpm ⊢
  generalize (partition lt d a b pivot).2.1=ap
  generalize (partition lt d a b pivot).1=mid at g1 g2 g4 g5 g6 g7 ⊢
  have hd4:=hd.perm hb hpm
  simp only []
  rw [Wd (m:=b) (n:=a) (by omega) (by omega),aF3 (by omega),aAf,Wd (m:=mid) (n:=a) (by omega) (by omega),Wd (m:=b) (n:=mid) (by omega) (by omega),Wp (by omega)]
  refine Ok.cond (fun hm=>?_) (fun hm=>?_)
  ·have hm':=aBs hm
   refine Ok.bind (hr d4 a mid lim g1 (by omega) (by omega) hd4 g4 (by omega)) (fun r hr'=>?_)
   obtain⟨L,rfl,l1,l2⟩:=hr'
   obtain⟨k1,k2⟩:=g6 L l1 l2
   have hz:=l1.1
   refine Ok.ret ⟨⟨L,mid + 1,b,rfl,rfl,rfl,by omega,by omega,by omega,hd4.perm (by omega) l1,k1,fun R h2 h3=>?_⟩,?_⟩
   ·obtain⟨m1,m2⟩:=k2 R h2 h3
    exact hF R m1 m2
   ·show (((b:Int)) - ((mid + 1:Nat):Int)).toNat < b - a
    omega
  ·have hm':=aDm hm
   refine Ok.bind (hr d4 (mid + 1) b lim (by omega) (by omega) (by omega) hd4 g5 (by omega)) (fun r hr'=>?_)
   obtain⟨L,rfl,l1,l2⟩:=hr'
   obtain⟨k1,k2⟩:=g7 L l1 l2
   have hz:=l1.1
   refine Ok.ret ⟨⟨L,a,mid,rfl,rfl,rfl,by omega,by omega,by omega,hd4.perm (by omega) l1,k1,fun R h2 h3=>?_⟩,?_⟩
   ·obtain⟨m1,m2⟩:=k2 R h2 h3
    exact hF R m1 m2
   ·show (((mid:Int)) - (a:Int)).toNat < b - a
    omega
theorem Ox (hS:SWO lt) (hc:Bp cmp lt P) {a b pivot:Nat} {d:Array Aa} {wb wp:Bool} {lim:Int} (hr:Hp lt P rec (b - a)) (hab:a < b) (hp1:a<=pivot) (hp2:pivot < b) (hb:b<=d.size) (hs:d.size < 65536) (hd:A8 P d) (hB:Below lt a b d) (hF:∀ R,PermIn a b d R->SortedIn lt a b R->Fin R) :
  Ok (Aj.j5 rec cmp (a:Int) (b:Int) wb wp lim (pivot:Int) d.toList) (Jj lt P Fin (b - a)):=by
 unfold Aj.j5
 refine Ok.cond (fun ha=>?_) (fun _=>Pq hS hc hr hab hp1 hp2 hb hs hd hB hF (fun h=>by cases h))
 have ha':=aBs ha
 rw [Wm (by omega) (by omega)]
 obtain⟨n,n1,n2⟩:=G5 hc hd (i:=a - 1) (j:=pivot) (by omega) (by omega)
 rw [Cy (i:=a - 1) (by omega) rfl,aAf,Cy (i:=pivot) (by omega) rfl,aAf,n1,aAf,n2]
 refine Pq hS hc hr hab hp1 hp2 hb hs hd hB hF (fun h=>⟨by omega,?_⟩)
 cases hl:lt d[a - 1]! d[pivot]! with
 | false=>rfl
 | true=>rw [hl] at h; cases h
theorem Li (hS:SWO lt) (hc:Bp cmp lt P) {a b pivot:Nat} {d:Array Aa} {wb wp:Bool} {lim:Int} {x:Bool} (hr:Hp lt P rec (b - a)) (hab:a < b) (hp1:a<=pivot) (hp2:pivot < b) (hb:b<=d.size) (hs:d.size < 65536) (hd:A8 P d) (hB:Below lt a b d) (hF:∀ R,PermIn a b d R->SortedIn lt a b R->Fin R) :
  Ok (Aj.j4 rec cmp (a:Int) (b:Int) wb wp lim (pivot:Int) d.toList x) (Jj lt P Fin (b - a)):=by
 unfold Aj.j4
 refine Ok.cond (fun _=>?_) (fun _=>Ox hS hc hr hab hp1 hp2 hb hs hd hB hF)
 rw [Ui hc hab hb hd,aAf]
 obtain⟨k1,k2⟩:=partialInsertionSort_holds hS d a b hab hb hB
 generalize partialInsertionSort lt d a b=pi at k1 k2 ⊢
 have hz:pi.1.size=d.size:=k1.1
 have hb':b<=pi.1.size:=by omega
 have hs':pi.1.size < 65536:=by omega
 refine Ok.cond (fun h=>?_) (fun _=>Ox (d:=pi.1) hS hc hr hab hp1 hp2 hb' hs' (hd.perm hb k1) (hB.perm hb k1) (fun R h2 h3=>hF R (permIn_trans _ _ _ a b k1 h2) h3))
 exact Ok.up (Ok.ret ⟨_,rfl,hF _ k1 (k2 h)⟩)
theorem Ph (hS:SWO lt) (hc:Bp cmp lt P) {a b pivot:Nat} {d:Array Aa} {wb wp:Bool} {lim hint:Int} (hr:Hp lt P rec (b - a)) (hab:a < b) (hp1:a<=pivot) (hp2:pivot < b) (hb:b<=d.size) (hs:d.size < 65536) (hd:A8 P d) (hB:Below lt a b d) (hF:∀ R,PermIn a b d R->SortedIn lt a b R->Fin R) :
  Ok (Aj.j3 rec cmp (a:Int) (b:Int) wb wp lim (pivot:Int) hint d.toList) (Jj lt P Fin (b - a)):=by
 unfold Aj.j3
 exact Ok.cond (fun _=>Ok.cond (fun _=>Li hS hc hr hab hp1 hp2 hb hs hd hB hF) (fun _=>Li hS hc hr hab hp1 hp2 hb hs hd hB hF)) (fun _=>Li hS hc hr hab hp1 hp2 hb hs hd hB hF)
theorem O2 (hS:SWO lt) (hc:Bp cmp lt P) {a b:Nat} {d:Array Aa} {wb wp:Bool} {lim:Int} (hr:Hp lt P rec (b - a)) (h12:12 < b - a) (hb:b<=d.size) (hs:d.size < 65536) (hd:A8 P d) (hB:Below lt a b d) (hF:∀ R,PermIn a b d R->SortedIn lt a b R->Fin R) :
  Ok (Aj.j2 rec cmp (a:Int) (b:Int) wb wp lim d.toList) (Jj lt P Fin (b - a)):=by
 obtain⟨p,h,h1,h2,h3⟩:=U4 hc hd (a:=a) (b:=b) (by omega) hb
 unfold Aj.j2
 rw [h1,aAf]
 refine Ok.cond (fun _=>?_) (fun _=>Ph hS hc hr (by omega) h2 h3 hb hs hd hB hF)
 rw [Uh (by omega) hb (by omega),aAf]
 have k1:=reverseRange_holds d a b (by omega) hb
 generalize reverseRange d a b=d2 at k1 ⊢
 have hz:=k1.1
 have e:W (W ((b:Int) - 1) - W ((p:Int) - (a:Int)))=((b - 1 - (p - a):Nat):Int):=by
  rw [Wm (by omega) (by omega),Wd (by omega) (by omega),Wd (by omega) (by omega)]
 simp only []
 rw [e]
 clear e
 exact Ph hS hc hr (by omega) (by omega) (by omega) (by omega) (by omega) (hd.perm hb k1) (hB.perm hb k1) (fun R h2 h3=>hF R (permIn_trans _ _ _ a b k1 h2) h3)
theorem U2 (hS:SWO lt) (hc:Bp cmp lt P) {a b:Nat} {d:Array Aa} {wb wp:Bool} {lim:Int} (hr:Hp lt P rec (b - a)) (hab:a<=b) (hb:b<=d.size) (hs:d.size < 65536) (hd:A8 P d) (hB:Below lt a b d) (hF:∀ R,PermIn a b d R->SortedIn lt a b R->Fin R) :
  Ok (Aj.l1 rec cmp (a:Int) (b:Int) lim wb wp d.toList) (Jj lt P Fin (b - a)):=by
 unfold Aj.l1
 rw [Wd (by omega) hab]
 refine Ok.cond (fun _=>?_) (fun h12=>?_)
 ·rw [So hc hab hb hd,aAf]
  obtain⟨k1,k2⟩:=insertionSort_holds hS d a b hab hb
  exact Ok.up (Ok.ret ⟨_,rfl,hF _ k1 k2⟩)
 ·have h12':=aDm h12
  refine Ok.cond (fun _=>?_) (fun _=>?_)
  ·rw [Xj hc (by omega) hb hd,aAf]
   obtain⟨k1,k2⟩:=heapSort_holds hS d a b hab hb
   exact Ok.up (Ok.ret ⟨_,rfl,hF _ k1 k2⟩)
  ·refine Ok.cond (fun _=>?_) (fun _=>O2 hS hc hr (by omega) hb hs hd hB hF)
   obtain⟨d1,k0,k1⟩:=Wh (cmp:=cmp) (a:=a) (b:=b) (d:=d) (by omega) hb hs
   have hz:=k1.1
   rw [k0,aAf]
   exact O2 hS hc hr (by omega) (by omega) (by omega) (hd.perm hb k1) (hB.perm hb k1) (fun R h2 h3=>hF R (permIn_trans _ _ _ a b k1 h2) h3)
theorem Yt (hS:SWO lt) (hc:Bp cmp lt P) {a b:Nat} {d:Array Aa} {lim:Int} (hab:a<=b) (hb:b<=d.size) (hs:d.size < 65536) (hd:A8 P d) (hB:Below lt a b d) :
  Ok (Aj d.toList (a:Int) (b:Int) lim cmp) (fun r=>∃ d',r=d'.toList/\PermIn a b d d'/\SortedIn lt a b d'):=by
 unfold Aj
 refine (zF (Km (cmp:=cmp)) (fun x=>(x.2.2.1 - x.2.1).toNat)
  (fun x=>∃ (d:Array Aa) (a b:Nat),x.1=d.toList/\x.2.1=(a:Int)/\x.2.2.1=(b:Int)/\a<=b/\b<=d.size/\d.size < 65536/\A8 P d/\Below lt a b d)
  (fun x r=>∀ (d:Array Aa) (a b:Nat),x.1=d.toList->x.2.1=(a:Int)->x.2.2.1=(b:Int)->∃ d',r=d'.toList/\PermIn a b d d'/\SortedIn lt a b d') ?_ _ ⟨d,a,b,rfl,rfl,rfl,hab,hb,hs,hd,hB⟩).mono (fun r hr=>hr d a b rfl rfl rfl)
 rintro rec ⟨l,a',b',lim'⟩ ⟨d,a,b,h1,h2,h3,hab,hb,hs,hd,hB⟩ ih
 have h1:l=d.toList:=h1
 have h2:a'=(a:Int):=h2
 have h3:b'=(b:Int):=h3
 subst h1 h2 h3
 have hr:Hp lt P (fun data a b limit=>rec (data,a,b,limit)) (b - a):=fun d2 a2 b2 lim2 k1 k2 k3 k4 k5 k6=>
  (ih (d2.toList,(a2:Int),(b2:Int),lim2) ⟨d2,a2,b2,rfl,rfl,rfl,k1,k2,k3,k4,k5⟩ (by show (((b2:Int)) - (a2:Int)).toNat < (((b:Int)) - (a:Int)).toNat; omega)).mono (fun r hr=>hr d2 a2 b2 rfl rfl rfl)
 have main:Ok (Aj.F (fun data a b limit=>rec (data,a,b,limit)) d.toList (a:Int) (b:Int) lim' cmp) (fun r=>∃ d',r=d'.toList/\(PermIn a b d d'/\SortedIn lt a b d')):=by
  unfold Aj.F
  refine Ok.loop (fun s=>Q0 lt P (fun R=>PermIn a b d R/\SortedIn lt a b R) s/\(s.2.1 - s.1).toNat<=b - a) (fun s=>(s.2.1 - s.1).toNat) ?_ ⟨⟨d,a,b,rfl,rfl,rfl,hab,hb,hs,hd,hB,fun R h1 h2=>⟨h1,h2⟩⟩,?_⟩
  ·rintro⟨sa,sb,sl,wb,wp,dl⟩ ⟨⟨d3,a3,b3,e1,e2,e3,k1,k2,k3,k4,k5,k6⟩,hm⟩
   have e1:sa=(a3:Int):=e1
   have e2:sb=(b3:Int):=e2
   have e3:dl=d3.toList:=e3
   subst e1 e2 e3
   have hm:(((b3:Int)) - (a3:Int)).toNat<=b - a:=hm
   refine (U2 hS hc (fun d2 a2 b2 lim2 q1 q2 q3 q4 q5 q6=>hr d2 a2 b2 lim2 q1 q2 q3 q4 q5 (by omega)) k1 k2 k3 k4 k5 k6).mono (fun o ho=>?_)
   have em:(((b3:Int)) - (a3:Int)).toNat=b3 - a3:=by omega
   cases o with
   | done r=>exact ho
   | next s=>
    obtain⟨ho1,ho2⟩:=ho
    refine⟨⟨ho1,by omega⟩,?_⟩
    show (s.2.1 - s.1).toNat < (((b3:Int)) - (a3:Int)).toNat
    omega
  ·show (((b:Int)) - (a:Int)).toNat<=b - a
   omega
 refine main.mono (fun r hr d2 a2 b2 e1 e2 e3=>?_)
 have e1:d.toList=d2.toList:=e1
 have e2:(a:Int)=(a2:Int):=e2
 have e3:(b:Int)=(b2:Int):=e3
 obtain rfl:d=d2:=aKy.1 e1
 obtain rfl:a=a2:=by omega
 obtain rfl:b=b2:=by omega
 exact hr
theorem Vv (hS:SWO lt) (hc:Bp cmp lt P) (l:List Aa) (hl:l.length < 65536) (hP:∀ x∈l,P x) :
  Ok (Ec l cmp) (fun r=>r.Perm l/\r.Pairwise (fun x y=>lt y x=false)):=by
 obtain⟨L,_,_,_,h4⟩:=vC l.length hl
 unfold Ec
 rw [S6 (by omega),h4,aAf]
 have hsz:l.toArray.size=l.length:=by simp
 have hA:A8 P l.toArray:=⟨by omega,fun i hi=>by
  rw [aKo l.toArray i hi]
  exact hP _ (by simp)⟩
 have h:=Yt hS hc (a:=0) (b:=l.toArray.size) (d:=l.toArray) (lim:=(L:Int)) (aI3 _) (aHl _) (by omega) hA (Or.inl rfl)
 rw [hsz] at h
 have e:((0:Nat):Int)=0:=rfl
 rw [e] at h
 refine Ok.bind h (fun r hr=>?_)
 obtain⟨d',rfl,k1,k2⟩:=hr
 have hz:=k1.1
 refine Ok.ret ⟨?_,?_⟩
 ·have:=k1.2.2
  have e1:d'.extract 0 l.length=d':=by
   rw [<- hsz,<- hz]; exact Array.extract_size
  have e2:l.toArray.extract 0 l.length=l.toArray:=by
   rw [<- hsz]; exact Array.extract_size
  rw [e1,e2] at this
  exact this
 ·rw [aJ9]
  intro i j hi hj hij
  have hi':i < d'.size:=by simpa using hi
  have hj':j < d'.size:=by simpa using hj
  have:=k2 i j (aI3 _) hij (by omega)
  rw [aKo d' i hi',aKo d' j hj'] at this
  simpa using this
def Jv:Nat:=65535
theorem Wj (hS:SWO lt) (hc:Bp cmp lt P) (l:List Aa) (hl:l.length<=Jv) (hP:∀ x∈l,P x) :
  Ok (Ec l cmp) (fun r=>r.Perm l/\r.Pairwise (fun x y=>lt y x=false)):=Vv hS hc l (by unfold Jv at hl; omega) hP
end
end
end Go.Proofs.YtkoflhimdenjaaaGreat
