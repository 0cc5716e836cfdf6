import Derived.Test.YtchpcpaacenodaaGreatF5
import Derived.Test.YtchpcpaacenodaaGreatE4
import Derived.Test.YtchpcpaacenodaaGreatT1
import Derived.Test.YtchpcpaacenodaaGreatOW
set_option autoImplicit false
set_option linter.unusedVariables false
set_option linter.unusedSimpArgs false
namespace Go.Proofs.YtchpcpaacenodaaGreat
open Go
theorem aCi {d:Ac} (hd:Lj d):Ok (Ei d) (fun y=>Kf y.1/\Lj y.2):=by
 unfold Ei
 refine Ok.bind (Sz hd) fun y hy=>?_
 obtain⟨f,d1⟩:=y
 obtain⟨⟨-,hf⟩,hd1⟩:=hy
 have hf:Kf f:=hf
 refine Ok.bind (Fq hd1 _ (by omega) (by omega)) fun y2 h2=>?_
 have fin:∀ d' g,Lj d'->Kf g->Ok (Ei.j1 d' g) (fun y=>Kf y.1/\Lj y.2):=fun d' g h1 h2=>Ok.ret ⟨h2,h1⟩
 have wrd:∀ {s:ByteArray} {l:List ByteArray},s∈l->(l.all fun s=>decide (s.size<=1000))=true->s.size<=9223372036854775807:=fun h1 h2=>by
  have:=aCl (aGf.1 h2 _ h1)
  omega
 refine Ok.cond (fun _=>Ok.bind (Iw h2.2 _ (by decide) (by decide)) fun y3 h3=>fin _ _ h3.2 ⟨hf.host,hf.subj,hf.text⟩) (fun _=>?_)
 refine Ok.cond (fun _=>Ok.bind (Uy h2.2 _ (by decide) (by decide)) fun y3 h3=>fin _ _ h3.2 ⟨wrd h3.1 (by decide),hf.subj,hf.text⟩) (fun _=>?_)
 refine Ok.cond (fun _=>Ok.bind (Iw h2.2 _ (by decide) (by decide)) fun y3 h3=>fin _ _ h3.2 ⟨hf.host,hf.subj,hf.text⟩) (fun _=>?_)
 refine Ok.cond (fun _=>Ok.bind (Iw h2.2 _ (by decide) (by decide)) fun y3 h3=>fin _ _ h3.2 ⟨hf.host,hf.subj,hf.text⟩) (fun _=>?_)
 refine Ok.cond (fun _=>Ok.bind (Iw h2.2 _ (by decide) (by decide)) fun y3 h3=>fin _ _ h3.2 ⟨hf.host,hf.subj,hf.text⟩) (fun _=>?_)
 refine Ok.cond (fun _=>Ok.bind (Iw h2.2 _ (by decide) (by decide)) fun y3 h3=>fin _ _ h3.2 ⟨hf.host,hf.subj,hf.text⟩) (fun _=>?_)
 refine Ok.cond (fun _=>fin _ _ h2.2 ⟨hf.host,by show (⟨#[]⟩:ByteArray).size<=_; decide,hf.text⟩) (fun _=>?_)
 refine Ok.cond (fun _=>Ok.bind (Iw h2.2 _ (by decide) (by decide)) fun y3 h3=>Ok.bind (Iw h3.2 _ (by decide) (by decide)) fun y4 h4=>fin _ _ h4.2 ⟨hf.host,hf.subj,hf.text⟩) (fun _=>?_)
 refine Ok.cond (fun _=>Ok.bind (Iw h2.2 _ (by decide) (by decide)) fun y3 h3=>fin _ _ h3.2 ⟨hf.host,hf.subj,hf.text⟩) (fun _=>?_)
 refine Ok.cond (fun _=>Ok.bind (Uy h2.2 _ (by decide) (by decide)) fun y3 h3=>fin _ _ h3.2 ⟨hf.host,hf.subj,wrd h3.1 (by decide)⟩) (fun _=>?_)
 exact fin _ _ h2.2 hf
end Go.Proofs.YtchpcpaacenodaaGreat
