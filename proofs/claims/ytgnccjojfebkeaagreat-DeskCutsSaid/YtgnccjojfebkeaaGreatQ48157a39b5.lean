/- Desks, plain: what grows; one note where none waits; a desk that pulls all; two that tell each other; what is typed and cut. -/
import Derived.Test.YtgnccjojfebkeaaGreatQ05c48fb51f
import Derived.Test.YtgnccjojfebkeaaGreatQa70fadfe36
import Derived.Test.YtgnccjojfebkeaaGreatQ7826b3be5b
import Derived.Test.YtgnccjojfebkeaaGreatQ721193eec0
import Derived.Test.YtgnccjojfebkeaaGreatQfabe90118a
set_option linter.unusedVariables false
set_option linter.unusedSimpArgs false
set_option maxRecDepth 100000
namespace Go.Proofs.YtgnccjojfebkeaaGreat
open Go Cp
theorem Veh {s:St} {l:List De} (hs:Qpy s) (hl:∀d∈l,Qat d=0) (h:Qfc s l=none):Qne s l=2:=by
 unfold Qne;rw[if_neg (by simpa using checkS_fit.2 hs),if_neg (by simpa using checkDL_ok.2 hl),if_pos h]
def Ved (d:Dk) (a n:Int):Int:=
 if Qaq d≠0 then Qaq d else if Qs2 d.state a n≠0 then Qs2 d.state a n else if Qnh d.state a n≠[]∧(Qfc d.state (Qnh d.state a n)=none∨20<(Qnh d.state a n).length∨atI d.seen d.site.toNat=500) then 2 else 0
theorem Vei {d:Dk} {a n:Int}:Q5n d a n=Ved d a n:=by
 by_cases h1:Qaq d=0
 ·have hr:=checkK_ok.1 h1;have e1:Q5n d a n=if Qhh (d,[]) a n≠0 then Qhh (d,[]) a n else Qgq (Qhi (d,[]) a n):=by
   unfold Q5n Qd2;rw[if_neg (by simpa using h1)]
  have e2:Qhh (d,[]) a n=doE (d,[]) (Qs2 d.state a n) (Qnh d.state a n):=rfl;have w1:Ved d a n=if Qs2 d.state a n≠0 then Qs2 d.state a n else if Qnh d.state a n≠[]∧(Qfc d.state (Qnh d.state a n)=none∨20<(Qnh d.state a n).length∨atI d.seen d.site.toNat=500) then 2 else 0:=by
   unfold Ved;rw[if_neg (by simpa using h1)]
  by_cases h3:Qs2 d.state a n=0
  ·have e3:Qhh (d,[]) a n=Qne d.state (Qnh d.state a n):=by rw[e2];unfold doE;rw[if_neg (by simpa using h3)]
   rw[if_neg (by simpa using h3)] at w1;have hd:=Qpm h3;have e4:Qgq (Qhi (d,[]) a n)=if Qnh d.state a n=[] then 0 else if 20<(Qnh d.state a n).length∨500<atI d.seen d.site.toNat+1 then 2 else 0:=rfl
   have hs5:=((checkI_iff.1 hr.seen).2 _ (Q7g hr.site)).2;by_cases h4:Qnh d.state a n=[]
   ·have e5:Qne d.state (Qnh d.state a n)=0:=(Q72 hr.state hd (t:=d.state) (by rw[h4];rfl)).1;rw[e1,w1,e3,e5,if_neg dC,e4,if_pos h4,if_neg (by rintro⟨h,_⟩;exact h h4)]
   ·cases h5:Qfc d.state (Qnh d.state a n) with
    |none=>
     have e5:=Veh hr.state hd h5;rw[e1,w1,e3,e5,if_pos dC,if_pos ⟨h4,.inl h5⟩]
    |some t=>
     have e5:=(Q72 hr.state hd h5).1;rw[e1,w1,e3,e5,if_neg dC,e4,if_neg h4];by_cases h6:20<(Qnh d.state a n).length∨500<atI d.seen d.site.toNat+1
     ·rw[if_pos h6,if_pos ⟨h4,h6.elim (fun h=> .inr (.inl h)) (fun h=> .inr (.inr oM))⟩]
     ·rw[if_neg h6,if_neg (by rintro⟨_,h|h|h⟩;rw[h5] at h;cases h;exact h6 (.inl h);exact h6 (.inr oM))]
  ·have e3:Qhh (d,[]) a n=Qs2 d.state a n:=by rw[e2];unfold doE;rw[if_pos h3]
   rw[e1,w1,e3,if_pos h3,if_pos h3]
 ·have e1:Q5n d a n=Qaq d:=by unfold Q5n Qd2;rw[if_pos h1]
  have w1:Ved d a n=Qaq d:=by unfold Ved;rw[if_pos h1]
  rw[e1,w1]
theorem Vej {d:Dk} {a n:Int} (h:Q5n d a n=0):RightK d∧Qs2 d.state a n=0∧((Qnh d.state a n=[]∧Q5o d a n=d)∨(Qnh d.state a n≠[]∧∃s,Qfc d.state (Qnh d.state a n)=some s∧Q5o d a n=Qu6 d (Qnh d.state a n) s 0∧RightK (Q5o d a n))):=by
 obtain⟨h1,h2,h3⟩:=Qu3 h;obtain⟨hc,ha⟩:=Q10 (show doE (d,[]) (Qs2 d.state a n) (Qnh d.state a n)=0 from h2);have hv:Q5o d a n=Qnb (Qhi (d,[]) a n):=by
  have h':Qd2 d (Qhh (d,[]) a n) (Qhi (d,[]) a n)=0:=h;unfold Q5o Qhg;rw[if_pos h']
 have h2':(Qhi (d,[]) a n).2=Qnh d.state a n:=rfl;have h1':(Qhi (d,[]) a n).1={d with state:=Qrn d.state (Qnh d.state a n)}:=rfl;refine⟨h1,hc,?_⟩;by_cases h4:Qnh d.state a n=[]
 ·left
  refine⟨h4,?_⟩;rw[hv];unfold Qnb;rw[h2',if_pos h4,h1',(Q72 h1.state (Qpm hc) (t:=d.state) (by rw[h4];rfl)).2]
 ·right
  have hdo:=Q71 (show Qne d.state (Qnh d.state a n)=0 from ha);refine⟨h4,_,hdo,?_,Vee h⟩;rw[hv];unfold Qnb Qu6;rw[h2',if_neg h4,h1',Int.add_zero];rfl
end Go.Proofs.YtgnccjojfebkeaaGreat
