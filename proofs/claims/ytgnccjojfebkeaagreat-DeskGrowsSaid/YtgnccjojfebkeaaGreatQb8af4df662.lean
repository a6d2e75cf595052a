/- Desks, plain: what grows; one note where none waits; a desk that pulls all; two that tell each other; what is typed and cut. -/
import Derived.Test.YtgnccjojfebkeaaGreatQ05c48fb51f
import Derived.Test.YtgnccjojfebkeaaGreatQb7e6ad5cd9
import Derived.Test.YtgnccjojfebkeaaGreatQa70fadfe36
import Derived.Test.YtgnccjojfebkeaaGreatQ7826b3be5b
import Derived.Test.YtgnccjojfebkeaaGreatQ721193eec0
import Derived.Test.YtgnccjojfebkeaaGreatQe1b3bbb0d1
import Derived.Test.YtgnccjojfebkeaaGreatQb3a614442e
import Derived.Test.YtgnccjojfebkeaaGreatQbba74dd308
set_option linter.unusedVariables false
set_option linter.unusedSimpArgs false
set_option maxRecDepth 100000
namespace Go.Proofs.YtgnccjojfebkeaaGreat
open Go Cp
theorem Ve7 {d:Dk} {n:No} (h:Q3r d n=0):RightK (Van d n)∧(Van d n).site=d.site∧(Van d n).out=d.out∧d.clock≤(Van d n).clock∧Qgh (Van d n).seen d.seen=true∧
  (∀m∈d.state.2,Qc5 (Van d n).state.2 m=true)∧∀y∈d.waits,(y∈(Van d n).waits∧¬y.number≤atI (Van d n).seen y.site.toNat)∨(y.number≤atI (Van d n).seen y.site.toNat∧∀z∈(Van d n).waits,Qdz z y≠0):=by
 obtain⟨hd,hn,hE,hv⟩:=Vff h;obtain⟨xs,acc⟩:=Ve6 hd (Vey hd) hn hE (fun m hm=>by simp at hm);rw[hv];refine⟨acc.right,acc.site,acc.out,((acc.clock _).1 (Int.le_refl _)).1,Qze.2 (fun i hi=>acc.lvl.up i hi),fun m hm=> ?_,fun y hy=> ?_⟩
 ·refine hasG_iff.2 ((Q1z hd.state (fun z hz=> ?_) acc.st).2 (.inl hm));obtain⟨x,h1,h2⟩:=List.mem_flatMap.1 hz;exact(checkN_right.1 (Vec hd acc h1).2).deeds z h2
 ·rcases(acc.pool y).2 (.inl hy) with h1|h1
  ·right
   refine⟨acc.lvl.done y h1,fun z hz e=> ?_⟩;obtain⟨e1,e2⟩:=ordN_zero.1 e;have h2:=(acc.right.waits z hz).2.1;rw[e1,e2] at h2;have:=acc.lvl.done y h1;omega
  ·left
   exact⟨h1,by have:=(acc.right.waits y h1).2.1;omega⟩
end Go.Proofs.YtgnccjojfebkeaaGreat
