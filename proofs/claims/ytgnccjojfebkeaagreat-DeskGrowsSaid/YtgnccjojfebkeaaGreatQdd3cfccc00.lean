/- Desks in boxes of a frame. -/
import Derived.Test.YtgnccjojfebkeaaGreatQeaca64021a
import Derived.Test.YtgnccjojfebkeaaGreatQe1b3bbb0d1
import Derived.Test.YtgnccjojfebkeaaGreatQb3a614442e
import Derived.Test.YtgnccjojfebkeaaGreatQdb962effe0
import Derived.Test.YtgnccjojfebkeaaGreatQb7e6ad5cd9
import Derived.Test.YtgnccjojfebkeaaGreatQb8af4df662
import Derived.Test.YtgnccjojfebkeaaGreatQbba74dd308
set_option linter.unusedVariables false
set_option linter.unusedSimpArgs false
set_option maxRecDepth 100000
namespace Go.Proofs.YtgnccjojfebkeaaGreat
open Go Go.RowKit Go.BigFrame Cp
theorem Veq {F:Nat→Prop} {w:World} {s c:Int} {va vg vs vw vo:Value} {d:Dk} (h:RDk F w [.int .i64 s,va,vg,vs,vw,.int .i64 c,vo] d):
  RSl RAt 3 F w va d.state.1∧RSl RMk 2 F w vg d.state.2∧RSl Qe1 1 F w vs d.seen∧RSl RNo 4 F w vw d.waits∧RSl RNo 4 F w vo d.out:=by
 obtain⟨_,_,_,_,_,he,_,h1,h2,h3,h4,_,h5⟩:=h;injection he with _ he
 injection he with e1 he
 injection he with e2 he
 injection he with e3 he
 injection he with e4 he
 injection he with _ he
 injection he with e5 _
 subst e1 e2 e3 e4 e5;exact⟨h1,h2,h3,h4,h5⟩
structure DkAt (F:Nat→Prop) (b:Nat) (d:Dk) (w:World) (va vg vs vw vo:Value):Prop where
 c0:w.cell? ⟨b,0,none⟩=some (.int .i64 d.site)
 c1:w.cell? ⟨b,1,none⟩=some (va)
 c2:w.cell? ⟨b,2,none⟩=some (vg)
 c3:w.cell? ⟨b,3,none⟩=some (vs)
 c4:w.cell? ⟨b,4,none⟩=some (vw)
 c5:w.cell? ⟨b,5,none⟩=some (.int .i64 d.clock)
 c6:w.cell? ⟨b,6,none⟩=some (vo)
 fz:∀o,w.frozen? ⟨b,o,none⟩=false
 rd:RDk F w [.int .i64 d.site,va,vg,vs,vw,.int .i64 d.clock,vo] d
section
variable {F G:Nat→Prop} {b:Nat} {d:Dk} {w w':World} {va vg vs vw vo:Value}
theorem DkAt.lt (h:DkAt F b d w va vg vs vw vo):b<w.heap.size:=World.block_lt_of_cell? _ _ h.c0
theorem DkAt.ext (h:DkAt F b d w va vg vs vw vo) (hx:Ext w w'):DkAt F b d w' va vg vs vw vo:=
 ⟨(hx.cells _ _ h.lt).trans h.c0,(hx.cells _ _ h.lt).trans h.c1,(hx.cells _ _ h.lt).trans h.c2,(hx.cells _ _ h.lt).trans h.c3,(hx.cells _ _ h.lt).trans h.c4,(hx.cells _ _ h.lt).trans h.c5,(hx.cells _ _ h.lt).trans h.c6,fun o=>(hx.frz _ _ h.lt).trans (h.fz o),gDk.ext h.rd hx⟩
theorem DkAt.read (h:DkAt F b d w va vg vs vw vo):RDk (fun _=>True) w [.int .i64 d.site,va,vg,vs,vw,.int .i64 d.clock,vo] d:=gDk.more (fun _ _ _=>trivial) h.rd
theorem DkAt.parts (h:DkAt F b d w va vg vs vw vo):RSl RAt 3 (fun _=>True) w va d.state.1∧RSl RMk 2 (fun _=>True) w vg d.state.2∧RSl Qe1 1 (fun _=>True) w vs d.seen∧RSl RNo 4 (fun _=>True) w vw d.waits∧RSl RNo 4 (fun _=>True) w vo d.out:=Veq h.read
end
end Go.Proofs.YtgnccjojfebkeaaGreat
