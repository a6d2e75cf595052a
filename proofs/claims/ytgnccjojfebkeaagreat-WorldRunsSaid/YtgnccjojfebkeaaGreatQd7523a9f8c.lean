/- A plain edit, by the program and by the reference. -/
import Derived.Test.YtgnccjojfebkeaaGreatQ453a98ae2d
import Derived.Deep.QuietTactic
import Derived.BigQuiet
import Derived.RegionTactic
import Derived.IntWalk
set_option linter.unusedVariables false
set_option linter.unusedSimpArgs false
set_option maxRecDepth 100000
namespace Go.Proofs.YtgnccjojfebkeaaGreat
open Go Go.RowKit Cp
theorem Qww (s:ByteArray):(⟨s.data.toList.toArray⟩:ByteArray)=s:=by cases s;simp
theorem Vb8 (s u:ByteArray) (n:Nat):(s.extract 0 n++u++s.extract n s.size).data.toList=List.take n s.data.toList++u.data.toList++List.drop n s.data.toList:=by
 simp[ByteArray.data_append,ByteArray.data_extract,List.extract_eq_take_drop];exact List.take_of_length_le sI
theorem Vc7 {F:Nat→Prop} {w:World} {a:Option Addr} {n cap:Nat} {q:List Edt} (h:RSl REd 4 F w (.slice a n cap) q) {i:Nat} (hi:i<n):
  ∃b o x tv,a=some ⟨b,o,none⟩∧b<w.heap.size∧q[i]?=some x∧RTx tv x.text∧I64 x.kind∧I64 x.at_∧I64 x.many∧
   w.cell? ⟨b,o+i * 4,none⟩=some (.int .i64 x.kind)∧w.cell? ⟨b,o+i * 4+1,none⟩=some (.int .i64 x.at_)∧w.cell? ⟨b,o+i * 4+2,none⟩=some (.int .i64 x.many)∧w.cell? ⟨b,o+i * 4+3,none⟩=some tv:=by
 obtain⟨b,o,x,cs,e1,e2,e3,_,e4,v,rfl,h1,h2,h3,h4⟩:=h.at_ hi;exact⟨b,o,x,v,e1,e2,e3,h4,h1,h2,h3,by simpa using e4 0 _ rfl,by simpa [Nat.add_assoc] using e4 1 _ rfl,by simpa [Nat.add_assoc] using e4 2 _ rfl,by simpa [Nat.add_assoc] using e4 3 _ rfl⟩
end Go.Proofs.YtgnccjojfebkeaaGreat
