/- What is wrong with a happening. -/
import Derived.Test.YtgnccjojfebkeaaGreatQff6e536ca3
import Derived.Test.YtgnccjojfebkeaaGreatQb497ca1fba
import Derived.Deep.Cut
import Derived.MapKept
import Derived.Laws.Closers25b
import Derived.Test.YtgnccjojfebkeaaGreatQ7635b71608
import Derived.Test.YtgnccjojfebkeaaGreatQ28838248a8
set_option linter.unusedVariables false
set_option linter.unusedSimpArgs false
set_option maxRecDepth 100000
set_option maxHeartbeats 40000000
namespace Go.Proofs.YtgnccjojfebkeaaGreat
open Go Go.RowKit Go.BigFrame Cp
theorem Vk1 {s:ByteArray} (h:s.toList=[]):(s !=⟨#[]⟩)=false:=by
 have e:=(toList_nil_iff_emptyBytes s).1 h;unfold bne;rw[(Go.MapKept.bytes_beq s ⟨#[]⟩).2 e];rfl
theorem Vkc {s:ByteArray} (h:¬s.toList=[]):(s !=⟨#[]⟩)=true:=by
 unfold bne;cases g:(s==(⟨#[]⟩:ByteArray)) with
 |true=>exact absurd ((toList_nil_iff_emptyBytes s).2 ((Go.MapKept.bytes_beq s ⟨#[]⟩).1 g)) h
 |false=>rfl
theorem Vip {n:Nat} {h:Hap} (e:inB h.kind 1 5=false):Vfa n h=7:=by unfold Vfa;rw[if_pos e]
theorem Vju {n:Nat} {h:Hap} (e:inB h.kind 1 5=true) (k:inB h.who 0 ((n:Int)-1)=false):Vfa n h=5:=by unfold Vfa;rw[if_neg (by simp[e]),if_pos k]
theorem Vio {n:Nat} {h:Hap} (e:inB h.kind 1 5=true) (k:inB h.who 0 ((n:Int)-1)=true) (f:Vf8 h=true):Vfa n h=1:=by unfold Vfa;rw[if_neg (by simp[e]),if_neg (by simp[k]),if_pos f]
theorem Vjs {n:Nat} {h:Hap} (e:inB h.kind 1 5=true) (k:inB h.who 0 ((n:Int)-1)=true) (f:Vf8 h=false) (r:inB h.at_ 0 300=false∨inB h.many 0 300=false):Vfa n h=3:=by unfold Vfa;rw[if_neg (by simp[e]),if_neg (by simp[k]),if_neg (by simp[f]),if_pos r]
theorem Vjt {n:Nat} {h:Hap} (e:inB h.kind 1 5=true) (k:inB h.who 0 ((n:Int)-1)=true) (f:Vf8 h=false) (r:inB h.at_ 0 300=true) (q:inB h.many 0 300=true):Vfa n h=if 300<h.text.size then 2 else 0:=by unfold Vfa;rw[if_neg (by simp[e]),if_neg (by simp[k]),if_neg (by simp[f]),if_neg (by simp[r,q])]
theorem Vfi {p:Prop} (h:p:=by
 go_enter Tryz.func136,Tryz.ntmps136;go_wp2_with fail
 go_ret;exact⟨congrArg (fun z:Int=>Ending.returned (Value.int .i64 z)) HE.o.symm,ext_trans HXV.o Qac⟩):p:=h
theorem Vf9 {F:Nat→Prop} {w:World} {v u:Value} {x:Wd} {h:Hap} (hw:RWd F w v u x) (hl:x.clients.length≤5):
  Calls Tryz.prog 136 #[.agg #[v,u],.agg #[.int .i64 h.kind,.int .i64 h.who,.int .i64 h.at_,.int .i64 h.many,.string h.text,.bool h.lost]] w fun e w'=>e= .returned (.int .i64 (Vfa x.clients.length h))∧Ext w w':=by
 obtain⟨av,n0,cv,rfl⟩:=hw.1.slice;obtain⟨a9,n9,c9,rfl⟩:=hw.2.slice;obtain rfl:n0=x.clients.length:=hw.1.len.1;clear hw;have hb:∀{n a b:Int},inB n a b=true↔a≤n∧n≤b:=by intro n a b;unfold inB;simp
 have hn:∀{n a b:Int},inB n a b=false→n<a∨b<n:=by intro n a b e;unfold inB at e;simp at e;omega
 have HXV:=hH (ext_refl w);cases e1:inB h.kind 1 5 with
 |false=>
  have HE:=hH (Vip (n:=x.clients.length) e1);rcases hn e1 with h1|h1
  ·have t1:decide (h.kind<1)=true:=decide_eq_true h1;clear e1 h1 hb hn;exact Vfi
  ·have t1:decide (h.kind<1)=false:=decide_eq_false oM;have t2:decide (5<h.kind)=true:=decide_eq_true h1;clear e1 h1 hb hn;exact Vfi
 |true=>
  have k1:=hb.1 e1;have t1:decide (h.kind<1)=false:=decide_eq_false oM;have t2:decide (5<h.kind)=false:=decide_eq_false oM;cases e2:inB h.who 0 ((x.clients.length:Int)-1) with
  |false=>
   have HE:=hH (Vju e1 e2);rcases hn e2 with h1|h1
   ·have t3:decide (h.who<0)=true:=decide_eq_true h1;clear e1 e2 h1 hb hn k1;exact Vfi
   ·have t3:decide (h.who<0)=false:=decide_eq_false oM;have t4:decide ((x.clients.length:Int)≤h.who)=true:=decide_eq_true oM;clear e1 e2 h1 hb hn k1;exact Vfi
  |true=>
   have k2:=hb.1 e2;have t3:decide (h.who<0)=false:=decide_eq_false oM;have t4:decide ((x.clients.length:Int)≤h.who)=false:=decide_eq_false oM;have HK:=hH (show 1≤h.kind∧h.kind≤5 by unfold inB at e1;simpa using e1);have HE1:=hH (fun f=>Vio (n:=x.clients.length) e1 e2 f);have HE3:=hH (fun f r=>Vjs (n:=x.clients.length) e1 e2 f r);have HE2:=hH (fun f r q=>Vjt (n:=x.clients.length) e1 e2 f r q);have HB:=hH (show∀n a b:Int,inB n a b=true→a≤n∧n≤b from fun _ _ _=>hb.1);have HN:=hH (show∀n a b:Int,inB n a b=false→n<a∨b<n from fun _ _ _=>hn);clear HXV e1 e2 k1 k2 hb hn;go_enter Tryz.func136,Tryz.ntmps136;go_upto_region 6 with fail
   refine Qad (fun V eV=> ?_);have k0:=rL eV ⟨w.heap.size+1,2,none⟩ (.int .i64 h.at_);have k1:=rL eV ⟨w.heap.size+1,3,none⟩ (.int .i64 h.many);have k2:=rL eV ⟨w.heap.size+1,4,none⟩ (.string h.text);have k3:=rL eV ⟨w.heap.size+1,5,none⟩ (.bool h.lost);have HXV:=hH (xE w eV);clear eV t1 t2 t3 t4;go_cut [27] from 28 to 72 (fun s wx=>s= .bool (Vf8 h)∧wx=V)
   case first=>
    clear HE1 HE2 HE3 HB HN;obtain⟨kind,who,at_,many,text,lost⟩:=h;simp only at HK k0 k1 k2 k3 ⊢;have hk:kind=1∨kind=2∨kind=3∨kind=4∨kind=5:=by have:=HK.o;omega
    clear HK;rcases Decidable.em (at_=0) with rfl|a1
    all_goals (rcases Decidable.em (many=0) with rfl|a2)
    all_goals (rcases Decidable.em (text.toList=[]) with a3|a3)
    all_goals (first|have b3:=Vk1 a3|have b3:=Vkc a3)
    all_goals (cases lost)
    all_goals (rcases hk with rfl|rfl|rfl|rfl|rfl)
    all_goals (try have b1:(at_ !=0)=true:=by simpa using a1)
    all_goals (try have b2:(many !=0)=true:=by simpa using a2)
    all_goals (go_wp2_with fail;go_meet;refine⟨?_,rfl⟩;simp[Vf8, *])
   case rest=>
    obtain⟨rfl,rfl⟩:=hcut;clear HK;cases ef:Vf8 h with
    |true=>
     have HE:=hH (HE1.o ef);clear HE1 HE2 HE3 HB HN ef;go_wp2_with fail
     go_ret;exact⟨congrArg (fun z:Int=>Ending.returned (Value.int .i64 z)) HE.o.symm,ext_trans HXV.o Qac⟩
    |false=>
     have HR:=hH (HE3.o ef);have HT:=hH (HE2.o ef);clear HE1 HE2 HE3 ef;cases r1:inB h.at_ 0 300 with
     |false=>
      have HE:=hH (HR.o (.inl r1));rcases HN.o _ _ _ r1 with h1|h1
      ·have t1:decide (h.at_<0)=true:=decide_eq_true h1;clear HB HN HR HT r1 h1;go_wp2_with fail
       go_ret;exact⟨congrArg (fun z:Int=>Ending.returned (Value.int .i64 z)) HE.o.symm,ext_trans HXV.o Qac⟩
      ·have t1:decide (h.at_<0)=false:=decide_eq_false oM;have t2:decide (300<h.at_)=true:=decide_eq_true h1;clear HB HN HR HT r1 h1;go_wp2_with fail
       go_ret;exact⟨congrArg (fun z:Int=>Ending.returned (Value.int .i64 z)) HE.o.symm,ext_trans HXV.o Qac⟩
     |true=>
      have g1:=HB.o _ _ _ r1;have t1:decide (h.at_<0)=false:=decide_eq_false oM;have t2:decide (300<h.at_)=false:=decide_eq_false oM;cases r2:inB h.many 0 300 with
      |false=>
       have HE:=hH (HR.o (.inr r2));rcases HN.o _ _ _ r2 with h1|h1
       ·have t3:decide (h.many<0)=true:=decide_eq_true h1;clear HB HN HR HT r1 r2 h1 g1;go_wp2_with fail
        go_ret;exact⟨congrArg (fun z:Int=>Ending.returned (Value.int .i64 z)) HE.o.symm,ext_trans HXV.o Qac⟩
       ·have t3:decide (h.many<0)=false:=decide_eq_false oM;have t4:decide (300<h.many)=true:=decide_eq_true h1;clear HB HN HR HT r1 r2 h1 g1;go_wp2_with fail
        go_ret;exact⟨congrArg (fun z:Int=>Ending.returned (Value.int .i64 z)) HE.o.symm,ext_trans HXV.o Qac⟩
      |true=>
       have g2:=HB.o _ _ _ r2;have t3:decide (h.many<0)=false:=decide_eq_false oM;have t4:decide (300<h.many)=false:=decide_eq_false oM;have HE0:=HT.o r1 r2;by_cases h3:300<h.text.size
       ·rw[if_pos h3] at HE0;have HE:=hH HE0;have t5:decide (300<(h.text.size:Int))=true:=decide_eq_true oM;clear HB HN HR HT r1 r2 g1 g2 HE0 h3;go_wp2_with fail
        go_ret;exact⟨congrArg (fun z:Int=>Ending.returned (Value.int .i64 z)) HE.o.symm,ext_trans HXV.o Qac⟩
       ·rw[if_neg h3] at HE0;have HE:=hH HE0;have t5:decide (300<(h.text.size:Int))=false:=decide_eq_false oM;clear HB HN HR HT r1 r2 g1 g2 HE0 h3;go_wp2_with fail
        go_ret;exact⟨congrArg (fun z:Int=>Ending.returned (Value.int .i64 z)) HE.o.symm,ext_trans HXV.o Qac⟩
end Go.Proofs.YtgnccjojfebkeaaGreat
