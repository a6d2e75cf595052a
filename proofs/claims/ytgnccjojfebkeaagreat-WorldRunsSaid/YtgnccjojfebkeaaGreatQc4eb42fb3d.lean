/- edit.near: the marks ahead of a place and behind it. -/
import Derived.Test.YtgnccjojfebkeaaGreatQb497ca1fba
import Derived.Test.YtgnccjojfebkeaaGreatQ3471126dda
import Derived.Test.YtgnccjojfebkeaaGreatQ463d8804a1
import Derived.Deep.RegionLaw
import Derived.Deep.Cut
set_option linter.unusedVariables false
set_option linter.unusedSimpArgs false
set_option maxRecDepth 100000
set_option maxHeartbeats 4000000
namespace Go.Proofs.YtgnccjojfebkeaaGreat
open Go Go.RowKit Go.BigFrame Cp
def Qej (l:List At) (k:Nat):Mk:=if k=0 then([],0) else((l[k-1]?).map (·.1)).getD ([],0)
def Qdd (l:List At) (k:Nat):Mk:=((l[k]?).map (·.1)).getD ([],0)
def Vax (a b:Mk) (w:World) (e:Ending) (w':World):Prop:=∃cs ds,e= .returned (.tuple #[.agg (cs:List Value).toArray,.agg (ds:List Value).toArray])∧RMk (fun _=>True) w' cs a∧RMk (fun _=>True) w' ds b∧Ext w w'
theorem Qun {F:Nat→Prop} {w:World}:RMk F w [.slice none 0 0,.int .i64 0] ([],0):=⟨_,rfl,RSl.nil_ (Nat.zero_le _),Qal sI sI⟩
theorem Q6l {F:Nat→Prop} {w:World} {cs:List Value} {s:St} {k:Nat} (h:RSt F w cs s) (hk:k≤s.1.length) (hl3:s.1.length≤300):
  Calls Tryz.prog 210 #[.agg cs.toArray,.int .i64 k] w (Vax (Qej s.1 k) (Qdd s.1 k) w):=by
 obtain⟨v,u,rfl,h1,h2⟩:=h;obtain⟨la,lg⟩:=s;simp only at h1 h2 hk hl3 ⊢;obtain⟨a0,n0,c0,rfl⟩:=h1.slice;obtain⟨a1,n1,c1,rfl⟩:=h2.slice;obtain rfl:n0=la.length:=h1.len.1;have HA:=hH (fun(W:World) (hx:Ext w W)=>(RSl.more gAt (fun _ _ _=>trivial) h1:RSl RAt 3 (fun _=>True) w _ la).ext gAt hx);clear h2;by_cases hk0:k=0
 ·subst hk0;have ha:Qej la 0=([],0):=rfl;rw[ha];by_cases hlt:0<la.length
  ·obtain⟨b,o,p,d,s,ap,cp,rfl,hb,ek,ick,hpp,y0,y1,y2⟩:=Qcd (HA.o w (ext_refl _)) hlt;simp only[Nat.zero_mul,Nat.add_zero] at y0 y1 y2;have hb':Qdd la 0=(p,d):=by unfold Qdd;rw[ek];rfl
   rw[hb'];have t1:decide ((0:Int)<(la.length:Int))=true:=decide_eq_true oM;have t2:¬la=[]:=by intro h;subst h;simp at hlt
   have nn0:¬b=w.heap.size:=oM;have nn1:¬b=w.heap.size+1:=oM;have nn2:¬b=w.heap.size+1+1:=oM;have nn3:¬b=w.heap.size+1+1+1:=oM;have nn4:¬b=w.heap.size+1+1+1+1:=oM;have nnl0:b≤w.heap.size:=oM;have nnl1:b≤w.heap.size+1:=oM;have nnl2:b≤w.heap.size+1+1:=oM;have nnl3:b≤w.heap.size+1+1+1:=oM;have nnl4:b≤w.heap.size+1+1+1+1:=oM;have HM:=hH (fun(W:World) (hx:Ext w W)=>Qam (hpp.ext Qap hx) ick);clear ek hpp ick h1 ha hb';go_enter Tryz.func210,Tryz.ntmps210;go_upto_if 9 with(fail)
   refine Qad (fun W eW=> ?_);obtain⟨e0,e1⟩:=rR2 eW w.heap.size (.slice (some ⟨b,o,none⟩) la.length c0) (.slice a1 n1 c1);obtain⟨e2,e3⟩:=rR2 eW (w.heap.size+1) (.slice none 0 0) (.int .i64 0);obtain⟨e4,e5⟩:=rR2 eW (w.heap.size+1+1) (.slice none 0 0) (.int .i64 0);obtain⟨e6,e7⟩:=rR2 eW (w.heap.size+1+1+1) (.slice none 0 0) (.int .i64 0);obtain⟨e8,e9⟩:=rR2 eW (w.heap.size+1+1+1+1) (.slice none 0 0) (.int .i64 0);have g10:W.frozen? ⟨w.heap.size+1,0,none⟩=false:=by rw[eW];go_simp
   have g11:W.frozen? ⟨w.heap.size+1,1,none⟩=false:=by rw[eW];go_simp
   have g20:W.frozen? ⟨w.heap.size+1+1,0,none⟩=false:=by rw[eW];go_simp
   have g21:W.frozen? ⟨w.heap.size+1+1,1,none⟩=false:=by rw[eW];go_simp
   have g30:W.frozen? ⟨w.heap.size+1+1+1,0,none⟩=false:=by rw[eW];go_simp
   have g31:W.frozen? ⟨w.heap.size+1+1+1,1,none⟩=false:=by rw[eW];go_simp
   have g40:W.frozen? ⟨w.heap.size+1+1+1+1,0,none⟩=false:=by rw[eW];go_simp
   have g41:W.frozen? ⟨w.heap.size+1+1+1+1,1,none⟩=false:=by rw[eW];go_simp
   have zW_0:=zE eW w.heap.size;have zW_1:=zE eW (w.heap.size+1);have zW_2:=zE eW (w.heap.size+1+1);have zW_3:=zE eW (w.heap.size+1+1+1);have zW_4:=zE eW (w.heap.size+1+1+1+1);have hx:=xE w eW;clear eW;have y0W:=(hx.cells _ _ hb).trans y0;have y1W:=(hx.cells _ _ hb).trans y1;have y2W:=(hx.cells _ _ hb).trans y2;have hWb:b<W.heap.size:=Nat.lt_of_lt_of_le hb hx.size;go_wp2_with fail
   go_region_law (fail)
   all_goals go_wp2_with fail
   all_goals refine bodyPost_ret (v:= .tuple #[.agg #[.slice none 0 0,.int .i64 0],.agg #[.slice ap p.length cp,.int .i64 d]]) (by simp[results,Tryz.results210,go_sem,e2,e3,e4,e5,e6,e7,e8,e9,zW_0,zW_1,zW_2,zW_3,zW_4]) rfl ⟨[.slice none 0 0,.int .i64 0],[.slice ap p.length cp,.int .i64 d],rfl,Qun,HM.o _ Qac,Qac⟩
  ·have hz:la.length=0:=oM;have hb':Qdd la 0=([],0):=by unfold Qdd;rw[List.getElem?_eq_none oM];rfl
   rw[hb'];have t1:decide ((0:Int)<(la.length:Int))=false:=decide_eq_false oM;clear h1 ha hb';go_enter Tryz.func210,Tryz.ntmps210;go_upto_if 9 with(fail)
   refine Qad (fun W eW=> ?_);obtain⟨e0,e1⟩:=rR2 eW w.heap.size (.slice a0 la.length c0) (.slice a1 n1 c1);obtain⟨e2,e3⟩:=rR2 eW (w.heap.size+1) (.slice none 0 0) (.int .i64 0);obtain⟨e4,e5⟩:=rR2 eW (w.heap.size+1+1) (.slice none 0 0) (.int .i64 0);obtain⟨e6,e7⟩:=rR2 eW (w.heap.size+1+1+1) (.slice none 0 0) (.int .i64 0);obtain⟨e8,e9⟩:=rR2 eW (w.heap.size+1+1+1+1) (.slice none 0 0) (.int .i64 0);have g10:W.frozen? ⟨w.heap.size+1,0,none⟩=false:=by rw[eW];go_simp
   have g11:W.frozen? ⟨w.heap.size+1,1,none⟩=false:=by rw[eW];go_simp
   have g20:W.frozen? ⟨w.heap.size+1+1,0,none⟩=false:=by rw[eW];go_simp
   have g21:W.frozen? ⟨w.heap.size+1+1,1,none⟩=false:=by rw[eW];go_simp
   have g30:W.frozen? ⟨w.heap.size+1+1+1,0,none⟩=false:=by rw[eW];go_simp
   have g31:W.frozen? ⟨w.heap.size+1+1+1,1,none⟩=false:=by rw[eW];go_simp
   have g40:W.frozen? ⟨w.heap.size+1+1+1+1,0,none⟩=false:=by rw[eW];go_simp
   have g41:W.frozen? ⟨w.heap.size+1+1+1+1,1,none⟩=false:=by rw[eW];go_simp
   have zW_0:=zE eW w.heap.size;have zW_1:=zE eW (w.heap.size+1);have zW_2:=zE eW (w.heap.size+1+1);have zW_3:=zE eW (w.heap.size+1+1+1);have zW_4:=zE eW (w.heap.size+1+1+1+1);have hx:=xE w eW;clear eW;go_wp2_with fail
   go_region_law (fail)
   all_goals go_wp2_with fail
   all_goals refine bodyPost_ret (v:= .tuple #[.agg #[.slice none 0 0,.int .i64 0],.agg #[.slice none 0 0,.int .i64 0]]) (by simp[results,Tryz.results210,go_sem,e2,e3,e4,e5,e6,e7,e8,e9,zW_0,zW_1,zW_2,zW_3,zW_4]) rfl ⟨[.slice none 0 0,.int .i64 0],[.slice none 0 0,.int .i64 0],rfl,Qun,Qun,Qac⟩
 ·obtain⟨j,rfl⟩:∃j,k=j+1:=⟨k-1,oM⟩;have hj:j<la.length:=oM;obtain⟨b',o',p',d',s',ap',cp',rfl,hb9,ek',ick',hpp',z0,z1,z2⟩:=Qcd (HA.o w (ext_refl _)) hj;have ha:Qej la (j+1)=(p',d'):=by unfold Qej;rw[if_neg oM,Nat.add_sub_cancel,ek'];rfl
  rw[ha];have nm0:¬b'=w.heap.size:=oM;have nm1:¬b'=w.heap.size+1:=oM;have nm2:¬b'=w.heap.size+1+1:=oM;have nm3:¬b'=w.heap.size+1+1+1:=oM;have nm4:¬b'=w.heap.size+1+1+1+1:=oM;have nml0:b'≤w.heap.size:=oM;have nml1:b'≤w.heap.size+1:=oM;have nml2:b'≤w.heap.size+1+1:=oM;have nml3:b'≤w.heap.size+1+1+1:=oM;have nml4:b'≤w.heap.size+1+1+1+1:=oM;have t0:decide ((0:Int)<(j:Int)+1)=true:=decide_eq_true oM;have t00:(0:Int)<(j:Int)+1:=oM;have HM':=hH (fun(W:World) (hx:Ext w W)=>Qam (hpp'.ext Qap hx) ick');by_cases hlt:j+1<la.length
  ·obtain⟨b,o,p,d,s,ap,cp,hba,hb,ek,ick,hpp,y0,y1,y2⟩:=Qcd (HA.o w (ext_refl _)) hlt;obtain⟨rfl,rfl⟩:b'=b∧o'=o:=by simpa using hba
   have hb':Qdd la (j+1)=(p,d):=by unfold Qdd;rw[ek];rfl
   rw[hb'];have t1:decide ((j:Int)+1<(la.length:Int))=true:=decide_eq_true oM;have HM:=hH (fun(W:World) (hx:Ext w W)=>Qam (hpp.ext Qap hx) ick);clear ek hpp ick h1 ha hb' ek' hpp' ick' hba;go_enter Tryz.func210,Tryz.ntmps210;go_upto_if 9 with(fail)
   refine Qad (fun W eW=> ?_);obtain⟨e0,e1⟩:=rR2 eW w.heap.size (.slice (some ⟨b',o',none⟩) la.length c0) (.slice a1 n1 c1);obtain⟨e2,e3⟩:=rR2 eW (w.heap.size+1) (.slice none 0 0) (.int .i64 0);obtain⟨e4,e5⟩:=rR2 eW (w.heap.size+1+1) (.slice none 0 0) (.int .i64 0);obtain⟨e6,e7⟩:=rR2 eW (w.heap.size+1+1+1) (.slice none 0 0) (.int .i64 0);obtain⟨e8,e9⟩:=rR2 eW (w.heap.size+1+1+1+1) (.slice none 0 0) (.int .i64 0);have g10:W.frozen? ⟨w.heap.size+1,0,none⟩=false:=by rw[eW];go_simp
   have g11:W.frozen? ⟨w.heap.size+1,1,none⟩=false:=by rw[eW];go_simp
   have g20:W.frozen? ⟨w.heap.size+1+1,0,none⟩=false:=by rw[eW];go_simp
   have g21:W.frozen? ⟨w.heap.size+1+1,1,none⟩=false:=by rw[eW];go_simp
   have g30:W.frozen? ⟨w.heap.size+1+1+1,0,none⟩=false:=by rw[eW];go_simp
   have g31:W.frozen? ⟨w.heap.size+1+1+1,1,none⟩=false:=by rw[eW];go_simp
   have g40:W.frozen? ⟨w.heap.size+1+1+1+1,0,none⟩=false:=by rw[eW];go_simp
   have g41:W.frozen? ⟨w.heap.size+1+1+1+1,1,none⟩=false:=by rw[eW];go_simp
   have zW_0:=zE eW w.heap.size;have zW_1:=zE eW (w.heap.size+1);have zW_2:=zE eW (w.heap.size+1+1);have zW_3:=zE eW (w.heap.size+1+1+1);have zW_4:=zE eW (w.heap.size+1+1+1+1);have hx:=xE w eW;clear eW;have y0W:=(hx.cells _ _ hb).trans y0;have y1W:=(hx.cells _ _ hb).trans y1;have y2W:=(hx.cells _ _ hb).trans y2;have z0W:=(hx.cells _ _ hb9).trans z0;have z1W:=(hx.cells _ _ hb9).trans z1;have z2W:=(hx.cells _ _ hb9).trans z2;have hWbp:b'<W.heap.size:=Nat.lt_of_lt_of_le hb9 hx.size;go_wp2_with fail
   go_region_law (fail)
   all_goals go_wp2_with fail
   all_goals refine bodyPost_ret (v:= .tuple #[.agg #[.slice ap' p'.length cp',.int .i64 d'],.agg #[.slice ap p.length cp,.int .i64 d]]) (by simp[results,Tryz.results210,go_sem,e2,e3,e4,e5,e6,e7,e8,e9,zW_0,zW_1,zW_2,zW_3,zW_4]) rfl ⟨[.slice ap' p'.length cp',.int .i64 d'],[.slice ap p.length cp,.int .i64 d],rfl,HM'.o _ Qac,HM.o _ Qac,Qac⟩
  ·have hz:la.length=j+1:=oM;have hb':Qdd la (j+1)=([],0):=by unfold Qdd;rw[List.getElem?_eq_none oM];rfl
   rw[hb'];have t1:decide ((j:Int)+1<(la.length:Int))=false:=decide_eq_false oM;clear h1 ha hb' ek' hpp' ick';go_enter Tryz.func210,Tryz.ntmps210;go_upto_if 9 with(fail)
   refine Qad (fun W eW=> ?_);obtain⟨e0,e1⟩:=rR2 eW w.heap.size (.slice (some ⟨b',o',none⟩) la.length c0) (.slice a1 n1 c1);obtain⟨e2,e3⟩:=rR2 eW (w.heap.size+1) (.slice none 0 0) (.int .i64 0);obtain⟨e4,e5⟩:=rR2 eW (w.heap.size+1+1) (.slice none 0 0) (.int .i64 0);obtain⟨e6,e7⟩:=rR2 eW (w.heap.size+1+1+1) (.slice none 0 0) (.int .i64 0);obtain⟨e8,e9⟩:=rR2 eW (w.heap.size+1+1+1+1) (.slice none 0 0) (.int .i64 0);have g10:W.frozen? ⟨w.heap.size+1,0,none⟩=false:=by rw[eW];go_simp
   have g11:W.frozen? ⟨w.heap.size+1,1,none⟩=false:=by rw[eW];go_simp
   have g20:W.frozen? ⟨w.heap.size+1+1,0,none⟩=false:=by rw[eW];go_simp
   have g21:W.frozen? ⟨w.heap.size+1+1,1,none⟩=false:=by rw[eW];go_simp
   have g30:W.frozen? ⟨w.heap.size+1+1+1,0,none⟩=false:=by rw[eW];go_simp
   have g31:W.frozen? ⟨w.heap.size+1+1+1,1,none⟩=false:=by rw[eW];go_simp
   have g40:W.frozen? ⟨w.heap.size+1+1+1+1,0,none⟩=false:=by rw[eW];go_simp
   have g41:W.frozen? ⟨w.heap.size+1+1+1+1,1,none⟩=false:=by rw[eW];go_simp
   have zW_0:=zE eW w.heap.size;have zW_1:=zE eW (w.heap.size+1);have zW_2:=zE eW (w.heap.size+1+1);have zW_3:=zE eW (w.heap.size+1+1+1);have zW_4:=zE eW (w.heap.size+1+1+1+1);have hx:=xE w eW;clear eW;have z0W:=(hx.cells _ _ hb9).trans z0;have z1W:=(hx.cells _ _ hb9).trans z1;have z2W:=(hx.cells _ _ hb9).trans z2;have hWbp:b'<W.heap.size:=Nat.lt_of_lt_of_le hb9 hx.size;go_wp2_with fail
   go_region_law (fail)
   all_goals go_wp2_with fail
   all_goals refine bodyPost_ret (v:= .tuple #[.agg #[.slice ap' p'.length cp',.int .i64 d'],.agg #[.slice none 0 0,.int .i64 0]]) (by simp[results,Tryz.results210,go_sem,e2,e3,e4,e5,e6,e7,e8,e9,zW_0,zW_1,zW_2,zW_3,zW_4]) rfl ⟨[.slice ap' p'.length cp',.int .i64 d'],[.slice none 0 0,.int .i64 0],rfl,HM'.o _ Qac,Qun,Qac⟩
end Go.Proofs.YtgnccjojfebkeaaGreat
