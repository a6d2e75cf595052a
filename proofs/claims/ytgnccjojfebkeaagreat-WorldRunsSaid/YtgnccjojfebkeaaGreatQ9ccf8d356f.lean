/- What another text comes to: the closure of desk.Write. -/
import Derived.Test.YtgnccjojfebkeaaGreatQ3b8532dffc
import Derived.Test.YtgnccjojfebkeaaGreatQc2c7cbb933
import Derived.Test.YtgnccjojfebkeaaGreatQd7523a9f8c
import Derived.Test.YtgnccjojfebkeaaGreatQe32eab58c1
import Derived.Deep.RegionHeld3
set_option linter.unusedVariables false
set_option linter.unusedSimpArgs false
set_option maxRecDepth 100000
set_option maxHeartbeats 4000000
namespace Go.Proofs.YtgnccjojfebkeaaGreat
open Go Go.RowKit Go.BigFrame Cp
theorem Q7l (l:List At):(⟨(Qc3 l).toArray⟩:ByteArray).size=l.length:=by show(Qc3 l).toArray.size=_;simp[Qc3]
theorem Qm4 (out:List Edt) (k:Int):(Qbc out k).length≤out.length+1:=by
 unfold Qbc;split
 ·split
  ·rw[List.length_append,List.length_dropLast,List.length_singleton];omega
  ·rw[List.length_append,List.length_singleton];omega
 ·simp
theorem Qpc (out:List Edt) (k:Int) (c:UInt8):(Qcs out k c).length≤out.length+1:=by
 unfold Qcs;split
 ·split
  ·rw[List.length_append,List.length_dropLast,List.length_singleton];omega
  ·rw[List.length_append,List.length_singleton];omega
 ·simp
theorem Qhd:∀(a b:Tx) (st k:Int) (out come:List Edt),(Qc4 a b st k out come).1.length+(Qc4 a b st k out come).2.length≤out.length+come.length+a.length+b.length
 | [],[],_,_,out,come=>by unfold Qc4;simp
 |x::xs,[],st,k,out,come=>by
  have h1:=Qhd xs [] st k (Qbc out st) come;have h2:=Qm4 out st;unfold Qc4;simp only[List.length_cons,List.length_nil] at *;omega
 | [],y::ys,st,k,out,come=>by
  have h1:=Qhd [] ys st (k+1) out (Qcs come k y);have h2:=Qpc come k y;unfold Qc4;simp only[List.length_cons,List.length_nil] at *;omega
 |x::xs,y::ys,st,k,out,come=>by
  have h1:=Qhd xs ys (st+1) (k+1) out come;have h2:=Qhd xs (y::ys) st k (Qbc out st) come;have h3:=Qhd (x::xs) ys st (k+1) out (Qcs come k y);have h4:=Qm4 out st;have h5:=Qpc come k y;unfold Qc4;simp only[List.length_cons] at *;split
  ·omega
  ·split
   ·omega
   ·omega
termination_by a b=>a.length+b.length
theorem Q1y (a b:Tx):(Qh2 a b).1.length≤600:=by
 unfold Qh2;by_cases h:Qea a b=0
 ·rw[if_neg (by simpa using h)]
  show(Vaa a b).length≤600
  have h1:=Qhd a b 0 0 [] [];unfold Qea at h;by_cases h2:300<a.length∨300<b.length
  ·rw[if_pos h2] at h;cases h
  ·unfold Vaa;rw[List.length_append];simp only[List.length_nil] at h1;omega
 ·rw[if_pos h];simp
def Qdy (d:Dk) (t:Tx):List Edt×Int:=Qh2 (Qc3 d.state.1) t
def wwE (d:Dk) (t:Tx):Int:=if(Qdy d t).2≠0 then(Qdy d t).2 else Qji (d,[]) (Qdy d t).1
def wwV (d:Dk) (t:Tx):Wr:=Qjj (d,[]) (Qdy d t).1
theorem Q1t {s:St} {a n:Int} (h:Qpy s):(Qnh s a n).length≤300:=by
 by_cases h0:Qs2 s a n=0
 ·unfold Qnh;rw[if_pos h0,List.length_map];have h1:=Qg7 (Qry s a.toNat n.toNat);have h2:=h.2.1;unfold Qry at h1;rw[List.length_take,List.length_drop] at h1;unfold Qry;omega
 ·unfold Qnh;rw[if_neg h0];simp
theorem Qwx {x:Wr} {e:Edt} (h:RightW x):(Qnv x e).2.length≤x.2.length+300:=by
 unfold Qnv;split
 ·show(x.2++Qs0 x e.at_ e.text).length≤_
  rw[List.length_append];have:(Qs0 x e.at_ e.text).length≤60:=Qso;omega
 ·show(x.2++Qnh x.1.state e.at_ e.many).length≤_
  rw[List.length_append];have:=Q1t (a:=e.at_) (n:=e.many) h.desk.state;omega
theorem Qye:∀{l:List Edt} {x:Wr},RightW x→Qji x l=0→(Qjj x l).2.length≤x.2.length+300 * l.length
 | [],_,_,_=>by show _≤_;simp[Qjj]
 |e::r,x,h,k=>by
  unfold Qji at k;by_cases h1:Qrk x e=0
  ·rw[if_neg (by simpa using h1)] at k;have h2:=Qye (Qlq h h1) k;have h3:=Qwx (e:=e) h
   show(Qjj (Qnv x e) r).2.length≤_
   rw[List.length_cons];omega
  ·rw[if_pos h1] at k;exact absurd k h1
theorem Q4u {d:Dk} {t:Tx} (h:wwE d t=0):(Qdy d t).2=0∧Qji (d,[]) (Qdy d t).1=0:=by
 unfold wwE at h;by_cases h1:(Qdy d t).2=0
 ·rw[if_neg (by simpa using h1)] at h;exact⟨h1,h⟩
 ·rw[if_pos h1] at h;exact absurd h h1
theorem Q7u {d:Dk} {t:Tx} (hr:RightK d) (h:wwE d t=0):RightW (wwV d t):=Qrj (Qee hr) (Q4u h).2
theorem Vch {d:Dk} {t:Tx} (hr:RightK d) (h:wwE d t=0):(wwV d t).2.length≤1000000:=by
 have h1:=Qye (Qee hr) (Q4u h).2;have h2:(Qdy d t).1.length≤600:=Q1y _ _;unfold wwV;simp only[List.length_nil] at h1;omega
theorem Q4o {x:Wr} {l:List Edt} {k:Nat} {e:Edt} (h:l[k]?=some e):Qji x (l.drop k)=(if Qrk x e≠0 then Qrk x e else Qji (Qnv x e) (l.drop (k+1)))∧Qjj x (l.drop k)=Qjj (Qnv x e) (l.drop (k+1)):=by
 rw[Qci h];exact⟨rfl,rfl⟩
theorem Q5l {B b:Nat} {d:Dk} {w:World} {va vg vs vw vo vd:Value} {p:Nat} {u:ByteArray} (h:OwnWr B b (d,[]) w va vg vs vw vo vd) (hp:w.cell? ⟨p,0,none⟩=some (.string u)) (hu:u.size≤140737488351232) (hr:RightK d):
  Calls Tryz.prog 94 #[.pointer (some ⟨b,0,none⟩),.pointer (some ⟨p,0,none⟩)] w (Qrl B b (wwE d u.data.toList) (wwV d u.data.toList) w):=by
 have hbz:=h.lt;have hle:=h.le;have hpz:p<w.heap.size:=World.block_lt_of_cell? _ _ hp;have HW:=hH h;have HRK:=hH hr;have hl3:d.state.1.length≤300:=hr.state.2.1;have HTX:=hH (fun(W:World) (hx:Ext w W)=>Q4j (gDk.ext h.desk.read hx) hl3);have hsz:(⟨(Qc3 d.state.1).toArray⟩:ByteArray).size≤300:=by rw[Q7l];exact hl3
 have htl:(⟨(Qc3 d.state.1).toArray⟩:ByteArray).data.toList=Qc3 d.state.1:=sI;have hed:Qh2 (⟨(Qc3 d.state.1).toArray⟩:ByteArray).data.toList u.data.toList=Qdy d u.data.toList:=by rw[htl];rfl
 have HDF:=hH (fun(W:World)=>Q5p ⟨(Qc3 d.state.1).toArray⟩ u W (Nat.le_trans hsz (by unfold maxLen;decide)) (Q4k hu));rw[hed] at HDF;have HEE:=hH (show∀e,e=(Qdy d u.data.toList).2→¬e=0→e=wwE d u.data.toList from fun e he h0=>by subst he;unfold wwE;rw[if_pos h0]);have HEZ:=hH (show(Qdy d u.data.toList).2=0→Qji (d,[]) ((Qdy d u.data.toList).1.drop 0)=wwE d u.data.toList∧Qjj (d,[]) ((Qdy d u.data.toList).1.drop 0)=wwV d u.data.toList from fun h0=>by rw[List.drop_zero];exact⟨by unfold wwE;rw[if_neg (by simpa using h0)],rfl⟩);have HNL:=hH (show¬(Qdy d u.data.toList).2=0→(Qdy d u.data.toList).1=[] from fun h0=>by
  unfold Qdy Qh2 at h0 ⊢;by_cases h1:Qea (Qc3 d.state.1) u.data.toList=0
  ·rw[if_neg (by simpa using h1)] at h0;exact absurd rfl h0
  ·rw[if_pos h1])
 generalize (Qdy d u.data.toList).1=l at *;generalize (Qdy d u.data.toList).2=er0 at *;generalize wwE d u.data.toList=E at *;generalize wwV d u.data.toList=Y at *;generalize (⟨(Qc3 d.state.1).toArray⟩:ByteArray)=S at *;have HVD:=hH (Qak h.deeds);obtain⟨ds,ss,sn,wt,ck,ou⟩:=d;obtain⟨a1,n1,k1,rfl⟩:=h.desk.atoms.slice;obtain⟨a2,n2,k2,rfl⟩:=h.desk.gone.slice;obtain⟨a3,n3,k3,rfl⟩:=Qab h.desk.seen;obtain⟨a4,n4,k4,rfl⟩:=Qab h.desk.waits;obtain⟨a5,n5,k5,rfl⟩:=Qab h.desk.out;have c0:=h.cells 0 _ rfl;have c1:=h.cells 1 _ rfl;have c2:=h.cells 2 _ rfl;have c3:=h.cells 3 _ rfl;have c4:=h.cells 4 _ rfl;have c5:=h.cells 5 _ rfl;have c6:=h.cells 6 _ rfl;clear h hr hl3 hsz htl hed hu;go_enter Tryz.func94,Tryz.ntmps94;go_upto_region 1 with fail
 go_region_held3 (fun W=>W.cell? ⟨b,0,none⟩=some (.int .i64 ds)∧W.cell? ⟨b,1,none⟩=some (.slice a1 n1 k1)∧W.cell? ⟨b,2,none⟩=some (.slice a2 n2 k2)∧W.cell? ⟨b,3,none⟩=some (.slice a3 n3 k3)∧W.cell? ⟨b,4,none⟩=some (.slice a4 n4 k4)∧W.cell? ⟨b,5,none⟩=some (.int .i64 ck)∧W.cell? ⟨b,6,none⟩=some (.slice a5 n5 k5)∧W.cell? ⟨p,0,none⟩=some (.string u)) (first|(with_reducible exact⟨c0,c1,c2,c3,c4,c5,c6,hp⟩)|(with_reducible exact⟨(HX4.o.cells _ _ hbz).trans c0,(HX4.o.cells _ _ hbz).trans c1,(HX4.o.cells _ _ hbz).trans c2,(HX4.o.cells _ _ hbz).trans c3,(HX4.o.cells _ _ hbz).trans c4,(HX4.o.cells _ _ hbz).trans c5,(HX4.o.cells _ _ hbz).trans c6,(HX4.o.cells _ _ hpz).trans hp⟩)|(with_reducible exact⟨(HX3.o.cells _ _ hbz).trans c0,(HX3.o.cells _ _ hbz).trans c1,(HX3.o.cells _ _ hbz).trans c2,(HX3.o.cells _ _ hbz).trans c3,(HX3.o.cells _ _ hbz).trans c4,(HX3.o.cells _ _ hbz).trans c5,(HX3.o.cells _ _ hbz).trans c6,(HX3.o.cells _ _ hpz).trans hp⟩)|go_keep) (first|(go_at_call 96;go_must ((with_reducible refine(HTX.o _ Qac).mono ?_);rintro e w3 ⟨rfl,hx3⟩;have HX3:=xY w hx3))|(go_at_call 95;go_must ((with_reducible refine(HDF.o _).mono ?_);rintro e w4 ⟨v4,rfl,hv4,hx4,hl4,ht4⟩;obtain⟨a6,n6,k6,rfl⟩:=hv4.slice;obtain rfl:n6=l.length:=hv4.len.1;have HX4:=xX HX3 hx4;have HV4:=hH (RSl.more gEd (G:=fun k=>w.heap.size≤k) (fun k hk _=>Nat.le_trans (ext_trans HX3.o Qac).size hk) hv4);have HL4:=hH (And.intro hl4 ht4);clear hv4 hx4 hl4 ht4)))
 go_wp2_with fail
 go_loopw [5,6] (fun ev iv wr=>∃(k:Nat) (er:Int) (x:Wr) (va vg vs vw vo vd:Value),k≤l.length∧iv= .int .i64 k∧ev= .int .i64 er∧Hid (OwnWr B b x wr va vg vs vw vo vd)∧Hid (er=0→Qji x (l.drop k)=E∧Qjj x (l.drop k)=Y∧RightW x∧x.2.length≤300 * k)∧Hid (¬er=0→er=E)∧Hid (RSl REd 4 (fun j=>w.heap.size≤j∧j≠b∧some j≠vd.ownBlock) wr (.slice a6 l.length k6) l)∧Hid (∀a:World,Ext a w→a.heap.size≤B→Ext a wr)∧w.heap.size≤wr.heap.size) (fun _ iv _=>l.length-(intOf iv).toNat)
 case atStart=>exact⟨0,er0,(⟨ds,ss,sn,wt,ck,ou⟩,[]),_,_,_,_,_,_,Nat.zero_le _,rfl,rfl,hH (HW.o.ext (ext_trans HX4.o Qac)),hH (fun h0=>⟨(HEZ.o h0).1,(HEZ.o h0).2,Qee HRK.o,Nat.le_refl _⟩),hH (fun h0=>HEE.o er0 rfl h0),hH (RSl.more gEd (fun j hj _=>⟨hj,(by have hj':w.heap.size≤j:=hj;omega),fun e=>(by have h1:=(HVD.o j e.symm).2;have hj':w.heap.size≤j:=hj;omega)⟩) (HV4.o.ext gEd Qac)),hH (fun a ha hB=>ext_trans ha (ext_trans HX4.o Qac)),(ext_trans HX4.o Qac).size⟩
 case round=>
  obtain⟨k,er,x,va,vg,vs,vw,vo,vd,hk,rfl,rfl,HB,HZ,HN,HL,HA,hwr⟩:=hrel;have hl6:=HL4.o.1;clear c0 c1 c2 c3 c4 c5 c6 hp;by_cases he:er=0
  ·have t0:(er==0)=true:=by simp[he]
   have t0':((0:Int)==0)=true:=rfl;by_cases hlt:k<l.length
   ·obtain⟨g,q,x1,tv,ea,hg,ek,htx,i1,i2,i3,s0,s1,s2,s3⟩:=Vc7 HL.o hlt;subst ea;obtain⟨z1,z2,z3,z4⟩:=HZ.o he;obtain⟨y1,y2⟩:=Q4o (x:=x) ek;have htl:=HL4.o.2 x1 (List.mem_of_getElem? ek);obtain⟨us,rfl,hus,hs1⟩:=Qby htx;have hbr:=HB.o.lt;by_cases h1:x1.kind=1
    ·have t1:(x1.kind==1)=true:=by simpa using h1
     have hwe:Qrk x x1=Qek x x1.at_ us.data.toList:=by unfold Qrk;rw[if_pos h1,hus]
     have hwv:Qnv x x1=Qgt x x1.at_ us.data.toList:=by unfold Qnv;rw[if_pos h1,hus]
     have HWP:=hH (fun(W:World) (hx:Ext wr W)=>Q8j (HB.o.ext hx) i2 hs1 z3.desk.clock (Nat.le_trans z4 oM));rw[←hwe,←hwv] at HWP;have HZ2:=hH (show Qrk x x1=0→Qji (Qnv x x1) (l.drop (k+1))=E∧Qjj (Qnv x x1) (l.drop (k+1))=Y∧RightW (Qnv x x1)∧(Qnv x x1).2.length≤300 * (k+1) from fun h0=>by
      refine⟨?_,by rw[←y2,z2],Qlq z3 h0,?_⟩
      ·rw[←z1,y1,if_neg (by simpa using h0)]
      ·have:=Qwx (e:=x1) z3;omega)
     have HN2:=hH (show¬Qrk x x1=0→Qrk x x1=E from fun h0=>by rw[←z1,y1,if_pos h0]);generalize Qrk x x1=er1 at *;generalize Qnv x x1=x2 at *;clear y1 y2 z1 z2 z3 z4 htx hus hwe hwv ek he;go_upto_region 6 with fail
     refine Qad (fun W6 eW6=> ?_);have s0':=rL eW6 ⟨g,q+k * 4,none⟩ (.int .i64 x1.kind);have s1':=rL eW6 ⟨g,q+k * 4+1,none⟩ (.int .i64 x1.at_);have s2':=rL eW6 ⟨g,q+k * 4+2,none⟩ (.int .i64 x1.many);have s3':=rL eW6 ⟨g,q+k * 4+3,none⟩ (.string us);have zW6_0:=zE eW6 g;have hw6:=xE wr eW6;clear eW6;have HX6:=hH hw6;clear hw6 s0 s1 s2 s3
     (refine Qa4 11 fol kR (fun W hW=> ?_);subst hW;simp only[List.take_succ_cons,List.take_zero,List.drop_succ_cons,List.drop_zero];(repeat(go_big_quiet_step (fail)));refine wpQuiet_nil ?_)
     go_wp2_with (first|(go_at_call 91;go_must ((with_reducible refine(HWP.o _ (ext_trans HX6.o Qac)).mono ?_);rintro e w4 ⟨rfl,hz4',hx4,hk4⟩;obtain⟨z,va',vg',vs',vw',vo',vd',ho4,hz4,hn4⟩:=hz4';have HO4:=hH ho4;have HZ4:=hH hz4;have HN4:=hH (Qsm hn4 (ext_trans HX6.o Qac));have HA4:=hH hx4;have HK4:=hH (Qku hk4 (show Ext wr _ from ext_trans HX6.o Qac));clear ho4 hz4 hn4 hx4 hk4)))
     go_roundw
     case rel=>exact⟨k+1,er1,z,_,_,_,_,_,vd',hlt,by go_num,rfl,HO4,hH (fun h0=>by rw[HZ4.o h0];exact HZ2.o h0),HN2,hH (RSl.more gEd (fun j hj hjl=>⟨hj.1.1,hj.1.2.1,fun e=>(HN4.o j e.symm).elim (fun e2=>hj.1.2.2 e2.symm) (fun h9=>by have:=hj.2;omega)⟩) (RSl.keep gEd (HK4.o.weaken (fun j _ hj=>hj.1.2)) (RSl.more gEd (G:=fun j=>(w.heap.size≤j∧j≠b∧some j≠vd.ownBlock)∧j<wr.heap.size) (fun j hj hl=>⟨hj,hl⟩) HL.o))),hH (fun a ha hB=>HA4.o a (ext_trans (HA.o a ha hB) (ext_trans HX6.o Qac)) hB),Nat.le_trans hwr HK4.o.size⟩
     case measure=>simp[intOf];omega
    ·have t1:(x1.kind==1)=false:=by simpa using h1
     have hwe:Qrk x x1=Qhh x x1.at_ x1.many:=by unfold Qrk;rw[if_neg h1]
     have hwv:Qnv x x1=Qhi x x1.at_ x1.many:=by unfold Qnv;rw[if_neg h1]
     have HWP:=hH (fun(W:World) (hx:Ext wr W)=>Q4t (HB.o.ext hx) i2 i3 (Nat.le_trans z4 oM));rw[←hwe,←hwv] at HWP;have HZ2:=hH (show Qrk x x1=0→Qji (Qnv x x1) (l.drop (k+1))=E∧Qjj (Qnv x x1) (l.drop (k+1))=Y∧RightW (Qnv x x1)∧(Qnv x x1).2.length≤300 * (k+1) from fun h0=>by
      refine⟨?_,by rw[←y2,z2],Qlq z3 h0,?_⟩
      ·rw[←z1,y1,if_neg (by simpa using h0)]
      ·have:=Qwx (e:=x1) z3;omega)
     have HN2:=hH (show¬Qrk x x1=0→Qrk x x1=E from fun h0=>by rw[←z1,y1,if_pos h0]);generalize Qrk x x1=er1 at *;generalize Qnv x x1=x2 at *;clear y1 y2 z1 z2 z3 z4 htx hus hwe hwv ek he;go_upto_region 7 with fail
     refine Qad (fun W6 eW6=> ?_);have s0':=rL eW6 ⟨g,q+k * 4,none⟩ (.int .i64 x1.kind);have s1':=rL eW6 ⟨g,q+k * 4+1,none⟩ (.int .i64 x1.at_);have s2':=rL eW6 ⟨g,q+k * 4+2,none⟩ (.int .i64 x1.many);have s3':=rL eW6 ⟨g,q+k * 4+3,none⟩ (.string us);have zW6_0:=zE eW6 g;have hw6:=xE wr eW6;clear eW6;have HX6:=hH hw6;clear hw6 s0 s1 s2 s3
     (refine Qa4 11 fol kR (fun W hW=> ?_);subst hW;simp only[List.take_succ_cons,List.take_zero,List.drop_succ_cons,List.drop_zero];(repeat(go_big_quiet_step (fail)));refine wpQuiet_nil ?_)
     go_wp2_with (first|(go_at_call 93;go_must ((with_reducible refine(HWP.o _ (ext_trans HX6.o Qac)).mono ?_);rintro e w4 ⟨rfl,hz4',hx4,hk4⟩;obtain⟨z,va',vg',vs',vw',vo',vd',ho4,hz4,hn4⟩:=hz4';have HO4:=hH ho4;have HZ4:=hH hz4;have HN4:=hH (Qsm hn4 (ext_trans HX6.o Qac));have HA4:=hH hx4;have HK4:=hH (Qku hk4 (show Ext wr _ from ext_trans HX6.o Qac));clear ho4 hz4 hn4 hx4 hk4)))
     go_roundw
     case rel=>exact⟨k+1,er1,z,_,_,_,_,_,vd',hlt,by go_num,rfl,HO4,hH (fun h0=>by rw[HZ4.o h0];exact HZ2.o h0),HN2,hH (RSl.more gEd (fun j hj hjl=>⟨hj.1.1,hj.1.2.1,fun e=>(HN4.o j e.symm).elim (fun e2=>hj.1.2.2 e2.symm) (fun h9=>by have:=hj.2;omega)⟩) (RSl.keep gEd (HK4.o.weaken (fun j _ hj=>hj.1.2)) (RSl.more gEd (G:=fun j=>(w.heap.size≤j∧j≠b∧some j≠vd.ownBlock)∧j<wr.heap.size) (fun j hj hl=>⟨hj,hl⟩) HL.o))),hH (fun a ha hB=>HA4.o a (ext_trans (HA.o a ha hB) (ext_trans HX6.o Qac)) hB),Nat.le_trans hwr HK4.o.size⟩
     case measure=>simp[intOf];omega
   ·obtain⟨z1,z2,_,_⟩:=HZ.o he;have hd:l.drop k=[]:=List.drop_eq_nil_of_le oM;rw[hd] at z1 z2;have z1':(0:Int)=E:=z1;have z2':x=Y:=z2;have HR:=hH (And.intro (he.trans z1') z2');clear z1 z2 hd z1' z2';go_wp2_with fail
    go_ret;exact⟨by rw[HR.o.1];rfl,⟨_,_,_,_,_,_,_,HB.o,fun _=>HR.o.2⟩,HA.o⟩
  ·have t0:(er==0)=false:=by simpa using he
   have HR:=hH (HN.o he);have HNE:=hH he;clear he;by_cases hlt:k<l.length
   ·have t9:decide (k<l.length)=true:=decide_eq_true hlt;go_wp2_with fail
    go_ret;exact⟨by rw[HR.o];rfl,⟨_,_,_,_,_,_,_,HB.o,fun e=>absurd (HR.o.trans e) HNE.o⟩,HA.o⟩
   ·have t9:decide (k<l.length)=false:=decide_eq_false hlt;go_wp2_with fail
    go_ret;exact⟨by rw[HR.o];rfl,⟨_,_,_,_,_,_,_,HB.o,fun e=>absurd (HR.o.trans e) HNE.o⟩,HA.o⟩
def Vcf (d:Dk) (t:Tx):Int:=Qd2 d (wwE d t) (wwV d t)
def Vap (d:Dk) (t:Tx):Dk:=Qhg d (wwE d t) (wwV d t)
theorem Q0n {F:Nat→Prop} {w:World} {cs:List Value} {d:Dk} {p:Nat} {u:ByteArray} (h:RDk F w cs d) (hp:w.cell? ⟨p,0,none⟩=some (.string u)) (hu:u.size≤140737488351232):
  Calls Tryz.prog 89 #[.agg cs.toArray,.func (.func 94) #[] #[.pointer (some ⟨p,0,none⟩)]] w (Qm5 (Qhg d (wwE d u.data.toList) (wwV d u.data.toList)) (Qd2 d (wwE d u.data.toList) (wwV d u.data.toList)) w):=by
 have HCK:=hH (fun(W:World) (hx:Ext w W)=>Qfk (gDk.ext h hx));have HOW:=hH (fun(hr:RightK d) (W:World) (hx:Ext w W)=>Qdr (gDk.ext h hx) hr.state (by rw[(checkI_iff.1 hr.seen).1];omega) (Nat.le_trans hr.lw oM) (Nat.le_trans hr.lo oM) hr.nw hr.no);have hpz:p<w.heap.size:=World.block_lt_of_cell? _ _ hp;have HCP:=hH (fun(W:World) (hx:Ext w W)=>(hx.cells p 0 hpz).trans hp);clear hp;obtain⟨er,her⟩:∃q:Int,wwE d u.data.toList=q:=⟨_,rfl⟩;obtain⟨y,hy⟩:∃y:Wr,wwV d u.data.toList=y:=⟨_,rfl⟩;rw[her,hy];have HCL:=hH (fun(hr:RightK d) (W:World) (hx:Ext w W) (B b:Nat) (va vg vs vw vo vd:Value) (hw:OwnWr B b (d,[]) W va vg vs vw vo vd)=>(show Calls Tryz.prog 94 #[.pointer (some ⟨b,0,none⟩),.pointer (some ⟨p,0,none⟩)] W (Qrl B b er y W) from her▸hy▸Q5l hw (HCP.o W hx) hu hr));have HRY:=hH (fun(hr:RightK d) (h0:er=0)=>(show RightW y from hy▸Q7u hr (her.trans h0)));have HYL:=hH (fun(hr:RightK d) (h0:er=0)=>(show y.2.length≤1000000 from hy▸Vch hr (her.trans h0)));clear her hy HCP;obtain⟨va,vg,vs,vw,vo,rfl,ist,ha,hg,hq,hw,ick,ho⟩:=h;obtain⟨st,ss,sn,wt,ck,ou⟩:=d;simp only at ha hg hq hw ho ick ist ⊢;obtain⟨a1,n1,k1,rfl⟩:=ha.slice;obtain⟨a2,n2,k2,rfl⟩:=hg.slice;obtain⟨a3,n3,k3,rfl⟩:=hq.slice;obtain⟨a4,n4,k4,rfl⟩:=hw.slice;obtain⟨a5,n5,k5,rfl⟩:=ho.slice;obtain rfl:n5=ou.length:=ho.len.1;clear ha hg hq hw ho;by_cases hc:Qaq ⟨st,ss,sn,wt,ck,ou⟩=0
 ·have hr:=checkK_ok.1 hc;have HO:=hH (HOW.o hr);have HC2:=hH (HCL.o hr);have HR2:=hH (HRY.o hr);have HYL:=hH (HYL.o hr);exact Zaa
 ·have HE:=hH (Qmk (d:=⟨st,ss,sn,wt,ck,ou⟩) (e:=er) (x:=y) hc);exact Zac
theorem Q1x {F:Nat→Prop} {w:World} {cs:List Value} {d:Dk} {u:ByteArray} (h:RDk F w cs d) (hu:u.size≤140737488351232):
  Calls Tryz.prog 37 #[.agg cs.toArray,.string u] w (Qm5 (Vap d u.data.toList) (Vcf d u.data.toList) w):=by
 have HWR:=hH (fun(W:World) (hx:Ext w W) (p:Nat) (hp:W.cell? ⟨p,0,none⟩=some (.string u))=>Q0n (gDk.ext h hx) hp hu);obtain⟨er,her⟩:∃q:Int,Vcf d u.data.toList=q:=⟨_,rfl⟩;obtain⟨dv,hdv⟩:∃q:Dk,Vap d u.data.toList=q:=⟨_,rfl⟩;have her':=her;have hdv':=hdv;unfold Vcf at her';unfold Vap at hdv';rw[her',hdv'] at HWR;rw[her,hdv];clear her hdv her' hdv';obtain⟨va,vg,vs,vw,vo,rfl,ist,ha,hg,hq,hw,ick,ho⟩:=h;obtain⟨st,ss,sn,wt,ck,ou⟩:=d;simp only at ha hg hq hw ho ick ist HWR ⊢;obtain⟨a1,n1,k1,rfl⟩:=ha.slice;obtain⟨a2,n2,k2,rfl⟩:=hg.slice;obtain⟨a3,n3,k3,rfl⟩:=hq.slice;obtain⟨a4,n4,k4,rfl⟩:=hw.slice;obtain⟨a5,n5,k5,rfl⟩:=ho.slice;obtain rfl:n5=ou.length:=ho.len.1;clear ha hg hq hw ho;go_enter Tryz.func37,Tryz.ntmps37;go_wp2_with (go_at_call 89;go_must ((with_reducible refine(HWR.o _ Qac (w.heap.size+1) gS).mono ?_);rintro e w3 ⟨va3,vg3,vs3,vw3,vo3,rfl,hr3,hx3⟩;have HR3:=hH hr3;obtain⟨_,_,_,_,_,he3,_,h31,h32,h33,h34,_,h35⟩:=hr3;injection he3 with _ he3;injection he3 with f1 he3;injection he3 with f2 he3;injection he3 with f3 he3;injection he3 with f4 he3;injection he3 with _ he3;injection he3 with f5 _;subst f1 f2 f3 f4 f5;obtain⟨s1,m1,l1,rfl⟩:=h31.slice;obtain⟨s2,m2,l2,rfl⟩:=h32.slice;obtain⟨s3,m3,l3,rfl⟩:=h33.slice;obtain⟨s4,m4,l4,rfl⟩:=h34.slice;obtain⟨s5,m5,l5,rfl⟩:=h35.slice;have hz3:=hx3.size;(try simp at hz3);have hb3:=zL hx3 (w.heap.size+1+1);obtain⟨z3_0,z3_1,z3_2,z3_3,z3_4,z3_5,z3_6⟩:=cC7 hx3 (w.heap.size+1+1) (.int .i64 0) (.slice none 0 0) (.slice none 0 0) (.slice none 0 0) (.slice none 0 0) (.int .i64 0) (.slice none 0 0);have g3_0:=fL hx3 (w.heap.size+1+1) 0;have g3_1:=fL hx3 (w.heap.size+1+1) 1;have g3_2:=fL hx3 (w.heap.size+1+1) 2;have g3_3:=fL hx3 (w.heap.size+1+1) 3;have g3_4:=fL hx3 (w.heap.size+1+1) 4;have g3_5:=fL hx3 (w.heap.size+1+1) 5;have g3_6:=fL hx3 (w.heap.size+1+1) 6;have HX3:=xY w hx3;clear hx3 h31 h32 h33 h34 h35))
 refine bodyPost_ret (v:= .tuple #[.agg #[.int .i64 dv.site,.slice s1 m1 l1,.slice s2 m2 l2,.slice s3 m3 l3,.slice s4 m4 l4,.int .i64 dv.clock,.slice s5 m5 l5],.int .i64 er]) (by simp[results,Tryz.results37,go_sem,z3_0,z3_1,z3_2,z3_3,z3_4,z3_5,z3_6,hb3]) rfl ⟨_,_,_,_,_,rfl,gDk.keep ?_ (gDk.more (G:=fun k=>w.heap.size≤k∧k≠w.heap.size+1+1) (fun k hk _=>(by have hk':_≤k:=hk;(try simp at hk');omega)) HR3.o) |> gDk.more (fun k hk _=>hk.1),?_⟩
 ·repeat(first|(with_reducible exact Qag)|(refine Qae ?_ ltA _))
 ·have hX3:=HX3.o;exact Qac
end Go.Proofs.YtgnccjojfebkeaaGreat
