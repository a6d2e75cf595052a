/- edit.Put. -/
import Derived.Test.YtgnccjojfebkeaaGreatQ05c48fb51f
import Derived.Test.YtgnccjojfebkeaaGreatQa50ddd2d9a
import Derived.Test.YtgnccjojfebkeaaGreatQ453a98ae2d
import Derived.Test.YtgnccjojfebkeaaGreatQa8dd6a34a9
import Derived.Deep.RegionHeldLaw
import Derived.Laws.EntriesVeiled
import Derived.Deep.RegionLaw
set_option linter.unusedVariables false
set_option linter.unusedSimpArgs false
set_option maxRecDepth 100000
set_option maxHeartbeats 4000000
namespace Go.Proofs.YtgnccjojfebkeaaGreat
open Go Go.RowKit Go.BigFrame Cp
theorem Qga {g:Nat} {n:Int} {w:World} (h0:w.cell? ⟨g,0,none⟩=some (.int .i64 n)) (h1:g<w.heap.size):Qjq g n w:=⟨h0,h1⟩
theorem Q1h {r g k:Nat} {w:World} (h0:w.cell? ⟨r,0,none⟩=some (.func (.func 204) #[] #[.pointer (some ⟨g,0,none⟩),.pointer (some ⟨k,0,none⟩)])) (h1:r<w.heap.size):Vai r g k w:=⟨h0,h1⟩
theorem Q8u {a b:Nat} (h:a≤300) (hb:b≤1):a+b≤maxLen:=Nat.le_trans (by omega:a+b≤301) (by unfold maxLen;decide)
theorem Q8t {a b:Nat} (h:a≤300) (hb:b≤1):(a+b) * 40≤140737488355328:=oM
theorem Qgk {s:St} {p:Int} {t:Tx} {site clock:Int} (h:¬Qet s p t site clock=0):Qj6 s p t site clock=[]:=by unfold Qj6;rw[if_neg h]
theorem Q65 {F:Nat→Prop} {w:World} {v:Value} {p:List Stp} {c:Int} {t:ByteArray} (h:RSl Qdt 2 F w v p) (hc:I64 c) (ht:t.size≤140737488351232):
  RDe F w [.int .i64 1,v,.int .i64 c,.string t,.slice none 0 0,.int .i64 0,.int .i64 0] (Qdw ((p,c),t.data.toList)):=
 ⟨_,_,_,rfl,Qal (by simp[Qdw]) (by simp[Qdw]),h,hc,Qss ht,RSl.nil_ (Nat.zero_le _),Qal (by simp[Qdw]) (by simp[Qdw]),Qal (by simp[Qdw]) (by simp[Qdw])⟩
theorem Q0c {α:Type} {l:List α} {k:Nat} {a:α} (h:l[k]?=some a):l.take (k+1)=l.take k++[a]:=by
 obtain⟨h1,h2⟩:=List.getElem?_eq_some_iff.1 h;rw[List.take_succ_eq_append_getElem h1,h2]
theorem Q9q {p:Int} {n:Nat} (h:Qb8 p 0 n=true):∃i:Nat,p=(i:Int)∧i≤n:=by
 obtain⟨i,j,h1,_,h2⟩:=Qgx h;exact⟨i,h1,oM⟩
theorem Vci {q:List Mk} {t:ByteArray} {k:Nat} {m:Mk} (h:q[k]?=some m) (hk:k<t.size):(q.zip t.data.toList)[k]?=some (m,t[k]):=
 List.getElem?_zip_eq_some.2 ⟨h,by rw[List.getElem?_eq_getElem (by simpa using hk)];rfl⟩
theorem Qgi {p:Prop} (h:p:=by
 go_enter Tryz.func166,Tryz.ntmps166;go_wp2_with (first
  |(go_at_call 182;go_must ((with_reducible refine(HCK.o _ Qac).mono ?_);rintro e w1 ⟨rfl,hx1⟩;have hs1:=hx1.size;(try simp at hs1);obtain⟨l1_0,l1_1,l1_2⟩:=zL3 hx1 w.heap.size;obtain⟨p0,p1⟩:=cC2 hx1 (w.heap.size) (.slice a0 la.length c0) (.slice a1 lg.length c1);have p2:=cL hx1 (w.heap.size+1) 0 (.int .i64 site);have p3:=cL hx1 (w.heap.size+1+1) 0 (.int .i64 clock);have HX1:=xY w hx1))
  |(go_at_call 206;go_must ((with_reducible refine(HIN.o _).mono ?_);rintro e w9 ⟨rfl,rfl⟩;))
  |(go_at_call 207;go_must ((with_reducible refine(Qjo (HLG.o _ (ext_trans HX1.o Qac)) HGK.o (g:=w.heap.size+1) (k:=w.heap.size+1+1) (site:=site) (clock:=clock) (Qga asG ltA) (Qga asG ltA)).mono ?_);rintro e w2 ⟨rfl,hx2⟩;rw[HUG.o];have hs2:=hx2.size;(try simp at hs2);obtain⟨l2_0,l2_1,l2_2⟩:=zL3 hx2 w.heap.size;have l2_3:=zL hx2 w1.heap.size;obtain⟨q0,q1⟩:=cC2 hx2 (w.heap.size) (.slice a0 la.length c0) (.slice a1 lg.length c1);have q2:=cL hx2 (w.heap.size+1) 0 (.int .i64 site);have q3:=cL hx2 (w.heap.size+1+1) 0 (.int .i64 clock);have q4:=cL hx2 (w1.heap.size) 0 (.func (.func 204) #[] #[.pointer (some ⟨w.heap.size+1,0,none⟩),.pointer (some ⟨w.heap.size+1+1,0,none⟩)]);have HX2:=xX HX1 hx2))
  |(go_at_call 208;go_must ((with_reducible refine(Qjn (HLA.o _ (ext_trans HX2.o Qac)) HAK.o (g:=w.heap.size+1) (k:=w.heap.size+1+1) (site:=site) (clock:=clock) (r:=w1.heap.size) (Qga asG ltA) (Qga asG ltA) (Q1h asG ltA)).mono ?_);rintro e w3 ⟨rfl,hx3⟩;rw[HUA.o];have hs3:=hx3.size;(try simp at hs3);obtain⟨l3_0,l3_1,l3_2⟩:=zL3 hx3 w.heap.size;have l3_3:=zL hx3 w1.heap.size;obtain⟨r0,r1⟩:=cC2 hx3 (w.heap.size) (.slice a0 la.length c0) (.slice a1 lg.length c1);have r2:=cL hx3 (w.heap.size+1) 0 (.int .i64 site);have r3:=cL hx3 (w.heap.size+1+1) 0 (.int .i64 clock);have r4:=cL hx3 (w1.heap.size) 0 (.func (.func 204) #[] #[.pointer (some ⟨w.heap.size+1,0,none⟩),.pointer (some ⟨w.heap.size+1+1,0,none⟩)]);have HX3:=xX HX2 hx3))
  |(go_at_call 168;go_must ((with_reducible refine(HSG.o _).mono ?_);rintro e w9 ⟨rfl,rfl⟩;))
  |(go_at_call 210;go_must ((with_reducible refine(HNR.o _ (ext_trans HX3.o Qac)).mono ?_);rintro e w4 ⟨cs4,ds4,rfl,hA4,hB4,hx4⟩;obtain⟨v4,rfl,hv4,hi4⟩:=hA4;obtain⟨a4,n4,c4,rfl⟩:=hv4.slice;obtain rfl:n4=pa.length:=hv4.len.1;have HV4:=hH hv4;have HI4:=hH hi4;clear hv4 hi4;obtain⟨u4,rfl,hv4,hi4⟩:=hB4;obtain⟨a4',n4',c4',rfl⟩:=hv4.slice;obtain rfl:n4'=pb.length:=hv4.len.1;have HU4:=hH hv4;have HJ4:=hH hi4;clear hv4 hi4;have hs4:=hx4.size;(try simp at hs4);obtain⟨l4_0,l4_1,l4_2⟩:=zL3 hx4 w.heap.size;obtain⟨s0,s1⟩:=cC2 hx4 (w.heap.size) (.slice a0 la.length c0) (.slice a1 lg.length c1);have s2:=cL hx4 (w.heap.size+1) 0 (.int .i64 site);have s3:=cL hx4 (w.heap.size+1+1) 0 (.int .i64 clock);have HX4:=xX HX3 hx4))
  |(go_at_call 211;go_must ((with_reducible refine(HBT.o _ _ _ _ _ (Qam (HV4.o.ext Qap Qac) HI4.o) (Qam (HU4.o.ext Qap Qac) HJ4.o)).mono ?_);rintro e w5 ⟨v5,rfl,hv5,hx5⟩;obtain⟨a5,n5,c5,rfl⟩:=hv5.slice;clear hv5;have HX5:=xX HX4 hx5)))
 first
 |(
   clear zqa;refine bodyPost_ret (v:= .tuple #[.slice none 0 0,.int .i64 4]) (by simp[results,Tryz.results166,go_sem]) rfl ⟨_,rfl,RSl.nil_ (Nat.zero_le _),ext_trans HX2.o Qac⟩
   done)
 |(
   clear zqb;refine bodyPost_ret (v:= .tuple #[.slice none 0 0,.int .i64 4]) (by simp[results,Tryz.results166,go_sem]) rfl ⟨_,rfl,RSl.nil_ (Nat.zero_le _),ext_trans HX3.o Qac⟩
   done)
 |(
   clear zqc;refine bodyPost_ret (v:= .tuple #[.slice none 0 0,.int .i64 2]) (by simp[results,Tryz.results166,go_sem]) rfl ⟨_,rfl,RSl.nil_ (Nat.zero_le _),ext_trans HX3.o Qac⟩
   done)
 |(
   clear zqd;refine bodyPost_ret (v:= .tuple #[.slice none 0 0,.int .i64 1]) (by simp[results,Tryz.results166,go_sem]) rfl ⟨_,rfl,RSl.nil_ (Nat.zero_le _),ext_trans HX3.o Qac⟩
   done)
 |(
   clear zqe;refine bodyPost_ret (v:= .tuple #[.slice none 0 0,.int .i64 3]) (by simp[results,Tryz.results166,go_sem]) rfl ⟨_,rfl,RSl.nil_ (Nat.zero_le _),ext_trans HX3.o Qac⟩
   done)
 |(
   clear zqf;refine bodyPost_ret (v:= .tuple #[.slice none 0 0,.int .i64 3]) (by simp[results,Tryz.results166,go_sem]) rfl ⟨_,rfl,RSl.nil_ (Nat.zero_le _),ext_trans HX1.o Qac⟩
   done)
 |(
   clear zqg;refine bodyPost_ret (v:= .tuple #[.slice none 0 0,.int .i64 er]) (by simp[results,Tryz.results166,go_sem]) rfl ⟨_,rfl,RSl.nil_ (Nat.zero_le _),ext_trans HX5.o Qac⟩
   done)):p:=h
theorem Qvv {F:Nat→Prop} {w:World} {cs:List Value} {s:St} {p site clock:Int} {u:ByteArray} (h:RSt F w cs s) (ip:I64 p) (hu:u.size≤140737488351232) (ic:I64 clock):
  Calls Tryz.prog 166 #[.agg cs.toArray,.int .i64 p,.string u,.int .i64 site,.int .i64 clock] w (Q7v (Qj6 s p u.data.toList site clock) (Qet s p u.data.toList site clock) w):=by
 have hul:u.data.toList.length=u.size:=sI;have HCK:=hH (fun(W:World) (hx:Ext w W)=>Qeg (gSt.ext h hx));have HSG:=hH (fun(W:World)=>Qfa u W (Nat.le_trans hu (by unfold maxLen;decide)));have HNR0:=hH (fun(k:Nat) (hk:k≤s.1.length) (h3:s.1.length≤300) (W:World) (hx:Ext w W)=>Q6l (gSt.ext h hx) hk h3);obtain⟨v,x,rfl,h1,h2⟩:=h;obtain⟨la,lg⟩:=s;simp only at h1 h2 HCK HNR0;have HLA:=hH (fun(W:World) (hx:Ext w W)=>h1.ext gAt hx);have HLG:=hH (fun(W:World) (hx:Ext w W)=>h2.ext gMk hx);obtain⟨a0,n0,c0,rfl⟩:=h1.slice;obtain⟨a1,n1,c1,rfl⟩:=h2.slice;obtain rfl:n0=la.length:=h1.len.1;obtain rfl:n1=lg.length:=h2.len.1;clear h1 h2;by_cases h0:Qax (la,lg)=0
 ·have hfs:=checkS_fit.1 h0;have hn:la.length≤300:=hfs.2.1;have HGK:=hH hfs.1.2.2.1;have HAK:=hH (fun x hx=>(hfs.1.1.2 x hx).1);have HIN:=hH (fun(W:World)=>Qqq p 0 la.length W ip (Qal sI sI) oM);clear hfs;by_cases hi:Qb8 p 0 la.length=true
  ·obtain⟨k,rfl,hk⟩:=Q9q hi;have HNR1:=hH (HNR0.o k hk hn);rw[hi] at HIN;by_cases hug:(lg.any fun x=>Qb2 site clock x)=true
   ·have hE:Qet (la,lg) k u.data.toList site clock=4:=by unfold Qet Qjh;simp only[h0,hi,hug];simp
    rw[Qgk (by rw[hE];decide),hE];have HUG:=hH hug;rw[h0] at HCK;clear h0 hi hug hE ip ic HNR0 HNR1;have zqa:=trivial;exact Qgi
   ·have hug':(lg.any fun x=>Qb2 site clock x)=false:=by simpa using hug
    have HUG:=hH hug';by_cases hua:(la.any fun x=>Qb2 site clock x.1)=true
    ·have hE:Qet (la,lg) k u.data.toList site clock=4:=by unfold Qet Qjh;simp only[h0,hi,hug',hua];simp
     rw[Qgk (by rw[hE];decide),hE];have HUA:=hH hua;rw[h0] at HCK;clear h0 hi hug hug' hua hE ip ic HNR0 HNR1;have zqb:=trivial;exact Qgi
    ·have hua':(la.any fun x=>Qb2 site clock x.1)=false:=by simpa using hua
     have HUA:=hH hua';have hus:Qjh (la,lg) site clock=false:=by unfold Qjh;simp only[hug',hua'];rfl
     by_cases hm:60<u.size∨300<la.length+u.size
     ·have hE:Qet (la,lg) k u.data.toList site clock=2:=by unfold Qet;rw[if_neg (by simpa using h0),if_neg (by simp only[hi];simp),if_neg (by rw[hus];simp),if_pos (by rw[hul];exact hm)]
      rw[Qgk (by rw[hE];decide),hE];rw[h0] at HCK;clear h0 hi hug hug' hua hua' hE hus ip ic HNR0 HNR1;by_cases h60:60<u.size
      ·have t1:decide ((60:Int)<(u.size:Int))=true:=decide_eq_true oM;have hu9:u.size≤9223372036854775807:=oM;have zqc:=trivial;exact Qgi
      ·have t1:decide ((60:Int)<(u.size:Int))=false:=decide_eq_false oM;have t2:decide ((300:Int)<(la.length:Int)+(u.size:Int))=true:=decide_eq_true oM;have hu9:u.size≤60:=oM;have zqc:=trivial;exact Qgi
     ·have hu9:u.size≤60:=oM;have hlu:la.length+u.size≤300:=oM;have t1:decide ((60:Int)<(u.size:Int))=false:=decide_eq_false oM;have t2:decide ((300:Int)<(la.length:Int)+(u.size:Int))=false:=decide_eq_false oM;by_cases hz:u.size=0
      ·have he:=Qgw hz;have hE:Qet (la,lg) k u.data.toList site clock=1:=by unfold Qet;rw[if_neg (by simpa using h0),if_neg (by simp only[hi];simp),if_neg (by rw[hus];simp),if_neg (by rw[hul];exact hm),if_pos (Qe3 hz)]
       rw[Qgk (by rw[hE];decide),hE];rw[h0] at HCK;clear h0 hi hug hug' hua hua' hE hus hm ip ic HNR0 HNR1 hz;have zqd:=trivial;exact Qgi
      ·have he:=Qi3 hz;by_cases hsg:Qbj u.data.toList=true
       ·have hE:Qet (la,lg) k u.data.toList site clock=Qa5 (Qej la k) (Qdd la k) site clock u.size:=by unfold Qet;rw[if_neg (by simpa using h0),if_neg (by simp only[hi];simp),if_neg (by rw[hus];simp),if_neg (by rw[hul];exact hm),if_neg (Qdg hz),if_neg (by rw[hsg];simp),hul,Int.toNat_natCast]
        have HBT0:=hH (fun(W:World) (F G:Nat→Prop) (cs ds:List Value) (ha:RMk F W cs (Qej la k)) (hb:RMk G W ds (Qdd la k))=>Q21 (site:=site) ha hb ic (show I64 (u.size:Int) from Qal oM oM));have HZR:=hH (fun h=>Qu7 (a:=Qej la k) (b:=Qdd la k) (site:=site) (clock:=clock) (t:=u.data.toList) h hsg (by rw[hul];exact hu9));rw[hul] at HZR;have hV:Qa5 (Qej la k) (Qdd la k) site clock u.size=0→Qj6 (la,lg) k u.data.toList site clock=(Qct ((Qdk (Qej la k) (Qdd la k) site clock u.size).zip u.data.toList)).map Qdw:=fun h=>by
         unfold Qj6 Qf5 Q98;rw[if_pos (by rw[hE];exact h),Int.toNat_natCast,hul]
        rw[hsg] at HSG;rw[h0] at HCK;by_cases hb0:Qa5 (Qej la k) (Qdd la k) site clock u.size=0
        ·rw[hV hb0,hE,hb0];rw[if_pos hb0] at HBT0;rw[hb0] at HBT0;obtain⟨hql,hck⟩:=HZR.o hb0;generalize Qdk (Qej la k) (Qdd la k) site clock u.size=q at *;generalize Qej la k=na at *;generalize Qdd la k=nb at *;obtain⟨pa,ca⟩:=na;obtain⟨pb,cb⟩:=nb;have HBT:=HBT0;have HNR:=HNR1;have HQL:=hH hql;have hq60:q.length≤60:=oM;have HRO:=hH (fun(W:World) (G:Nat→Prop) (v:Value) (hx:Ext w W) (hv:RSl RAt 3 G W v (q.zip u.data.toList))=>Qup hv hck);have hrk:=(Qiv hck).2.1;have hzl:(q.zip u.data.toList).length=q.length:=by rw[List.length_zip,hul];omega
         have hrl:(Qct (q.zip u.data.toList)).length≤60:=by have:=Qg7 (q.zip u.data.toList);omega
         obtain⟨zs,hzs⟩:∃zs,zs=q.zip u.data.toList:=⟨_,rfl⟩;have HZS:=hH hzs;rw[←hzs] at HRO hrk hzl hrl ⊢;generalize Qct zs=rs at *;have HRK:=hH hrk;have HZL:=hH hzl;obtain⟨i0,hi0,hz0,hz1',hz2⟩:=info_parts Qr6;have HJ:=hH hi0;have HZ0:=hH hz0;have HZ1:=hH hz1';have HZ2:=hH hz2;obtain⟨j0,hj0,hy0,hy1,hy2⟩:=info_parts Qks;have HJA:=hH hj0;have HZA0:=hH hy0;have HZA1:=hH hy1;have HZA2:=hH hy2;clear h0 hi hug hug' hua hua' hE hus hm ip ic HNR0 HNR1 HBT0 hsg hb0 hV HZR hql hck hrk hzl hzs hi0 hz0 hz1' hz2 hj0 hy0 hy1 hy2 hz;go_enter Tryz.func166,Tryz.ntmps166;go_wp2_with (first|(go_at_call 182;go_must ((with_reducible refine(HCK.o _ Qac).mono ?_);rintro e w1 ⟨rfl,hx1⟩;have hs1:=hx1.size;(try simp at hs1);obtain⟨l1_0,l1_1,l1_2⟩:=zL3 hx1 w.heap.size;obtain⟨p0,p1⟩:=cC2 hx1 (w.heap.size) (.slice a0 la.length c0) (.slice a1 lg.length c1);have p2:=cL hx1 (w.heap.size+1) 0 (.int .i64 site);have p3:=cL hx1 (w.heap.size+1+1) 0 (.int .i64 clock);have HX1:=xY w hx1))|(go_at_call 206;go_must ((with_reducible refine(HIN.o _).mono ?_);rintro e w9 ⟨rfl,rfl⟩;))|(go_at_call 207;go_must ((with_reducible refine(Qjo (HLG.o _ (ext_trans HX1.o Qac)) HGK.o (g:=w.heap.size+1) (k:=w.heap.size+1+1) (site:=site) (clock:=clock) (Qga asG ltA) (Qga asG ltA)).mono ?_);rintro e w2 ⟨rfl,hx2⟩;rw[HUG.o];have hs2:=hx2.size;(try simp at hs2);obtain⟨l2_0,l2_1,l2_2⟩:=zL3 hx2 w.heap.size;have l2_3:=zL hx2 w1.heap.size;obtain⟨q0,q1⟩:=cC2 hx2 (w.heap.size) (.slice a0 la.length c0) (.slice a1 lg.length c1);have q2:=cL hx2 (w.heap.size+1) 0 (.int .i64 site);have q3:=cL hx2 (w.heap.size+1+1) 0 (.int .i64 clock);have q4:=cL hx2 (w1.heap.size) 0 (.func (.func 204) #[] #[.pointer (some ⟨w.heap.size+1,0,none⟩),.pointer (some ⟨w.heap.size+1+1,0,none⟩)]);have HX2:=xX HX1 hx2))|(go_at_call 208;go_must ((with_reducible refine(Qjn (HLA.o _ (ext_trans HX2.o Qac)) HAK.o (g:=w.heap.size+1) (k:=w.heap.size+1+1) (site:=site) (clock:=clock) (r:=w1.heap.size) (Qga asG ltA) (Qga asG ltA) (Q1h asG ltA)).mono ?_);rintro e w3 ⟨rfl,hx3⟩;rw[HUA.o];have hs3:=hx3.size;(try simp at hs3);obtain⟨l3_0,l3_1,l3_2⟩:=zL3 hx3 w.heap.size;have l3_3:=zL hx3 w1.heap.size;obtain⟨r0,r1⟩:=cC2 hx3 (w.heap.size) (.slice a0 la.length c0) (.slice a1 lg.length c1);have r2:=cL hx3 (w.heap.size+1) 0 (.int .i64 site);have r3:=cL hx3 (w.heap.size+1+1) 0 (.int .i64 clock);have r4:=cL hx3 (w1.heap.size) 0 (.func (.func 204) #[] #[.pointer (some ⟨w.heap.size+1,0,none⟩),.pointer (some ⟨w.heap.size+1+1,0,none⟩)]);have HX3:=xX HX2 hx3))|(go_at_call 168;go_must ((with_reducible refine(HSG.o _).mono ?_);rintro e w9 ⟨rfl,rfl⟩;))|(go_at_call 210;go_must ((with_reducible refine(HNR.o _ (ext_trans HX3.o Qac)).mono ?_);rintro e w4 ⟨cs4,ds4,rfl,hA4,hB4,hx4⟩;obtain⟨v4,rfl,hv4,hi4⟩:=hA4;obtain⟨a4,n4,c4,rfl⟩:=hv4.slice;obtain rfl:n4=pa.length:=hv4.len.1;have HV4:=hH hv4;have HI4:=hH hi4;clear hv4 hi4;obtain⟨u4,rfl,hv4,hi4⟩:=hB4;obtain⟨a4',n4',c4',rfl⟩:=hv4.slice;obtain rfl:n4'=pb.length:=hv4.len.1;have HU4:=hH hv4;have HJ4:=hH hi4;clear hv4 hi4;have hs4:=hx4.size;(try simp at hs4);obtain⟨l4_0,l4_1,l4_2⟩:=zL3 hx4 w.heap.size;obtain⟨s0,s1⟩:=cC2 hx4 (w.heap.size) (.slice a0 la.length c0) (.slice a1 lg.length c1);have s2:=cL hx4 (w.heap.size+1) 0 (.int .i64 site);have s3:=cL hx4 (w.heap.size+1+1) 0 (.int .i64 clock);have HX4:=xX HX3 hx4))|(go_at_call 211;go_must ((with_reducible refine(HBT.o _ _ _ _ _ (Qam (HV4.o.ext Qap Qac) HI4.o) (Qam (HU4.o.ext Qap Qac) HJ4.o)).mono ?_);rintro e w5 ⟨v5,rfl,hv5,hx5⟩;obtain⟨a5,n5,c5,rfl⟩:=hv5.slice;obtain rfl:n5=q.length:=hv5.len.1;have HV5:=hH hv5;clear hv5;have HX5:=xX HX4 hx5)))
         refine Qad (fun wb ewb=> ?_);have HXB0:=hH (show Ext w wb by rw[ewb];exact ext_trans HX5.o Qac);have HQ:=hH (show RSl RMk 2 (fun j=>j<wb.heap.size) wb (.slice a5 q.length c5) q from RSl.more gMk (fun _ _ hl=>hl) (by rw[ewb];exact HV5.o.ext gMk Qac));clear ewb HV5 HX1 HX2 HX3 HX4 HX5 hx1 hx2 hx3 hx4 hx5 p0 p1 p2 p3 q0 q1 q2 q3 q4 r0 r1 r2 r3 r4 s0 s1 s2 s3 HV4 HU4 HI4 HJ4 HNR HBT HLA HLG HIN HSG HCK HUG HUA HGK HAK t1 t2 he;go_loopw [18,89] (fun ov iv wr=>∃j:Nat,j≤q.length∧iv= .int .i64 j∧Hid (OSl RAt 3 129 wb.heap.size (fun _=>True) wr ov (zs.take j))∧Hid (Ext wb wr)) (fun _ iv _=>q.length-(intOf iv).toNat)
         case atStart=>exact⟨0,Nat.zero_le _,rfl,hH Qbn,hH (ext_refl _)⟩
         case round=>
          obtain⟨j,hj,rfl,HO,HX⟩:=hrel;have HOL:=hH (Qak HO.o);obtain⟨a6,n6,c6,rfl⟩:=Qab HO.o;obtain rfl:n6=(zs.take j).length:=(Qa2 HO.o).1;have hml:(zs.take j).length=j:=by rw[List.length_take,HZL.o];omega
          have hsr:=HX.o.size;by_cases hlt:j<q.length
          ·obtain⟨b,o,pm,dm,ap,cp,rfl,hb,ek,ick,hpp,y0,y1⟩:=Qc7 HQ.o hlt;have yr0:=(HX.o.cells _ _ hb).trans y0;have yr1:=(HX.o.cells _ _ hb).trans y1;have hju:j<u.size:=by have:=HQL.o;omega
           have hz9:=Vci ek hju;rw[←HZS.o] at hz9;have hsn:=Q0c hz9;have HIC:=hH ick;have HPP:=hH (fun(W:World) (hx:Ext wr W)=>hpp.ext Qap (ext_trans HX.o hx));have hbr:b<wr.heap.size:=oM;clear ek ick hpp hz9;rw[hml] at HO HOL ⊢;generalize zs.take j=ms at *;go_wp2_with fail
           refine Qad (fun W4 eW4=> ?_);obtain⟨e0,e1⟩:=rR2 eW4 wr.heap.size (.slice ap pm.length cp) (.int .i64 dm);have zb:wr.heap.size<W4.heap.size:=by rw[eW4];first|omega|(simp<;>omega)
           have hw4:=xE wr eW4;clear eW4;go_region_law (((refine Qa7 gAt (by rfl) (.tmp 94) (.tmp 100) 39 (by rfl) wb.heap.size 129 j0 _ 3 40 Tryz.underlying39 HJA.o HZA0.o HZA1.o HZA2.o (by rfl) oM (F:=fun _=>True) (G:=fun j=>j<wb.heap.size∨j=W4.heap.size) (.slice a6 j c6) ms (by rfl) (Qai gAt HO.o (ext_trans hw4 Qac)) (.slice (some ⟨W4.heap.size,0,none⟩) 1 1) [_] (by rfl) (Q08 (s:=u[j]) (RSl.more Qap (fun j hj _=>Or.inl hj) (HPP.o _ (ext_trans hw4 Qac))) HIC.o asG asG asG (Or.inr rfl) ltA) Qe7 (fun j hj _=>⟨trivial,fun e=>by have:=HOL.o j e.symm;rcases hj with h|h<;>omega⟩) (Q8u oM sI) (Q8t oM sI) ltA ?_);intro v9 w9 hown9 hg9 hat9;have hx9:Ext wb w9:=Qao (ext_trans HX.o (ext_trans hw4 Qac)) hg9 (fun j hj=>(HOL.o j hj).1)))
           all_goals go_wp2_with fail
           all_goals go_roundw
           all_goals first
            |exact⟨j+1,oM,by go_num,hH (by rw[hsn];exact hown9),hH hx9⟩
            |(simp[intOf];omega)
          ·obtain rfl:j=q.length:=oM;have hzt:zs.take q.length=zs:=List.take_of_length_le (by rw[HZL.o];exact Nat.le_refl _);rw[hzt] at HO hml ⊢;have HAF:=hH (Qaz gAt HO.o (G:=fun _=>True) (fun _ _ _=>trivial) (fun _ _=>trivial));have HXC:=hH (ext_trans HXB0.o HX.o);rw[hml] at HAF ⊢;clear HO HX HOL HQ;go_wp2_with (first|(go_at_call 212;go_must ((with_reducible refine(HRO.o _ _ _ (ext_trans HXC.o Qac) (HAF.o.ext gAt Qac)).mono ?_);rintro e w6 ⟨v6,rfl,hv6,hx6⟩;obtain⟨a8,n8,c8,rfl⟩:=hv6.slice;obtain rfl:n8=rs.length:=hv6.len.1;have HV6:=hH hv6;have HX6:=xX HXC hx6;have HZ6:=hH hx6.size;clear hv6)))
           refine Qad (fun wd ewd=> ?_);have HWD:=hH (show Ext w wd by rw[ewd];exact ext_trans HX6.o Qac);have HRS0:RSl RRn 3 (fun k=>wr.heap.size≤k) wd (.slice a8 rs.length c8) rs:=by rw[ewd];exact HV6.o.ext gRn Qac
           have HRS:=hH (show RSl RRn 3 (fun j=>w.heap.size≤j∧j<wd.heap.size) wd (.slice a8 rs.length c8) rs from RSl.more gRn (fun j hj hlt=>⟨by have:=HXC.o.size;omega,hlt⟩) HRS0);clear ewd HRS0 HV6 HX6 hx6 HRO HAF HXC HXB0 HZ6;go_loopw [21,106] (fun ov iv wr=>∃m:Nat,m≤rs.length∧iv= .int .i64 m∧Hid (OSl RDe 7 136 wd.heap.size (fun j=>w.heap.size≤j) wr ov ((rs.take m).map Qdw))∧Hid (Ext wd wr)) (fun _ iv _=>rs.length-(intOf iv).toNat)
           case atStart=>exact⟨0,Nat.zero_le _,rfl,hH Qbn,hH (ext_refl _)⟩
           case round=>
            obtain⟨m,hm,rfl,HO,HX⟩:=hrel;have HOL:=hH (Qak HO.o);obtain⟨a7,n7,c7,rfl⟩:=Qab HO.o;obtain rfl:n7=((rs.take m).map Qdw).length:=(Qa2 HO.o).1;have hml2:((rs.take m).map Qdw).length=m:=by rw[List.length_map,List.length_take];omega
            have hsr2:=HX.o.size;have hwd:=HWD.o.size;by_cases hlt2:m<rs.length
            ·obtain⟨b,o,pp,cc,t,ap,cp,rfl,hb,ek,ht,ick,hpp,y0,y1,y2⟩:=Qya (HRS.o.ext gRn HX.o) hlt2;have HDE:=hH (fun(W:World) (hx:Ext wr W)=>Q65 (hpp.ext Qap hx) ick ht);have hsn:=Qxp (f:=Qdw) ek;have hbr:b<wr.heap.size:=hb;clear ek hpp ht ick;rw[hml2] at HO HOL ⊢;generalize (rs.take m).map Qdw=ms at *;go_wp2_with (first|(at_builtin;go_must (refine Qaj gDe rfl (.tmp 110) (.tmp 113) 46 rfl wd.heap.size 136 i0 _ 7 96 Tryz.underlying46 HJ.o HZ0.o HZ1.o HZ2.o rfl oM (F:=fun j=>w.heap.size≤j) (G:=fun j=>(w.heap.size≤j∧j<wd.heap.size)∨j=wr.heap.size+1) (.slice a7 m c7) ms rfl (Qai gDe HO.o Qac) _ [_] rfl (Q8a (HDE.o _ Qac) asG asG asG asG asG asG asG) Qwg (fun j hj _=>⟨by rcases hj with h|h<;>omega,fun e=>by have:=HOL.o j e.symm;rcases hj with h|h<;>omega⟩) (Q1v oM sI) (Q1u oM sI) ltA ?_;intro v9 w9 hown9 hg9 hat9;obtain⟨a9,n9,c9,rfl⟩:=Qab hown9;have HX9:=hH (show Ext wd w9 from Qao (ext_trans HX.o Qac) hg9 (fun j hj=>(HOL.o j hj).1));have HV9:=hH hown9)))
             go_roundw
             case rel=>exact⟨m+1,oM,by go_num,hH (by rw[hsn];exact HV9.o),HX9⟩
             case measure=>simp[intOf];omega
            ·obtain rfl:m=rs.length:=oM;rw[List.take_of_length_le (Nat.le_refl _)] at *;go_wp2_with fail
             refine bodyPost_ret (v:= .tuple #[.slice a7 (rs.map Qdw).length c7,.int .i64 0]) (by simp[results,Tryz.results166,go_sem]) rfl ⟨_,rfl,Qaz gDe (Qai gDe HO.o Qac) (fun j hj _=>hj) (fun j hj=>by omega),ext_trans HWD.o (ext_trans HX.o Qac)⟩
        ·have g0:(Qa5 (Qej la k) (Qdd la k) site clock u.size !=0)=true:=by simpa using hb0
         rw[Qgk (by rw[hE];exact hb0),hE];rw[if_neg hb0] at HBT0;generalize Qa5 (Qej la k) (Qdd la k) site clock u.size=er at *;generalize Qej la k=na at *;generalize Qdd la k=nb at *;obtain⟨pa,ca⟩:=na;obtain⟨pb,cb⟩:=nb;have HBT:=HBT0;have HNR:=HNR1;clear h0 hi hug hug' hua hua' hE hus hm ip ic HNR0 HNR1 HBT0 hsg hb0 hV HZR hz;have zqg:=trivial;exact Qgi
       ·have hsg':Qbj u.data.toList=false:=by simpa using hsg
        have hE:Qet (la,lg) k u.data.toList site clock=3:=by unfold Qet;rw[if_neg (by simpa using h0),if_neg (by simp only[hi];simp),if_neg (by rw[hus];simp),if_neg (by rw[hul];exact hm),if_neg (Qdg hz),if_pos hsg']
        rw[Qgk (by rw[hE];decide),hE];rw[hsg'] at HSG;rw[h0] at HCK;clear h0 hi hug hug' hua hua' hE hus hm ip ic HNR0 HNR1 hz hsg hsg';have zqe:=trivial;exact Qgi
  ·have hi':Qb8 p 0 la.length=false:=by simpa using hi
   have hE:Qet (la,lg) p u.data.toList site clock=3:=by unfold Qet;rw[if_neg (by simpa using h0),if_pos hi']
   rw[Qgk (by rw[hE];decide),hE];rw[hi'] at HIN;rw[h0] at HCK;clear h0 hi hi' hE ip ic HNR0;have zqf:=trivial;exact Qgi
 ·have hE:Qet (la,lg) p u.data.toList site clock=Qax (la,lg):=by unfold Qet;rw[if_pos h0]
  rw[Qgk (by rw[hE];exact h0),hE];have g0:(Qax (la,lg) !=0)=true:=by simpa using h0
  generalize Qax (la,lg)=er at *;clear h0 hE ip ic HNR0;go_enter Tryz.func166,Tryz.ntmps166;go_wp2_with (first|(go_at_call 182;go_must ((with_reducible refine(HCK.o _ Qac).mono ?_);rintro e w1 ⟨rfl,hx1⟩;have HX1:=xY w hx1)))
  refine bodyPost_ret (v:= .tuple #[.slice none 0 0,.int .i64 er]) (by simp[results,Tryz.results166,go_sem]) rfl ⟨_,rfl,RSl.nil_ (Nat.zero_le _),ext_trans HX1.o Qac⟩
end Go.Proofs.YtgnccjojfebkeaaGreat
