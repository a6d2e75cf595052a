/- The text of atoms, by the document. -/
import Derived.Test.YtgnccjojfebkeaaGreatQb497ca1fba
import Derived.Laws.IdiomStrings
set_option linter.unusedVariables false
set_option linter.unusedSimpArgs false
set_option maxRecDepth 100000
set_option maxHeartbeats 4000000
namespace Go.Proofs.YtgnccjojfebkeaaGreat
open Go Go.RowKit Go.BigFrame Cp
theorem Q5f (s:UInt8) (W:World) (b:Nat) (h:W.cell? ⟨b,0,none⟩=some (.int .u8 s.toNat)):
  (convert 157 9 (.slice (some ⟨b,0,none⟩) 1 1)).run Tryz.prog W= .ok (.string ⟨#[s]⟩) W:=
 run_convert_bytes_back W 157 9 5 ⟨b,0,none⟩ 1 [s] Tryz.underlying157 Tryz.underlying5 Tryz.underlying9 (fun j hj=>by
  have:j=0:=by simpa using hj
  subst this;exact h)
def Qc3 (l:List At):List UInt8:=l.map (·.2)
theorem Qrh {l:List At} {k:Nat} {a:At} (h:l[k]?=some a):Qc3 (l.take (k+1))=Qc3 (l.take k)++[a.2]:=by
 obtain⟨h1,h2⟩:=List.getElem?_eq_some_iff.1 h;unfold Qc3;rw[List.take_succ_eq_append_getElem h1,h2,List.map_append];rfl
theorem rt {a b:ByteArray} (h:a=b):Ending.returned (.string a)= .returned (.string b):=by rw[h]
theorem Q1l (x y:ByteArray) (p q:List UInt8) (hx:x=⟨p.toArray⟩) (hy:y=⟨q.toArray⟩):x++y=⟨(p++q).toArray⟩:=by
 subst hx hy;apply ByteArray.ext
 simp
theorem Qhc {F:Nat→Prop} {w:World} {v:Value} {l:List At} (h:RSl RAt 3 F w v l) (hl3:l.length≤300):
  Calls Tryz.prog 69 #[v] w fun e w'=>e= .returned (.string ⟨(Qc3 l).toArray⟩)∧Ext w w':=by
 have HL:=hH (fun(W:World) (hx:Ext w W)=>h.ext gAt hx);obtain⟨a0,n0,c0,rfl⟩:=h.slice;obtain rfl:n0=l.length:=h.len.1;clear h;go_enter Tryz.func69,Tryz.ntmps69;go_wp2
 go_loopw [3,4] (fun tv iv wr=>∃(k:Nat) (t:ByteArray),k≤l.length∧iv= .int .i64 k∧tv= .string t∧Hid (t=⟨(Qc3 (l.take k)).toArray⟩)∧t.size=k∧Ext w wr) (fun _ iv _=>l.length-(intOf iv).toNat)
 case atStart=>exact⟨0,_,Nat.zero_le _,rfl,rfl,hH rfl,rfl,ext_refl _⟩
 case round=>
  obtain⟨k,t,hk,rfl,rfl,HT,htk,hx⟩:=hrel;have HX:=hH hx;clear hx;by_cases hlt:k<l.length
  ·obtain⟨b,o,p,d,s,ap,cp,rfl,hb,ek,ick,hpp,y0,y1,y2⟩:=Qcd (HL.o wr HX.o) hlt;have HEK:=hH (Qrh ek);obtain⟨eb,heb⟩:∃eb:ByteArray,eb=⟨#[s]⟩:=⟨_,rfl⟩;have hcv:=Q5f s;rw[←heb] at hcv;have HEB:=hH heb;have hebs:eb.size=1:=by rw[heb];rfl
   clear heb ek ick hpp;have hsum:¬9223372036854775807<t.size+eb.size:=oM;have HTK:=hH htk;have HES:=hH hebs;clear htk hebs;go_wp2_with fail
   go_roundw
   case rel=>exact⟨k+1,t++eb,oM,by go_num,rfl,hH (by rw[HEK.o];exact Q1l _ _ _ _ HT.o HEB.o),by rw[ByteArray.size_append,HTK.o,HES.o],ext_trans HX.o Qac⟩
   case measure=>simp[intOf];omega
  ·have hkl:k=l.length:=oM;subst hkl;have HF:=hH (show t=⟨(Qc3 l).toArray⟩ by have:=HT.o;rwa [List.take_of_length_le (Nat.le_refl _)] at this);clear htk;go_wp2
   go_ret;exact⟨rt HF.o,HX.o⟩
end Go.Proofs.YtgnccjojfebkeaaGreat
