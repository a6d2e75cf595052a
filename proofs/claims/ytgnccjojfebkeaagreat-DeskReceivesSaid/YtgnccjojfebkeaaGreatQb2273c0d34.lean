/- Desks, plain: what the calls of deskBegun come to. -/
import Derived.WalkKit
import Derived.Test.YtgnccjojfebkeaaGreatQ05c48fb51f
import Derived.Test.YtgnccjojfebkeaaGreatQfc0f38224b
import Derived.Test.YtgnccjojfebkeaaGreatQ7826b3be5b
set_option linter.unusedVariables false
set_option linter.unusedSimpArgs false
set_option maxRecDepth 100000
namespace Go.Proofs.YtgnccjojfebkeaaGreat
open Go Cp
def Vaj:Mk:=([(3,0)],1)
def Vak:Mk:=([(4,0)],2)
def Va6:Mk:=([(3,0),(1,1)],1)
def Vc2:Mk:=([(4,1)],2)
def Vck:Mk:=([],0)
def Vd1:De:=⟨1,(Va6,[97]),Vck,0⟩
def Vd2:De:=⟨2,(Vck,[]),Vaj,1⟩
def Vd3:De:=⟨2,(Vck,[]),Vak,1⟩
def Vd4:De:=⟨1,(Vc2,[104]),Vck,0⟩
def Vc3:No:=⟨1,1,[1,0,0,0,0],[Vd1]⟩
def Vc4:No:=⟨1,2,[1,1,0,0,0],[Vd2]⟩
def Vdu:No:=⟨1,3,[1,2,0,0,0],[Vd3,Vd4]⟩
def Q8y:Dk:=⟨1,([(Vaj,104),(Vak,105)],[]),[1,0,0,0,0],[],1,[]⟩
def bgb2:Dk:=⟨1,([(Vaj,104),(Va6,97),(Vak,105)],[]),[1,1,0,0,0],[],2,[Vc3]⟩
def bgb3:Dk:=⟨1,([(Va6,97),(Vak,105)],[Vaj]),[1,2,0,0,0],[],2,[Vc3,Vc4]⟩
def Q8z:Dk:=⟨1,([(Va6,97),(Vc2,104)],[Vaj,Vak]),[1,3,0,0,0],[],3,[Vc3,Vc4,Vdu]⟩
def bgb5:Dk:=⟨1,([(Va6,97),(Vc2,104)],[Vaj,Vak]),[1,3,0,0,0],[],3,[Vc4,Vdu]⟩
theorem Vcw:Q3r (Vam 1) noteN=0:=kR
theorem Vcx:Van (Vam 1) noteN=Q8y:=kR
theorem Vcy:Qjg Q8y 1 [97]=0:=kR
theorem Vcz:Qj8 Q8y 1 [97]=bgb2:=kR
theorem Vcr:Q5n bgb2 0 1=0:=kR
theorem Vct:Q5o bgb2 0 1=bgb3:=kR
theorem Vcu:Qiz Q8z=0:=kR
theorem Vcv:Qre Q8z=bgb5:=kR
theorem Vcs:Qaq bgb5=0:=kR
theorem Vdt:Qh2 (Qc3 bgb3.state.1) [97,104]=([⟨2,1,1,[]⟩,⟨1,1,0,[104]⟩],0):=kR
theorem Vc0:Qd2 bgb3 (Qji (bgb3,[]) [⟨2,1,1,[]⟩,⟨1,1,0,[104]⟩]) (Qjj (bgb3,[]) [⟨2,1,1,[]⟩,⟨1,1,0,[104]⟩])=0:=kR
theorem Vc1:Qhg bgb3 (Qji (bgb3,[]) [⟨2,1,1,[]⟩,⟨1,1,0,[104]⟩]) (Qjj (bgb3,[]) [⟨2,1,1,[]⟩,⟨1,1,0,[104]⟩])=Q8z:=kR
end Go.Proofs.YtgnccjojfebkeaaGreat
