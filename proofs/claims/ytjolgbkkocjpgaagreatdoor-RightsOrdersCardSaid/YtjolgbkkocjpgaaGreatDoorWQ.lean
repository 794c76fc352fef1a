/- Law 52: the arguments' shapes;the program is one that the evaluator takes;the library's contracts. Conditions: the library's table of powers stands. -/
import Derived.Test.YtjolgbkkocjpgaaGreatDoorTX
import Derived.Test.YtjolgbkkocjpgaaGreatDoorTD
import Derived.Test.YtjolgbkkocjpgaaGreatDoorShelf
import Derived.Test.YtjolgbkkocjpgaaGreatDoorTW
set_option linter.defProp false
set_option linter.unusedSimpArgs false
set_option linter.unusedVariables false
set_option linter.unusedSectionVars false
namespace Go.Proofs.YtjolgbkkocjpgaaGreatDoor
open Go.RowKit
set_option maxRecDepth 100000
theorem sE{α β:Type}{f:α->β}{R:α->Prop}:∀{es:List β},(∀c∈es,∃a,c=f a/\R a)->∃l:List α,es=l.map f/\∀a∈l,R a
 |[],_=>⟨[],rfl,fun a h=>by cases h⟩
 |c::es,h=>by
  obtain⟨a,rfl,v⟩:=h c List.mem_cons_self;obtain⟨l,rfl,z⟩:=sE fun c y=>h c (List.mem_cons_of_mem _ y);refine⟨a::l,rfl,fun b u=>?_⟩;rcases List.mem_cons.1 u with rfl|u
  ·exact v
  ·exact z b u
def bV{m:Nat}{xs:List AV}(h:aN Tryz.prog (m+1) 3 xs):∃n,xs=[.int .i64 n]:=by
 simp only[aN,Tryz.underlying3]at h;obtain⟨n,h,_⟩:=h;exact⟨n,h⟩
def Dx{m:Nat}{xs:List AV}(h:aN Tryz.prog (m+1) 4 xs):∃n,xs=[.bool n]:=by
 simp only[aN,Tryz.underlying4]at h;exact h
def mX{m:Nat}{xs:List AV}(h:aN Tryz.prog (m+2) 22 xs):∃l:List Int,xs=[ax l]/\l.length<=17592186044416:=by
 rw[aN]at h;simp only[Tryz.underlying22]at h;obtain⟨z,rfl,y,v⟩:=h
 obtain⟨l,rfl,_⟩:=sE (f:=fun n=>[AV.int .i64 n]) (R:=fun _=>True) fun c u=>by
  obtain⟨n,rfl⟩:=bV (v c u);exact⟨n,rfl,trivial⟩
 exact⟨l,rfl,by simpa using y⟩
def KS{m:Nat}{xs:List AV}(h:aN Tryz.prog (m+2) 53 xs):∃a b c:Int,xs=[.int .i64 a,.int .i64 b,.int .i64 c]:=by
 rw[aN]at h;simp only[Tryz.underlying53,dJ]at h;obtain⟨v,_,rfl,u,y,_,rfl,h1,z,_,rfl,h2,rfl⟩:=h;obtain⟨a,rfl⟩:=bV u;obtain⟨b,rfl⟩:=bV h1;obtain⟨c,rfl⟩:=bV h2;exact⟨a,b,c,rfl⟩
def KT{m:Nat}{xs:List AV}(h:aN Tryz.prog (m+3) 55 xs):∃a b c d:Int,xs=[.int .i64 a,.int .i64 b,.int .i64 c,.int .i64 d]:=by
 rw[aN]at h;simp only[Tryz.underlying55,dJ]at h;obtain⟨v,_,rfl,u,y,_,rfl,h1,rfl⟩:=h;obtain⟨a,b,c,rfl⟩:=KS u;obtain⟨d,rfl⟩:=bV h1;exact⟨a,b,c,d,rfl⟩
def KU{m:Nat}{xs:List AV}(h:aN Tryz.prog (m+4) 57 xs):∃e:Ev,xs=c9 e/\e.past.length<=17592186044416:=by
 rw[aN]at h;simp only[Tryz.underlying57,dJ]at h;obtain⟨U,_,rfl,u,V,_,rfl,h1,Z,_,rfl,h2,y3,_,rfl,h3,y4,_,rfl,h4,y5,_,rfl,v,y6,_,rfl,y,y7,_,rfl,z,y8,_,rfl,D,y9,_,rfl,G,rfl⟩:=h;obtain⟨r,rfl⟩:=bV u;obtain⟨n,rfl⟩:=bV h1;obtain⟨t,rfl⟩:=bV h2;obtain⟨past,rfl,I⟩:=mX h3;obtain⟨k,rfl⟩:=bV h4;obtain⟨a,rfl⟩:=bV v;obtain⟨gk,gi,ge,ga,rfl⟩:=KT y;obtain⟨J,rfl⟩:=bV z;obtain⟨pl,rfl⟩:=bV D;obtain⟨se,rfl⟩:=bV G;exact⟨⟨r,n,t,past,k,a,gk,gi,ge,ga,J,pl,se⟩,rfl,I⟩
def KV{m:Nat}{x:AV}(h:Arg Tryz.prog (m+1) 3 x):∃n,x=.int .i64 n:=by
 obtain⟨xs,h1,h2⟩:=h;obtain⟨n,rfl⟩:=bV h1;simp only[Tryz.underlying3]at h2;cases h2;exact⟨n,rfl⟩
def nY{M:Nat->Prop}{w:World}{k:IntKind}{n:Int}{v:Value}(h:VR M w (.int k n) v):v=.int k n:=by cases h;rfl
def Dy{M:Nat->Prop}{w:World}{s:ByteArray}{v:Value}(h:VR M w (.str s) v):v=.string s:=by cases h;rfl
end Go.Proofs.YtjolgbkkocjpgaaGreatDoor
