/- Law 52: the arguments' shapes. No condition. -/
import Derived.Test.YtjolgbkkocjpgaaGreatDoorTX
import Derived.Test.YtjolgbkkocjpgaaGreatDoorTD
import Derived.Test.YtjolgbkkocjpgaaGreatDoorShelf
import Derived.Test.YtjolgbkkocjpgaaGreatDoorTW
set_option linter.all false
namespace Go.Proofs.YtjolgbkkocjpgaaGreatDoor
open Go.RowKit
set_option maxRecDepth 100000
theorem tU{α β:Type}{f:α->β}{R:α->Prop}:∀{es:List β},(∀c∈es,∃a,c=f a/\R a)->∃l:List α,es=l.map f/\∀a∈l,R a
 |[],_=>⟨[],rfl,fun a h=>by cases h⟩
 |c::es,h=>by
  obtain⟨a,rfl,v⟩:=h c List.mem_cons_self;obtain⟨l,rfl,z⟩:=tU fun c y=>h c (List.mem_cons_of_mem _ y);refine⟨a::l,rfl,fun b u=>?_⟩;rcases List.mem_cons.1 u with rfl|u
  ·exact v
  ·exact z b u
def cb{m:Nat}{xs:List AV}(h:aK Tryz.prog (m+1) 3 xs):∃n,xs=[.int .i64 n]:=by
 simp only[aK,Tryz.underlying3]at h;obtain⟨n,h,_⟩:=h;exact⟨n,h⟩
def GF{m:Nat}{xs:List AV}(h:aK Tryz.prog (m+1) 4 xs):∃n,xs=[.bool n]:=by
 simp only[aK,Tryz.underlying4]at h;exact h
def o6{m:Nat}{xs:List AV}(h:aK Tryz.prog (m+2) 22 xs):∃l:List Int,xs=[ay l]/\l.length<=17592186044416:=by
 rw[aK]at h;simp only[Tryz.underlying22]at h;obtain⟨z,rfl,y,v⟩:=h
 obtain⟨l,rfl,_⟩:=tU (f:=fun n=>[AV.int .i64 n]) (R:=fun _=>True) fun c u=>by
  obtain⟨n,rfl⟩:=cb (v c u);exact⟨n,rfl,trivial⟩
 exact⟨l,rfl,by simpa using y⟩
def Qn{m:Nat}{xs:List AV}(h:aK Tryz.prog (m+2) 53 xs):∃a b c:Int,xs=[.int .i64 a,.int .i64 b,.int .i64 c]:=by
 rw[aK]at h;simp only[Tryz.underlying53,dW]at h;obtain⟨v,_,rfl,u,y,_,rfl,h1,z,_,rfl,h2,rfl⟩:=h;obtain⟨a,rfl⟩:=cb u;obtain⟨b,rfl⟩:=cb h1;obtain⟨c,rfl⟩:=cb h2;exact⟨a,b,c,rfl⟩
def Qh{m:Nat}{xs:List AV}(h:aK Tryz.prog (m+3) 55 xs):∃a b c d:Int,xs=[.int .i64 a,.int .i64 b,.int .i64 c,.int .i64 d]:=by
 rw[aK]at h;simp only[Tryz.underlying55,dW]at h;obtain⟨v,_,rfl,u,y,_,rfl,h1,rfl⟩:=h;obtain⟨a,b,c,rfl⟩:=Qn u;obtain⟨d,rfl⟩:=cb h1;exact⟨a,b,c,d,rfl⟩
def GG{m:Nat}{xs:List AV}(h:aK Tryz.prog (m+4) 57 xs):∃e:Ev,xs=b8 e/\e.past.length<=17592186044416:=by
 rw[aK]at h;simp only[Tryz.underlying57,dW]at h;obtain⟨U,_,rfl,u,V,_,rfl,h1,Z,_,rfl,h2,y3,_,rfl,h3,y4,_,rfl,h4,y5,_,rfl,v,y6,_,rfl,y,y7,_,rfl,z,y8,_,rfl,D,y9,_,rfl,G,rfl⟩:=h;obtain⟨r,rfl⟩:=cb u;obtain⟨n,rfl⟩:=cb h1;obtain⟨t,rfl⟩:=cb h2;obtain⟨past,rfl,I⟩:=o6 h3;obtain⟨k,rfl⟩:=cb h4;obtain⟨a,rfl⟩:=cb v;obtain⟨gk,gi,ge,ga,rfl⟩:=Qh y;obtain⟨J,rfl⟩:=cb z;obtain⟨pl,rfl⟩:=cb D;obtain⟨se,rfl⟩:=cb G;exact⟨⟨r,n,t,past,k,a,gk,gi,ge,ga,J,pl,se⟩,rfl,I⟩
def B4{m:Nat}{x:AV}(h:Arg Tryz.prog (m+1) 3 x):∃n,x=.int .i64 n:=by
 obtain⟨xs,h1,h2⟩:=h;obtain⟨n,rfl⟩:=cb h1;simp only[Tryz.underlying3]at h2;cases h2;exact⟨n,rfl⟩
def pk{M:Nat->Prop}{w:World}{k:IntKind}{n:Int}{v:Value}(h:VR M w (.int k n) v):v=.int k n:=by cases h;rfl
def Hz{M:Nat->Prop}{w:World}{s:ByteArray}{v:Value}(h:VR M w (.str s) v):v=.string s:=by cases h;rfl
end Go.Proofs.YtjolgbkkocjpgaaGreatDoor
