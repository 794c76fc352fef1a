/- Law 52: the arguments' shapes. No condition. -/
import Derived.Test.YtcgdbhlnkificaaGreatDoorTX
import Derived.Test.YtcgdbhlnkificaaGreatDoorTD
import Derived.Test.YtcgdbhlnkificaaGreatDoorShelf
import Derived.Test.YtcgdbhlnkificaaGreatDoorTW
set_option linter.all false
namespace Go.Proofs.YtcgdbhlnkificaaGreatDoor
open Go.RowKit
set_option maxRecDepth 100000
theorem rh{α β:Type}{f:α->β}{R:α->Prop}:∀{es:List β},(∀c∈es,∃a,c=f a/\R a)->∃l:List α,es=l.map f/\∀a∈l,R a
 |[],_=>⟨[],rfl,fun a h=>by cases h⟩
 |c::es,h=>by
  obtain⟨a,rfl,v⟩:=h c List.mem_cons_self;obtain⟨l,rfl,z⟩:=rh fun c y=>h c (List.mem_cons_of_mem _ y);refine⟨a::l,rfl,fun b u=>?_⟩;rcases List.mem_cons.1 u with rfl|u
  ·exact v
  ·exact z b u
def bY{m:Nat}{xs:List AV}(h:aJ Tryz.prog (m+1) 3 xs):∃n,xs=[.int .i64 n]:=by
 simp only[aJ,Tryz.underlying3]at h;obtain⟨n,h,_⟩:=h;exact⟨n,h⟩
def FK{m:Nat}{xs:List AV}(h:aJ Tryz.prog (m+1) 4 xs):∃n,xs=[.bool n]:=by
 simp only[aJ,Tryz.underlying4]at h;exact h
def oM{m:Nat}{xs:List AV}(h:aJ Tryz.prog (m+2) 22 xs):∃l:List Int,xs=[aD l]/\l.length<=17592186044416:=by
 rw[aJ]at h;simp only[Tryz.underlying22]at h;obtain⟨z,rfl,y,v⟩:=h
 obtain⟨l,rfl,_⟩:=rh (f:=fun n=>[AV.int .i64 n]) (R:=fun _=>True) fun c u=>by
  obtain⟨n,rfl⟩:=bY (v c u);exact⟨n,rfl,trivial⟩
 exact⟨l,rfl,by simpa using y⟩
def OZ{m:Nat}{xs:List AV}(h:aJ Tryz.prog (m+2) 49 xs):∃a b c:Int,xs=[.int .i64 a,.int .i64 b,.int .i64 c]:=by
 rw[aJ]at h;simp only[Tryz.underlying49,dN]at h;obtain⟨v,_,rfl,u,y,_,rfl,h1,z,_,rfl,h2,rfl⟩:=h;obtain⟨a,rfl⟩:=bY u;obtain⟨b,rfl⟩:=bY h1;obtain⟨c,rfl⟩:=bY h2;exact⟨a,b,c,rfl⟩
def OS{m:Nat}{xs:List AV}(h:aJ Tryz.prog (m+3) 51 xs):∃a b c d:Int,xs=[.int .i64 a,.int .i64 b,.int .i64 c,.int .i64 d]:=by
 rw[aJ]at h;simp only[Tryz.underlying51,dN]at h;obtain⟨v,_,rfl,u,y,_,rfl,h1,rfl⟩:=h;obtain⟨a,b,c,rfl⟩:=OZ u;obtain⟨d,rfl⟩:=bY h1;exact⟨a,b,c,d,rfl⟩
def OJ{m:Nat}{xs:List AV}(h:aJ Tryz.prog (m+4) 53 xs):∃e:Ev,xs=cx e/\e.past.length<=17592186044416:=by
 rw[aJ]at h;simp only[Tryz.underlying53,dN]at h;obtain⟨U,_,rfl,u,V,_,rfl,h1,Z,_,rfl,h2,y3,_,rfl,h3,y4,_,rfl,h4,y5,_,rfl,v,y6,_,rfl,y,y7,_,rfl,z,y8,_,rfl,D,y9,_,rfl,G,rfl⟩:=h;obtain⟨r,rfl⟩:=bY u;obtain⟨n,rfl⟩:=bY h1;obtain⟨t,rfl⟩:=bY h2;obtain⟨past,rfl,I⟩:=oM h3;obtain⟨k,rfl⟩:=bY h4;obtain⟨a,rfl⟩:=bY v;obtain⟨gk,gi,ge,ga,rfl⟩:=OS y;obtain⟨J,rfl⟩:=bY z;obtain⟨pl,rfl⟩:=bY D;obtain⟨se,rfl⟩:=bY G;exact⟨⟨r,n,t,past,k,a,gk,gi,ge,ga,J,pl,se⟩,rfl,I⟩
def Be{m:Nat}{x:AV}(h:Arg Tryz.prog (m+1) 3 x):∃n,x=.int .i64 n:=by
 obtain⟨xs,h1,h2⟩:=h;obtain⟨n,rfl⟩:=bY h1;simp only[Tryz.underlying3]at h2;cases h2;exact⟨n,rfl⟩
def ub{M:Nat->Prop}{w:World}{k:IntKind}{n:Int}{v:Value}(h:VR M w (.int k n) v):v=.int k n:=by cases h;rfl
def GN{M:Nat->Prop}{w:World}{s:ByteArray}{v:Value}(h:VR M w (.str s) v):v=.string s:=by cases h;rfl
end Go.Proofs.YtcgdbhlnkificaaGreatDoor
