/- Law 40: lists of needs that are the same,as contracts. No condition. -/
import Derived.Test.YtcgdbhlnkificaaGreatDoorTUD
import Derived.Test.YtcgdbhlnkificaaGreatDoorTUF
import Derived.Test.YtcgdbhlnkificaaGreatDoorTUG
set_option linter.all false
namespace Go.Proofs.YtcgdbhlnkificaaGreatDoor
open Go.RowKit
set_option maxRecDepth 100000
set_option maxHeartbeats 32000000
def I1{A B:List cz}(Z:A.length<=140737488351232)(hB:B.length<=140737488351232):Cl aj 24 [.t (.arr (cH A)),.t (.arr (cH B))] [] (.t (.bool (decide (A=B)))) []:=by
 refine Cl.ap rfl Tryz.func24 rfl rfl rfl ?_;have J:=DW A;have U:=DW B;by_cases I:A.length=B.length
 ·
  refine aq ?_;refine az.ind (fun q:Nat=>[(13,.t (.int .i64 (q:Int)))]) (fun q=>q<=A.length/\decide (A=B)=decide (A.drop q=B.drop q)) (fun q=>A.length - q) 0 rfl ⟨by omega,rfl⟩ (fun q V=>?_);obtain⟨h1,h2⟩:=V;rw[h2];rcases Nat.lt_or_ge q A.length with h3|h3
  ·
   obtain⟨x,hx⟩:=am h3;obtain⟨y,hy⟩:=am (xs:=B) (k:=q) (by omega);have hc:=ze hx;have hd:=ze hy;by_cases z:x=y
   ·
    have u:decide (A.drop q=B.drop q)=decide (A.drop (q+1)=B.drop (q+1)):=by rw[bG hx,bG hy,z];simp
    have v:gI aj.P 20 51 [.int .i64 x.k,.int .i64 x.i,.int .i64 x.el,.int .i64 x.n] [.int .i64 y.k,.int .i64 y.i,.int .i64 y.el,.int .i64 y.n]=some true:=by rw[zf,z];simp
    repeat'(first
|(with_reducible first|apply ac.seq|apply ac.block)
|((with_reducible apply ac.text);(try case hm=>exact rfl))
|((with_reducible apply ac.drawn);(case hm=>exact rfl))
|(with_reducible first|apply ac.skip|apply aH|apply fH)
|((with_reducible apply ac.aR);(case hc=>exact rfl))
|((with_reducible apply ac.aY);(case hc=>exact rfl))
|((with_reducible apply aa.aF);(case hp=>exact ak))
|(with_reducible apply aa.aB)
|((with_reducible apply aa.u0);(case hx=>first
|((with_reducible apply af.rn);(case hx|hy=>exact rfl);(case hg=>exact zg);(case ht=>exact rfl);(case hr=>exact v))
|exact ae))
|fail)
    exact⟨q+1,rfl,rfl,⟨by omega,u⟩,by omega⟩
   ·
    have u:decide (A.drop q=B.drop q)=false:=by rw[bG hx,bG hy];simp[z]
    have v:gI aj.P 20 51 [.int .i64 x.k,.int .i64 x.i,.int .i64 x.el,.int .i64 x.n] [.int .i64 y.k,.int .i64 y.i,.int .i64 y.el,.int .i64 y.n]=some false:=by
     rw[zf];obtain⟨x1,x2,x3,x4⟩:=x;obtain⟨y1,y2,y3,y4⟩:=y;simp at z⊢;intro h4 D G;exact z h4 D G
    rw[u]
    repeat'(first
|((with_reducible apply aa.aF);(case hp=>exact ak))
|(refine aw ?_)
|((with_reducible apply aa.u0);(case hx=>first
|((with_reducible apply af.rn);(case hx|hy=>exact rfl);(case hg=>exact zg);(case ht=>exact rfl);(case hr=>exact v))
|exact ae))
|fail)
    exact⟨.inr rfl,rfl⟩
  ·
   have u:decide (A.drop q=B.drop q)=true:=by rw[eY h3,eY (l:=B) (by omega)];rfl
   rw[u];exact ah
 ·
  have u:decide (A=B)=false:=by simp;intro h;exact I (by rw[h])
  rw[u];exact ah
def Oc(A:List cz)(u:A.length<=140737488351232):Cl aj 24 [.t (.arr (cH A)),.t (.arr (cH A))] [] (.t (.bool true)) []:=by
 have h:=I1 (A:=A) (B:=A) u u;rwa[show decide (A=A)=true by simp]at h
def fN:Md:=⟨[],[⟨⟨#[99]⟩,1,[],0,6,0⟩],[⟨#[99]⟩],[⟨0,0,⟨[⟨0,-1⟩],0⟩,0,0⟩,⟨0,0,⟨[⟨0,1⟩],6⟩,0,0⟩],[⟨⟨#[114,101,97,100]⟩,false,[]⟩,⟨⟨#[119,114,105,116,101]⟩,false,[]⟩],[⟨0,[],⟨[],[],[]⟩⟩,⟨1,[],⟨[],[],[]⟩⟩],[]⟩
def jH:Pln:=⟨[],[⟨0,1,-1,-1,[⟨0,AP⟩,⟨1,AP⟩]⟩],[],[]⟩
def tk(i:Int):Ev:=⟨i,1,1,[0,0,0],1,0,1,0,0,1,2,0,0⟩
def K9:bx fN:=by constructor <;>simp[fN]
def ri:PW fN jH where
 md:=K9
 ef:=by
  intro a u;simp only[fN,List.mem_cons,List.not_mem_nil,or_false]at u;rcases u with rfl|rfl <;>(constructor <;>simp)
 op:=by simp[fN]
 pl:=by constructor <;>simp[jH]
def Ld:mI fN jH 3=([[[1,1,1]]],0):=by kernel_rfl
def Le:rP fN jH 3 [[[1,1,1]]] 2 1=([⟨1,0,0,2⟩],0):=by kernel_rfl
def K_:gM fN jH [[[1,1,1]]] (tk 0)=([[[0,1,2]]],0):=by kernel_rfl
def La:gM fN jH [[[0,1,2]]] (tk 1)=([[[0,0,3]]],0):=by kernel_rfl
def Lf:rP fN jH 3 [[[0,0,3]]] 2 1=([],0):=by kernel_rfl
def Lg:rP fN jH 3 [[[0,0,3]]] 0 0=([⟨1,0,0,1⟩],0):=by kernel_rfl
def Lc:Cl aj 35 [] [] (.aN [.t (bN fN),.t (a_ jH)]) []:=⟨30,by kernel_rfl⟩
def pz(q:Nat):aO:=if q=0 then[[[1,1,1]]]else if q=1 then[[[0,1,2]]]else[[[0,0,3]]]
def FB:Cl aj 9 [] [] (.t (.bool true)) []:=by
 have J:=Lc
 have u:∀q,Rm (pz q):=by
  intro q;unfold pz Rm;split
  ·simp
  ·split <;>simp
 have I:=FQ (R:=3) ri;have G:=Ao (R:=3) (l:=[[[1,1,1]]]) (r:=2) (a:=1) ri (by decide) (u 0);have v:=Ae (l:=[[[1,1,1]]]) (e:=tk 0) ri (by decide) (u 0) (by decide);have y:=Ae (l:=[[[0,1,2]]]) (e:=tk 1) ri (by decide) (u 1) (by decide);have z:=Ao (R:=3) (l:=[[[0,0,3]]]) (r:=2) (a:=1) ri (by decide) (u 2);have D:=Ao (R:=3) (l:=[[[0,0,3]]]) (r:=0) (a:=0) ri (by decide) (u 2);have kq:=Oc [⟨1,0,0,2⟩] (by decide);have ks:=rL (u 2);rw[show pz 2=[[[0,0,3]]] from rfl]at ks;rw[Ld]at I;rw[Le]at G;rw[K_]at v;rw[La]at y;rw[Lf]at z;rw[Lg]at D;rw[aZ]at J I G v y z D;unfold a_ at J I G v y z D;rw[bK]at J I G v y z D;generalize aD fN.ao=s1 at*
 generalize bC fN.tables=s2 at*
 generalize cq fN.bH=s3 at*
 generalize fk fN.cons=s4 at*
 generalize fv fN.ops=s5 at*
 generalize eg fN.ax=s6 at*
 generalize c7 fN.aG=s7 at*
 generalize gJ jH.aM=e1 at*
 generalize fM jH.aA=e2 at*
 generalize cM jH.places=e3 at*
 generalize aD jH.bj=e4 at*
 unfold c6 cx tk at v y;dsimp only at I G v y z D;refine Cl.ap rfl Tryz.func9 rfl rfl rfl ?_;refine aq ?_;refine az.ind (fun q:Nat=>[(3,.t (.arr (aU (pz q)))),(41,.t (.int .i64 (q:Int)))]) (fun q=>q<=2) (fun q=>2 - q) 0 rfl (by omega) (fun q Z=>?_);rcases(by omega:q=0\/q=1\/q=2)with rfl|rfl|rfl
 ·
  rw[show pz 0=[[[1,1,1]]] from rfl];refine aq ?_
  all_goals first|exact⟨1,rfl,rfl,by omega,by omega⟩|(exfalso;omega)
 ·
  rw[show pz 1=[[[0,1,2]]] from rfl];refine aq ?_
  all_goals first|exact⟨2,rfl,rfl,by omega,by omega⟩|(exfalso;omega)
 ·
  rw[show pz 2=[[[0,0,3]]] from rfl];have U:(cH []).length=0:=rfl;have V:(cH [⟨1,0,0,1⟩]).length=1:=rfl
  repeat'(first
|(refine a8 ?_)
|((with_reducible apply aa.bi)<;>intro Z)
|(refine aw ?_)
|((with_reducible apply aa.av);(case hW=>exact rfl);(case hx=>first
|(exact ai ks)
|exact ae))
|((with_reducible apply aa.u0);(case hx=>first
|(exact di z)
|(exact di D)
|exact ae))
|fail)
  all_goals first
   |exact⟨.inr rfl,rfl⟩
   |(exfalso;simp_all;done)
   |(refine ba (.inr rfl) rfl ?_;simp_all;done)
end Go.Proofs.YtcgdbhlnkificaaGreatDoor
