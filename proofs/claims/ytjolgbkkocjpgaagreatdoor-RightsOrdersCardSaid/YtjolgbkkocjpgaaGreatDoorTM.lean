/- Models as trees. No condition. -/
import Derived.Test.YtjolgbkkocjpgaaGreatDoorWQ
import Derived.Test.YtjolgbkkocjpgaaGreatDoorTE
import Derived.Test.YtjolgbkkocjpgaaGreatDoorTS
import Derived.Test.YtjolgbkkocjpgaaGreatDoorTLX
import Derived.Test.YtjolgbkkocjpgaaGreatDoorTP
set_option linter.defProp false
set_option linter.unusedSimpArgs false
set_option linter.unusedVariables false
set_option linter.unusedSectionVars false
namespace Go.Proofs.YtjolgbkkocjpgaaGreatDoor
open Go.RowKit
set_option maxRecDepth 100000
def dV(t:Tb):List AV:=[.str t.name,.int .i64 t.kind,ax t.au,.int .i64 t.lo,.int .i64 t.hi,.int .i64 t.first]
def br(l:List Tb):List (List AV):=l.map dV
def b5(l:List ByteArray):List (List AV):=l.map fun s=>[.str s]
def zc(t:Tm):List AV:=[.int .i64 t.cell,.int .i64 t.bN]
def dM(l:List Tm):List (List AV):=l.map zc
def e8(r:Rw):List AV:=[.arr (dM r.a_),.int .i64 r.gP]
def iz(l:List Rw):List (List AV):=l.map e8
def lj(c:Cn):List AV:=[.int .i64 c.kind,.int .i64 c.jR,.arr (dM c.row.a_),.int .i64 c.row.gP,.int .i64 c.first,.int .i64 c.size]
def dN(l:List Cn):List (List AV):=l.map lj
def zd(o:gq):List AV:=[.str o.name,.bool o.ord,ax o.ak]
def dO(l:List gq):List (List AV):=l.map zd
def ze(c:bD):List AV:=[.int .i64 c.cell,.int .i64 c.add]
def iS(l:List bD):List (List AV):=l.map ze
def sH(u:cD):List AV:=[.int .i64 u.kind,.int .i64 u.cell,.int .i64 u.value]
def iA(l:List cD):List (List AV):=l.map sH
def qI(e:kU):List AV:=[.arr (iS e.delta),.arr (iz e.hold),.arr (iA e.bZ)]
def pq(a:eD):List AV:=[.int .i64 a.op,ax a.args,.arr (iS a.eff.delta),.arr (iz a.eff.hold),.arr (iA a.eff.bZ)]
def de(l:List eD):List (List AV):=l.map pq
def zf(h:Hde):List AV:=[.int .i64 h.table,.int .i64 h.eE,.int .i64 h.to]
def cG(l:List Hde):List (List AV):=l.map zf
def bJ(l:List (Int×Int)):List (List AV):=l.map fun r=>[.int .i64 r.1,.int .i64 r.2]
def dW(m:Md):List AV:=[ax m.ak,.arr (br m.tables),.arr (b5 m.bw),.arr (dN m.cons),.arr (dO m.ops),.arr (de m.ay),.arr (cG m.aI)]
def bz(m:Md):AV:=.agg (dW m)
def iB{α:Type}{f:α->List AV}{l:List α}{k:Nat}{x:α}(h:l[k]?=some x):(l.map f)[k]?=some (f x):=by rw[List.getElem?_map,h];rfl
def e9(l:List Tb):(br l).length=l.length:=List.length_map _
def mY(l:List ByteArray):(b5 l).length=l.length:=List.length_map _
def l8(l:List Tm):(dM l).length=l.length:=List.length_map _
def vD(l:List Rw):(iz l).length=l.length:=List.length_map _
def qJ(l:List Cn):(dN l).length=l.length:=List.length_map _
def pt(l:List gq):(dO l).length=l.length:=List.length_map _
def sI(l:List bD):(iS l).length=l.length:=List.length_map _
def zg(l:List cD):(iA l).length=l.length:=List.length_map _
def jx(l:List eD):(de l).length=l.length:=List.length_map _
def qK(l:List Hde):(cG l).length=l.length:=List.length_map _
def jy(l:List (Int×Int)):(bJ l).length=l.length:=List.length_map _
def eK{l:List Tb}{k:Nat}{t:Tb}(h:l[k]?=some t):(br l)[k]?=some [.str t.name,.int .i64 t.kind,ax t.au,.int .i64 t.lo,.int .i64 t.hi,.int .i64 t.first]:=iB h
def DT{l:List ByteArray}{k:Nat}{s:ByteArray}(h:l[k]?=some s):(b5 l)[k]?=some [.str s]:=iB (f:=fun s=>[.str s]) h
def mZ{l:List Tm}{k:Nat}{t:Tm}(h:l[k]?=some t):(dM l)[k]?=some [.int .i64 t.cell,.int .i64 t.bN]:=iB h
def DU{l:List Rw}{k:Nat}{r:Rw}(h:l[k]?=some r):(iz l)[k]?=some [.arr (dM r.a_),.int .i64 r.gP]:=iB h
def pu{l:List Cn}{k:Nat}{c:Cn}(h:l[k]?=some c):(dN l)[k]?=some [.int .i64 c.kind,.int .i64 c.jR,.arr (dM c.row.a_),.int .i64 c.row.gP,.int .i64 c.first,.int .i64 c.size]:=iB h
def qL{l:List gq}{k:Nat}{o:gq}(h:l[k]?=some o):(dO l)[k]?=some [.str o.name,.bool o.ord,ax o.ak]:=iB h
def qM{l:List bD}{k:Nat}{c:bD}(h:l[k]?=some c):(iS l)[k]?=some [.int .i64 c.cell,.int .i64 c.add]:=iB h
def sJ{l:List cD}{k:Nat}{u:cD}(h:l[k]?=some u):(iA l)[k]?=some [.int .i64 u.kind,.int .i64 u.cell,.int .i64 u.value]:=iB h
def jZ{l:List eD}{k:Nat}{a:eD}(h:l[k]?=some a):(de l)[k]?=some [.int .i64 a.op,ax a.args,.arr (iS a.eff.delta),.arr (iz a.eff.hold),.arr (iA a.eff.bZ)]:=iB h
def qN{l:List Hde}{k:Nat}{h:Hde}(e:l[k]?=some h):(cG l)[k]?=some [.int .i64 h.table,.int .i64 h.eE,.int .i64 h.to]:=iB e
def zh{l:List (Int×Int)}{k:Nat}{r:Int×Int}(e:l[k]?=some r):(bJ l)[k]?=some [.int .i64 r.1,.int .i64 r.2]:=iB (f:=fun r:Int×Int=>[.int .i64 r.1,.int .i64 r.2]) e
structure bt (m:Md):Prop where
 ak:m.ak.length<=17592186044416
 tables:m.tables.length<=17592186044416
 au:∀t∈m.tables,t.au.length<=17592186044416
 bw:m.bw.length<=17592186044416
 cons:m.cons.length<=17592186044416
 a_:∀c∈m.cons,c.row.a_.length<=17592186044416
 ops:m.ops.length<=17592186044416
 sK:∀o∈m.ops,o.ak.length<=17592186044416
 ay:m.ay.length<=17592186044416
 args:∀a∈m.ay,a.args.length<=17592186044416
 delta:∀a∈m.ay,a.eff.delta.length<=17592186044416
 hold:∀a∈m.ay,a.eff.hold.length<=17592186044416
 sL:∀a∈m.ay,∀r∈a.eff.hold,r.a_.length<=17592186044416
 bZ:∀a∈m.ay,a.eff.bZ.length<=17592186044416
 aI:m.aI.length<=17592186044416
 LC:∀a∈m.ay,∀u∈a.eff.bZ,u.cell<=9223372036854775807
def jz{m:Nat}{xs:List AV}{T E:TypeId}{α:Type}{f:α->List AV}{R:α->Prop}(v:aN Tryz.prog (m+1) T xs->∃es:List (List AV),xs=[.arr es]/\es.length<=17592186044416/\∀c∈es,aN Tryz.prog m E c)(u:∀c,aN Tryz.prog m E c->∃a,c=f a/\R a)(h:aN Tryz.prog (m+1) T xs):∃l:List α,xs=[.arr (l.map f)]/\l.length<=17592186044416/\∀a∈l,R a:=by
 obtain⟨es,rfl,G,D⟩:=v h;obtain⟨l,rfl,y⟩:=sE (f:=f) (R:=R) fun c z=>u c (D c z);exact⟨l,rfl,by simpa using G,y⟩
def zi{m:Nat}{xs:List AV}(h:aN Tryz.prog (m+1) 9 xs):∃s,xs=[.str s]:=by
 simp only[aN,Tryz.underlying9]at h;obtain⟨s,h,_⟩:=h;exact⟨s,h⟩
def LD{m:Nat}{xs:List AV}(h:aN Tryz.prog (m+1) 3 xs):∃k:Int,xs=[.int .i64 k]/\k<=9223372036854775807:=by
 simp only[aN,Tryz.underlying3]at h;obtain⟨k,h,u⟩:=h;simp only[Lit.wf,Bool.and_eq_true,decide_eq_true_eq]at u;exact⟨k,h,Int.le_trans u.2 (by decide)⟩
def LF{m:Nat}{xs:List AV}(h:aN Tryz.prog (m+2) 105 xs):∃a b:Int,xs=[.int .i64 a,.int .i64 b]:=by
 rw[aN]at h;simp only[Tryz.underlying105,dJ]at h;obtain⟨v,_,rfl,u,y,_,rfl,h1,rfl⟩:=h;obtain⟨a,rfl⟩:=bV u;obtain⟨b,rfl⟩:=bV h1;exact⟨a,b,rfl⟩
def LG{m:Nat}{xs:List AV}(h:aN Tryz.prog (m+3) 107 xs):∃t:Tb,xs=dV t/\t.au.length<=17592186044416:=by
 rw[aN]at h;simp only[Tryz.underlying107,dJ]at h;obtain⟨y,_,rfl,u,z,_,rfl,h1,D,_,rfl,h2,G,_,rfl,h3,I,_,rfl,h4,rfl⟩:=h;obtain⟨s,rfl⟩:=zi u;obtain⟨k,rfl⟩:=bV h1;obtain⟨c,rfl,v⟩:=mX h2;obtain⟨a,b,rfl⟩:=LF h3;obtain⟨f,rfl⟩:=bV h4;exact⟨⟨s,k,c,a,b,f⟩,rfl,v⟩
def LH{m:Nat}{xs:List AV}(h:aN Tryz.prog (m+4) 23 xs):∃l:List Tb,xs=[.arr (br l)]/\l.length<=17592186044416/\∀t∈l,t.au.length<=17592186044416:=
 jz (f:=dV) (fun h=>by rw[aN]at h;simp only[Tryz.underlying23]at h;exact h) (fun _=>LG) h
def LI{m:Nat}{xs:List AV}(h:aN Tryz.prog (m+2) 24 xs):∃l:List ByteArray,xs=[.arr (b5 l)]/\l.length<=17592186044416:=by
 obtain⟨l,h1,h2,_⟩:=jz (f:=fun s=>[.str s]) (R:=fun _:ByteArray=>True) (fun h=>by rw[aN]at h;simp only[Tryz.underlying24]at h;exact h) (fun _ u=>by obtain⟨s,hs⟩:=zi u;exact⟨s,hs,trivial⟩) h;exact⟨l,h1,h2⟩
def LJ{m:Nat}{xs:List AV}(h:aN Tryz.prog (m+2) 90 xs):∃t:Tm,xs=zc t:=by
 rw[aN]at h;simp only[Tryz.underlying90,dJ]at h;obtain⟨v,_,rfl,u,y,_,rfl,h1,rfl⟩:=h;obtain⟨a,rfl⟩:=bV u;obtain⟨b,rfl⟩:=bV h1;exact⟨⟨a,b⟩,rfl⟩
def LK{m:Nat}{xs:List AV}(h:aN Tryz.prog (m+3) 84 xs):∃l:List Tm,xs=[.arr (dM l)]/\l.length<=17592186044416:=by
 obtain⟨l,h1,h2,_⟩:=jz (f:=zc) (R:=fun _=>True) (fun h=>by rw[aN]at h;simp only[Tryz.underlying84]at h;exact h) (fun _ u=>by obtain⟨s,hs⟩:=LJ u;exact⟨s,hs,trivial⟩) h;exact⟨l,h1,h2⟩
def DV{m:Nat}{xs:List AV}(h:aN Tryz.prog (m+4) 86 xs):∃r:Rw,xs=e8 r/\r.a_.length<=17592186044416:=by
 rw[aN]at h;simp only[Tryz.underlying86,dJ]at h;obtain⟨y,_,rfl,u,z,_,rfl,h1,rfl⟩:=h;obtain⟨l,rfl,v⟩:=LK u;obtain⟨b,rfl⟩:=bV h1;exact⟨⟨l,b⟩,rfl,v⟩
def LL{m:Nat}{xs:List AV}(h:aN Tryz.prog (m+5) 88 xs):∃c:Cn,xs=lj c/\c.row.a_.length<=17592186044416:=by
 rw[aN]at h;simp only[Tryz.underlying88,dJ]at h;obtain⟨y,_,rfl,u,z,_,rfl,h1,D,_,rfl,h2,G,_,rfl,h3,I,_,rfl,h4,rfl⟩:=h;obtain⟨k,rfl⟩:=bV u;obtain⟨f,rfl⟩:=bV h1;obtain⟨r,rfl,v⟩:=DV h2;obtain⟨a,rfl⟩:=bV h3;obtain⟨b,rfl⟩:=bV h4;exact⟨⟨k,f,r,a,b⟩,rfl,v⟩
def LM{m:Nat}{xs:List AV}(h:aN Tryz.prog (m+6) 25 xs):∃l:List Cn,xs=[.arr (dN l)]/\l.length<=17592186044416/\∀c∈l,c.row.a_.length<=17592186044416:=
 jz (f:=lj) (fun h=>by rw[aN]at h;simp only[Tryz.underlying25]at h;exact h) (fun _=>LL) h
def LN{m:Nat}{xs:List AV}(h:aN Tryz.prog (m+3) 109 xs):∃o:gq,xs=zd o/\o.ak.length<=17592186044416:=by
 rw[aN]at h;simp only[Tryz.underlying109,dJ]at h;obtain⟨y,_,rfl,u,z,_,rfl,h1,D,_,rfl,h2,rfl⟩:=h;obtain⟨s,rfl⟩:=zi u;obtain⟨b,rfl⟩:=Dx h1;obtain⟨l,rfl,v⟩:=mX h2;exact⟨⟨s,b,l⟩,rfl,v⟩
def LO{m:Nat}{xs:List AV}(h:aN Tryz.prog (m+4) 26 xs):∃l:List gq,xs=[.arr (dO l)]/\l.length<=17592186044416/\∀o∈l,o.ak.length<=17592186044416:=
 jz (f:=zd) (fun h=>by rw[aN]at h;simp only[Tryz.underlying26]at h;exact h) (fun _=>LN) h
def LP{m:Nat}{xs:List AV}(h:aN Tryz.prog (m+2) 111 xs):∃t:bD,xs=ze t:=by
 rw[aN]at h;simp only[Tryz.underlying111,dJ]at h;obtain⟨v,_,rfl,u,y,_,rfl,h1,rfl⟩:=h;obtain⟨a,rfl⟩:=bV u;obtain⟨b,rfl⟩:=bV h1;exact⟨⟨a,b⟩,rfl⟩
def LQ{m:Nat}{xs:List AV}(h:aN Tryz.prog (m+3) 112 xs):∃l:List bD,xs=[.arr (iS l)]/\l.length<=17592186044416:=by
 obtain⟨l,h1,h2,_⟩:=jz (f:=ze) (R:=fun _=>True) (fun h=>by rw[aN]at h;simp only[Tryz.underlying112]at h;exact h) (fun _ u=>by obtain⟨s,hs⟩:=LP u;exact⟨s,hs,trivial⟩) h;exact⟨l,h1,h2⟩
def LR{m:Nat}{xs:List AV}(h:aN Tryz.prog (m+2) 123 xs):∃t:cD,xs=sH t/\t.cell<=9223372036854775807:=by
 rw[aN]at h;simp only[Tryz.underlying123,dJ]at h;obtain⟨y,_,rfl,u,z,_,rfl,h1,D,_,rfl,h2,rfl⟩:=h;obtain⟨a,rfl⟩:=bV u;obtain⟨b,rfl,v⟩:=LD h1;obtain⟨c,rfl⟩:=bV h2;exact⟨⟨a,b,c⟩,rfl,v⟩
def LS{m:Nat}{xs:List AV}(h:aN Tryz.prog (m+3) 114 xs):∃l:List cD,xs=[.arr (iA l)]/\l.length<=17592186044416/\∀u∈l,u.cell<=9223372036854775807:=
 jz (f:=sH) (fun h=>by rw[aN]at h;simp only[Tryz.underlying114]at h;exact h) (fun _=>LR) h
def LU{m:Nat}{xs:List AV}(h:aN Tryz.prog (m+5) 113 xs):∃l:List Rw,xs=[.arr (iz l)]/\l.length<=17592186044416/\∀r∈l,r.a_.length<=17592186044416:=
 jz (f:=e8) (fun h=>by rw[aN]at h;simp only[Tryz.underlying113]at h;exact h) (fun _=>DV) h
structure zj (e:kU):Prop where
 delta:e.delta.length<=17592186044416
 hold:e.hold.length<=17592186044416
 sL:∀r∈e.hold,r.a_.length<=17592186044416
 bZ:e.bZ.length<=17592186044416
 cell:∀u∈e.bZ,u.cell<=9223372036854775807
def LV{m:Nat}{xs:List AV}(h:aN Tryz.prog (m+6) 116 xs):∃e:kU,xs=qI e/\zj e:=by
 rw[aN]at h;simp only[Tryz.underlying116,dJ]at h;obtain⟨I,_,rfl,y,J,_,rfl,h1,U,_,rfl,h2,rfl⟩:=h;obtain⟨a,rfl,z⟩:=LQ y;obtain⟨b,rfl,D,u⟩:=LU h1;obtain⟨c,rfl,G,v⟩:=LS h2;exact⟨⟨a,b,c⟩,rfl,z,D,u,G,v⟩
def LW{m:Nat}{xs:List AV}(h:aN Tryz.prog (m+7) 118 xs):∃a:eD,xs=pq a/\(a.args.length<=17592186044416/\zj a.eff):=by
 rw[aN]at h;simp only[Tryz.underlying118,dJ]at h;obtain⟨z,_,rfl,u,D,_,rfl,h1,G,_,rfl,h2,rfl⟩:=h;obtain⟨a,rfl⟩:=bV u;obtain⟨b,rfl,v⟩:=mX h1;obtain⟨c,rfl,y⟩:=LV h2;exact⟨⟨a,b,c⟩,rfl,v,y⟩
def LX{m:Nat}{xs:List AV}(h:aN Tryz.prog (m+8) 27 xs):∃l:List eD,xs=[.arr (de l)]/\l.length<=17592186044416/\∀a∈l,a.args.length<=17592186044416/\zj a.eff:=
 jz (f:=pq) (fun h=>by rw[aN]at h;simp only[Tryz.underlying27]at h;exact h) (fun _=>LW) h
def LY{m:Nat}{xs:List AV}(h:aN Tryz.prog (m+2) 175 xs):∃t:Hde,xs=zf t:=by
 rw[aN]at h;simp only[Tryz.underlying175,dJ]at h;obtain⟨v,_,rfl,u,y,_,rfl,h1,z,_,rfl,h2,rfl⟩:=h;obtain⟨a,rfl⟩:=bV u;obtain⟨b,rfl⟩:=bV h1;obtain⟨c,rfl⟩:=bV h2;exact⟨⟨a,b,c⟩,rfl⟩
def LZ{m:Nat}{xs:List AV}(h:aN Tryz.prog (m+3) 28 xs):∃l:List Hde,xs=[.arr (cG l)]/\l.length<=17592186044416:=by
 obtain⟨l,h1,h2,_⟩:=jz (f:=zf) (R:=fun _=>True) (fun h=>by rw[aN]at h;simp only[Tryz.underlying28]at h;exact h) (fun _ u=>by obtain⟨s,hs⟩:=LY u;exact⟨s,hs,trivial⟩) h;exact⟨l,h1,h2⟩
def L0{m:Nat}{xs:List AV}(h:aN Tryz.prog (m+9) 30 xs):∃d:Md,xs=dW d/\bt d:=by
 rw[aN]at h;simp only[Tryz.underlying30,dJ]at h;obtain⟨y0,_,rfl,G,y1,_,rfl,h1,y2,_,rfl,h2,y3,_,rfl,h3,y4,_,rfl,h4,y5,_,rfl,I,y6,_,rfl,J,rfl⟩:=h;obtain⟨a,rfl,U⟩:=mX G;obtain⟨b,rfl,V,y⟩:=LH h1;obtain⟨c,rfl,Z⟩:=LI h2;obtain⟨d,rfl,hd,z⟩:=LM h3;obtain⟨e,rfl,he,D⟩:=LO h4;obtain⟨f,rfl,hf,u⟩:=LX I;obtain⟨g,rfl,hg⟩:=LZ J;exact⟨⟨a,b,c,d,e,f,g⟩,rfl,U,V,y,Z,hd,z,he,D,hf,fun x v=>(u x v).1,fun x v=>(u x v).2.delta,fun x v=>(u x v).2.hold,fun x v=>(u x v).2.sL,fun x v=>(u x v).2.bZ,hg,fun x v=>(u x v).2.cell⟩
def DW{m:Nat}{x:AV}(h:Arg Tryz.prog (m+9) 30 x):∃d:Md,x=bz d/\bt d:=by
 obtain⟨xs,h1,h2⟩:=h;obtain⟨d,rfl,hd⟩:=L0 h1;simp only[Tryz.underlying30]at h2;exact⟨d,h2,hd⟩
set_option maxHeartbeats 16000000
def DX(n lo hi:Int):Cl ai 136 [.t (.int .i64 n),.t (.int .i64 lo),.t (.int .i64 hi)] [] (.t (.bool (decide (lo<=n)&&decide (n<=hi)))) []:=by
 refine Cl.ao rfl Tryz.func136 rfl rfl rfl ?_;exact af
def vE(t:Tb):Cl ai 139 [.t (.agg (dV t))] [] (.t (.bool (bp t.kind))) []:=by
 have e:dV t=[.str t.name,.int .i64 t.kind,ax t.au,.int .i64 t.lo,.int .i64 t.hi,.int .i64 t.first]:=rfl;rw[e];refine Cl.ao rfl Tryz.func139 rfl rfl rfl ?_;unfold bp;exact af
def L4(n:Int):Cl ai 167 [.t (.int .i64 n)] [] (.t (.bool (!(decide (1<=n)&&decide (n<=6))))) []:=by
 have k:=DX n 1 6;refine Cl.ao rfl Tryz.func167 rfl rfl rfl ?_;generalize(decide (1<=n)&&decide (n<=6))=b at*
 cases b with
 |true=>
  exact af
 |false=>
  exact af
def L5{S:List Int}(y:S.length<=140737488351232):Cl ai 134 [.t (ax S)] [] (.t (.bool (ce S))) []:=by
 have k:=LA (C:=S) (p:=fun n=>!(decide (1<=n)&&decide (n<=6))) y (fun n _=>L4 n)
 have e:ce S=!(S.any fun n=>!(decide (1<=n)&&decide (n<=6))):=by
  unfold ce;rw[Bool.eq_iff_iff,List.all_eq_true,Bool.not_eq_true',<- Bool.not_eq_true,List.any_eq_true];constructor
  ·rintro h ⟨x,u,v⟩;rw[h x u]at v;cases v
  ·intro h x u;rw[<- Bool.not_eq_false];intro z;exact h ⟨x,u,by rw[z];rfl⟩
 rw[e];refine Cl.ao rfl Tryz.func134 rfl rfl rfl ?_;generalize(S.any fun n=>!(decide (1<=n)&&decide (n<=6)))=b at*
 cases b with
 |true=>
  exact af
 |false=>
  exact af
def L6(a b c:Bool):Cl ai 133 [.t (.arr [[.bool a],[.bool b],[.bool c]])] [] (.t (.bool (a&&(b&&c)))) []:=by
 cases a <;>cases b <;>cases c <;>exact⟨20,by kernel_rfl⟩
def DY(a b c d e:Bool):Cl ai 133 [.t (.arr [[.bool a],[.bool b],[.bool c],[.bool d],[.bool e]])] [] (.t (.bool (a&&(b&&(c&&(d&&e)))))) []:=by
 cases a <;>cases b <;>cases c <;>cases d <;>cases e <;>exact⟨20,by kernel_rfl⟩
def DZ{S C:List Int}(hc:C.all (cg S)=true)(q:Nat):(C.take q).all (cg S)=true:=List.all_eq_true.2 fun x u=>List.all_eq_true.1 hc x (List.mem_of_mem_take u)
def vF{S C:List Int}(U:S.length<=1000)(hs:ce S=true)(hc:C.all (cg S)=true)(hl:C.length<=3):Cl ai 140 [.t (ax S),.t (ax C)] [] (.t (.int .i64 (cU S C))) []:=by
 have I:=aQ S;have G:=aQ C;refine Cl.ao rfl Tryz.func140 rfl rfl rfl ?_;refine ar ?_;refine aC.ind (fun q:Nat=>[(5,.t (.int .i64 (cU S (C.take q)))),(10,.t (.int .i64 (q:Int)))]) (fun q=>q<=C.length) (fun q=>C.length - q) 0 rfl (by omega) (fun q h1=>?_);rcases Nat.lt_or_ge q C.length with h3|h3
 ·
  obtain⟨c,u⟩:=am h3;have Z:=aU u;have y:=List.all_eq_true.1 hc c (List.mem_of_getElem? u);unfold cg at y;simp only[Bool.and_eq_true,decide_eq_true_eq]at y;obtain⟨k,rfl⟩:∃k:Nat,c=(k:Int):=⟨c.toNat,by omega⟩;obtain⟨x,D⟩:=am (xs:=S) (k:=k) (by omega);have J:=aU D;have V:=lZ hs (DZ hc q) (by rw[List.length_take];omega);have z:=lZ hs (DZ hc (q+1)) (by rw[List.length_take];omega);have v:=uQ (S:=S) u;rw[show((k:Int)).toNat=k by omega,List.getD_eq_getElem?_getD,D,Option.getD_some]at v;rw[v]at z;generalize cU S (C.take q)=P at*
  refine ar ?_;exact⟨q+1,by rw[v];rfl,rfl,by omega,by omega⟩
 ·
  obtain rfl:q=C.length:=by omega
  rw[List.take_length];exact af
def L7:ai.P.eqGuardType ai.P.depth 105=false:=by kernel_rfl
def L8(a b u v:Int):ic ai.P 20 105 [.int .i64 a,.int .i64 b] [.int .i64 u,.int .i64 v]=some (decide (a=u)&&(decide (b=v)&&true)):=by kernel_rfl
def L9(t:Tb):Cl ai 138 [.t (.agg (dV t))] [] (.t (.bool (qD t))) []:=by
 have e:dV t=[.str t.name,.int .i64 t.kind,ax t.au,.int .i64 t.lo,.int .i64 t.hi,.int .i64 t.first]:=rfl;rw[e];refine Cl.ao rfl Tryz.func138 rfl rfl rfl ?_;unfold qD
 repeat'(first
|(with_reducible first|apply ac.seq|apply ac.block)
|((with_reducible apply ac.text);(try case hm=>exact rfl))
|(with_reducible first|apply ac.skip|apply ac.ret|apply az|apply aV|apply bk|apply bq)
|((with_reducible apply ac.aA);(case hc=>exact rfl))
|((with_reducible apply ac.aH);(case hc=>exact rfl))
|((with_reducible apply aa.bc)<;>intro u)
|((with_reducible apply aa.bg)<;>intro u)
|(with_reducible apply aa.ap)
|((with_reducible apply aa.gf);(case hW=>exact rfl))
|((with_reducible apply aa.aD);(case hW=>exact rfl);(case hx=>exact ah))
|((with_reducible apply aa.u0);(case hx=>first
|((with_reducible apply ae.eqs);(case hx|hy=>exact rfl);(case hg=>exact L7);(case ht=>exact rfl);(case hr=>exact L8 _ _ _ _))
|exact ah))
|fail)
 all_goals(refine aZ (.inr rfl) rfl ?_;first|(simp_all;done)|(simp_all;omega))
def L_{S:List Int}{c:Int}(v:S.length<=1000):Cl ai 169 [.t (.int .i64 c),.t (.tp [ax S])] [] (.t (.bool (!cg S c))) []:=by
 have u:=aQ S;refine Cl.ao rfl Tryz.func169 rfl rfl rfl ?_;unfold cg;exact af
def Ma{C:List Int}{p:Int->Bool}{c:AV}(hl:C.length<=140737488351232)(hp:∀x∈C,Cl ai 169 [.t (.int .i64 x),.t c] [] (.t (.bool (p x))) []):Cl ai 32 [.t (ax C),.t (.fn (.func 169) 0 [c])] [] (.t (.int .i64 (a8 p C 0))) []:=by
 have z:=aQ C;refine Cl.ao rfl Tryz.func32 rfl rfl rfl ?_;refine ar ?_;refine aC.ind (fun q:Nat=>[(8,.t (.int .i64 (q:Int)))]) (fun q=>q<=C.length/\a8 p C 0=a8 p (C.drop q) q) (fun q=>C.length - q) 0 rfl (by simp) (fun q D=>?_);obtain⟨h1,h2⟩:=D;rw[h2];rcases Nat.lt_or_ge q C.length with h3|h3
 ·
  obtain⟨e,u⟩:=am h3;have G:=aU u;have v:=hp e (List.mem_of_getElem? u);rw[drop_at u,gV];obtain⟨b,y⟩:∃b,p e=b:=⟨_,rfl⟩;rw[y]at v⊢
  cases b with
  |true=>
   exact af
  |false=>
   exact af
 ·
  rw[List.drop_of_length_le h3];exact af
def Mb{C:List Int}{p:Int->Bool}{c:AV}(hl:C.length<=140737488351232)(hp:∀x∈C,Cl ai 169 [.t (.int .i64 x),.t c] [] (.t (.bool (p x))) []):Cl ai 11 [.t (ax C),.t (.fn (.func 169) 0 [c])] [] (.t (.bool (C.any p))) []:=by
 have u:=Ma hl hp;rw[<- gy p C 0 (by omega)];refine Cl.ao rfl Tryz.func11 rfl rfl rfl ?_;obtain⟨n,v⟩:∃n,a8 p C 0=n:=⟨_,rfl⟩;rw[v]at u⊢;exact af
def n7{α:Type}(p:α->Bool)(l:List α):l.all p=!(l.any fun x=>!p x):=by
 rw[Bool.eq_iff_iff,List.all_eq_true,Bool.not_eq_true',<- Bool.not_eq_true,List.any_eq_true];constructor
 ·rintro h ⟨x,u,v⟩;rw[h x u]at v;cases v
 ·intro h x u;rw[<- Bool.not_eq_false];intro y;exact h ⟨x,u,by rw[y];rfl⟩
def Mc{S C:List Int}(y:S.length<=1000)(u:C.length<=140737488351232):Cl ai 137 [.t (ax S),.t (ax C)] [] (.t (.bool (iw S C))) []:=by
 have z:=aQ S;have v:=aQ C;have k:=Mb (p:=fun c=>!cg S c) (c:=.tp [ax S]) u (fun x _=>L_ y);refine Cl.ao rfl Tryz.func137 rfl rfl rfl ?_;unfold iw;rw[n7 (cg S) C];generalize(C.any fun c=>!cg S c)=b at*
 by_cases h3:C.length<=3
 ·
  rw[decide_eq_true h3]
  cases b with
  |true=>
   exact af
  |false=>
   exact af
 ·
  rw[decide_eq_false h3];exact af
section
variable {g:Cfg} {d:Option (List Nat)} {env:Env} {fr:Fr} {i':Nat}
def ae.px{t e i:Nat}{z:TypeDesc}{m k y:Operand}{ka:AV}{ks u:List AV}{vs v:List SV}{x:SV}{fr':Fr}(hs:∀C:CallF,step g C d i' env fr (.mapUpdate t m k y)=bU g C (dI d i') env fr (.mapUpdate t m k y))(hm:lG g.P t=some (e,z))(ha:rd env m=.lm i)(hk:rd env k=.t ka)(hd:rB z ka=true)(hy:rd env y=x)(hb:fr[i]?=some (.map false ks vs))(hf:dG z ka ks 0=some none)(hks:ks++[ka]=u)(hvs:vs++[x]=v)(hfr:aJ (fr.set i (.map false u v)) fr'):ae g d i' env fr (.mapUpdate t m k y) .dead fr' []:=.r fun C=>by
 rw[hs];obtain rfl:=hfr.eq;subst hks hvs hy;unfold bU pU;simp only[hm,ha,hk,hb,hd,hf]
def ae.Me{t e i j:Nat}{v:TypeDesc}{m k y:Operand}{ka:AV}{ks:List AV}{vs u:List SV}{x:SV}{fr':Fr}(hs:∀C:CallF,step g C d i' env fr (.mapUpdate t m k y)=bU g C (dI d i') env fr (.mapUpdate t m k y))(hm:lG g.P t=some (e,v))(ha:rd env m=.lm i)(hk:rd env k=.t ka)(hd:rB v ka=true)(hy:rd env y=x)(hb:fr[i]?=some (.map false ks vs))(hf:dG v ka ks 0=some (some j))(hvs:vs.set j x=u)(hfr:aJ (fr.set i (.map false ks u)) fr'):ae g d i' env fr (.mapUpdate t m k y) .dead fr' []:=.r fun C=>by
 rw[hs];obtain rfl:=hfr.eq;subst hvs hy;unfold bU pU;simp only[hm,ha,hk,hb,hd,hf]
def ae.D0{t u:Nat}{a y:Operand}{args:Array Operand}{tys:Array TypeId}{x z s:SV}{fr1 fr':Fr}(hs:∀C:CallF,step g C d i' env fr (.call ⟨.builtin .copy,args,tys⟩)=bU g C (dI d i') env fr (.call ⟨.builtin .copy,args,tys⟩))(ha:args.toList=[a,y])(ht:tys.toList=[t,u])(hx:rd env a=x)(hy:rd env y=z)(hm:ky g.P fr t x z=some (s,fr1,[]))(hf:aJ fr1 fr'):ae g d i' env fr (.call ⟨.builtin .copy,args,tys⟩) s fr' []:=.r fun C=>by
 rw[hs];obtain rfl:=hf.eq;subst hx hy;unfold bU;simp only[ha,ht,hm]
end
def j0(N:List ByteArray):List AV:=N.map .str
def cW(N:List Int):List AV:=N.map (.int .i64)
def dP(n:Nat):List SV:=List.replicate n (.t (.bool true))
def D1(s u:ByteArray):(s==u)=decide (s=u):=by
 cases s with|mk a=>cases u with|mk b=>
 have h:((ByteArray.mk a)==(ByteArray.mk b))=(a==b):=rfl;rw[h,Bool.eq_iff_iff];simp
theorem zk{s:ByteArray}:∀(N:List ByteArray) (i:Nat),dG .string (.str s) (j0 N) i=(if N.any (fun u=>decide (u=s))=true then some (some (i+N.findIdx fun u=>decide (u=s)))else some none)
 |[],i=>rfl
 |u::N,i=>by
  show dG .string (.str s) (.str u::j0 N) i=_
  unfold dG;have e:iY .string [.str s] [.str u]=some (s==u):=rfl;rw[e,zk N (i+1),List.any_cons,List.findIdx_cons];by_cases h:u=s
  ·subst h;have h2:(u==u)=true:=by rw[D1];simp
   rw[h2];simp
  ·have h2:(s==u)=false:=by
    rw[D1];exact decide_eq_false fun v=>h v.symm
   rw[h2,decide_eq_false h];simp only[Bool.false_or,cond_false];split
   ·simp;omega
   ·rfl
theorem vG{s:Int}:∀(N:List Int) (i:Nat),dG (.int .i64) (.int .i64 s) (cW N) i=(if N.any (fun u=>decide (u=s))=true then some (some (i+N.findIdx fun u=>decide (u=s)))else some none)
 |[],i=>rfl
 |u::N,i=>by
  show dG (.int .i64) (.int .i64 s) (.int .i64 u::cW N) i=_
  unfold dG;have e:iY (.int .i64) [.int .i64 s] [.int .i64 u]=some (decide (s=u)):=rfl;rw[e,vG N (i+1),List.any_cons,List.findIdx_cons];by_cases h:u=s
  ·subst h;rw[decide_eq_true rfl];simp
  ·have h2:decide (s=u)=false:=decide_eq_false fun v=>h v.symm;rw[h2,decide_eq_false h];simp only[Bool.false_or,cond_false];split
   ·simp;omega
   ·rfl
def zl{s:ByteArray}{N:List ByteArray}(h:(N.any fun u=>decide (u=s))=false):dG .string (.str s) (j0 N) 0=some none:=by rw[zk,h];rfl
def zm{s:ByteArray}{N:List ByteArray}(h:(N.any fun u=>decide (u=s))=true):∃j,dG .string (.str s) (j0 N) 0=some (some j)/\j <N.length:=by
 refine⟨N.findIdx fun u=>decide (u=s),by rw[zk,if_pos h,Nat.zero_add],?_⟩;rw[List.any_eq_true]at h;obtain⟨x,y,v⟩:=h;exact List.findIdx_lt_length_of_exists ⟨x,y,v⟩
def vH{s:Int}{N:List Int}(h:(N.any fun u=>decide (u=s))=false):dG (.int .i64) (.int .i64 s) (cW N) 0=some none:=by rw[vG,h];rfl
def D2{s:Int}{N:List Int}(h:(N.any fun u=>decide (u=s))=true):∃j,dG (.int .i64) (.int .i64 s) (cW N) 0=some (some j)/\j <N.length:=by
 refine⟨N.findIdx fun u=>decide (u=s),by rw[vG,if_pos h,Nat.zero_add],?_⟩;rw[List.any_eq_true]at h;obtain⟨x,y,v⟩:=h;exact List.findIdx_lt_length_of_exists ⟨x,y,v⟩
def sM{n j:Nat}(h:j <n):(dP n)[j]?=some (.t (.bool true)):=by unfold dP;rw[List.getElem?_replicate,if_pos h]
def Mf{n j:Nat}:(dP n).set j (.t (.bool true))=dP n:=by
 unfold dP;apply List.ext_getElem?;intro k;rw[List.getElem?_set];simp only[List.length_replicate,List.getElem?_replicate];split
 ·subst_vars
  split <;>simp_all
 ·rfl
def vI(n:Nat):dP n++[.t (.bool true)]=dP (n+1):=by unfold dP;rw[List.replicate_succ']
def zn(n:Nat):dP n=(List.replicate n (.bool true)).map SV.t:=by unfold dP;rw[List.map_replicate]
def D3{σ:Nat->Option Nat}{ks:List AV}{n:Nat}{bs u:Fr}(h:bs=u):(Lb.map false ks (SV.cN σ (dP n))::bs)=Lb.map false ks (dP n)::u:=by rw[zn,qd,h]
def Mg{N:List Int}{s:Int}:cW N++[.int .i64 s]=cW (N++[s]):=by simp[cW]
set_option maxRecDepth 100000
def Mh(s:sn):List AV:=[.int .i64 s.e,.int .i64 s.f,.bool s.hold,.int .i64 s.idx,ax s.st]
def qO(x:cn):List AV:=[.int .i64 x.cF,.int .i64 x.s.e,.int .i64 x.s.f,.bool x.s.hold,.int .i64 x.s.idx,ax x.s.st]
def fq(l:List cn):List (List AV):=l.map qO
def gW(x:Mem):List AV:=[.int .i64 x.act,.int .i64 x.s.e,.int .i64 x.s.f,.bool x.s.hold,.int .i64 x.s.idx,ax x.s.st]
def cK(l:List Mem):List (List AV):=l.map gW
def j1(x:Lck):List AV:=[.int .i64 x.a,.int .i64 x.b,.int .i64 x.pa,.int .i64 x.pb,.arr (cK x.mem)]
def e_(l:List Lck):List (List AV):=l.map j1
def sN(p:Pln):List AV:=[.arr (fq p.aw),.arr (e_ p.aR),.arr (cK p.places),ax p.bI]
def ba(p:Pln):AV:=.agg (sN p)
def Mi(x:cP):List AV:=[.int .i64 x.k,.int .i64 x.i,.int .i64 x.el,.int .i64 x.n]
def bW(l:List cP):List (List AV):=l.map Mi
def py(l:List cn):(fq l).length=l.length:=List.length_map _
def n8(l:List Mem):(cK l).length=l.length:=List.length_map _
def vJ(l:List Lck):(e_ l).length=l.length:=List.length_map _
def sO{l:List cn}{k:Nat}{x:cn}(h:l[k]?=some x):(fq l)[k]?=some [.int .i64 x.cF,.int .i64 x.s.e,.int .i64 x.s.f,.bool x.s.hold,.int .i64 x.s.idx,ax x.s.st]:=iB h
def qP{l:List Mem}{k:Nat}{x:Mem}(h:l[k]?=some x):(cK l)[k]?=some [.int .i64 x.act,.int .i64 x.s.e,.int .i64 x.s.f,.bool x.s.hold,.int .i64 x.s.idx,ax x.s.st]:=iB h
def sP{l:List Lck}{k:Nat}{x:Lck}(h:l[k]?=some x):(e_ l)[k]?=some [.int .i64 x.a,.int .i64 x.b,.int .i64 x.pa,.int .i64 x.pb,.arr (cK x.mem)]:=iB h
def qQ{l:List cP}{k:Nat}{x:cP}(h:l[k]?=some x):(bW l)[k]?=some [.int .i64 x.k,.int .i64 x.i,.int .i64 x.el,.int .i64 x.n]:=iB h
structure n9 (p:Pln):Prop where
 aw:p.aw.length<=17592186044416
 aR:p.aR.length<=17592186044416
 mem:∀L∈p.aR,L.mem.length<=17592186044416
 places:p.places.length<=17592186044416
 bI:p.bI.length<=17592186044416
def Mj{m:Nat}{xs:List AV}(h:aN Tryz.prog (m+2) 77 xs):∃(b:Bool) (i:Int),xs=[.bool b,.int .i64 i]:=by
 rw[aN]at h;simp only[Tryz.underlying77,dJ]at h;obtain⟨v,_,rfl,u,y,_,rfl,h1,rfl⟩:=h;obtain⟨b,rfl⟩:=Dx u;obtain⟨i,rfl⟩:=bV h1;exact⟨b,i,rfl⟩
def Mk{m:Nat}{xs:List AV}(h:aN Tryz.prog (m+3) 79 xs):∃(e f:Int) (b:Bool) (i:Int),xs=[.int .i64 e,.int .i64 f,.bool b,.int .i64 i]:=by
 rw[aN]at h;simp only[Tryz.underlying79,dJ]at h;obtain⟨v,_,rfl,u,y,_,rfl,h1,z,_,rfl,h2,rfl⟩:=h;obtain⟨e,rfl⟩:=bV u;obtain⟨f,rfl⟩:=bV h1;obtain⟨b,i,rfl⟩:=Mj h2;exact⟨e,f,b,i,rfl⟩
def D4{m:Nat}{xs:List AV}(h:aN Tryz.prog (m+4) 81 xs):∃s:sn,xs=Mh s:=by
 rw[aN]at h;simp only[Tryz.underlying81,dJ]at h;obtain⟨y,_,rfl,u,z,_,rfl,h1,rfl⟩:=h;obtain⟨e,f,b,i,rfl⟩:=Mk u;obtain⟨l,rfl,v⟩:=mX h1;exact⟨⟨e,f,b,i,l⟩,rfl⟩
def Ml{m:Nat}{xs:List AV}(h:aN Tryz.prog (m+5) 83 xs):∃x:cn,xs=qO x:=by
 rw[aN]at h;simp only[Tryz.underlying83,dJ]at h;obtain⟨v,_,rfl,u,y,_,rfl,h1,rfl⟩:=h;obtain⟨c,rfl⟩:=bV u;obtain⟨s,rfl⟩:=D4 h1;exact⟨⟨c,s⟩,rfl⟩
def Mm{m:Nat}{xs:List AV}(h:aN Tryz.prog (m+5) 134 xs):∃x:Mem,xs=gW x:=by
 rw[aN]at h;simp only[Tryz.underlying134,dJ]at h;obtain⟨v,_,rfl,u,y,_,rfl,h1,rfl⟩:=h;obtain⟨c,rfl⟩:=bV u;obtain⟨s,rfl⟩:=D4 h1;exact⟨⟨c,s⟩,rfl⟩
def Mn{m:Nat}{xs:List AV}(h:aN Tryz.prog (m+6) 31 xs):∃l:List cn,xs=[.arr (fq l)]/\l.length<=17592186044416:=by
 obtain⟨l,h1,h2,_⟩:=jz (f:=qO) (R:=fun _=>True) (fun h=>by rw[aN]at h;simp only[Tryz.underlying31]at h;exact h) (fun _ u=>by obtain⟨s,hs⟩:=Ml u;exact⟨s,hs,trivial⟩) h;exact⟨l,h1,h2⟩
def D5{m:Nat}{xs:List AV}(h:aN Tryz.prog (m+6) 33 xs):∃l:List Mem,xs=[.arr (cK l)]/\l.length<=17592186044416:=by
 obtain⟨l,h1,h2,_⟩:=jz (f:=gW) (R:=fun _=>True) (fun h=>by rw[aN]at h;simp only[Tryz.underlying33]at h;exact h) (fun _ u=>by obtain⟨s,hs⟩:=Mm u;exact⟨s,hs,trivial⟩) h;exact⟨l,h1,h2⟩
def Mo{m:Nat}{xs:List AV}(h:aN Tryz.prog (m+7) 71 xs):∃x:Lck,xs=j1 x/\x.mem.length<=17592186044416:=by
 rw[aN]at h;simp only[Tryz.underlying71,dJ]at h;obtain⟨y,_,rfl,u,z,_,rfl,h1,D,_,rfl,h2,G,_,rfl,h3,I,_,rfl,h4,rfl⟩:=h;obtain⟨a,rfl⟩:=bV u;obtain⟨b,rfl⟩:=bV h1;obtain⟨c,rfl⟩:=bV h2;obtain⟨d,rfl⟩:=bV h3;obtain⟨l,rfl,v⟩:=D5 h4;exact⟨⟨a,b,c,d,l⟩,rfl,v⟩
def Mp{m:Nat}{xs:List AV}(h:aN Tryz.prog (m+8) 32 xs):∃l:List Lck,xs=[.arr (e_ l)]/\l.length<=17592186044416/\∀L∈l,L.mem.length<=17592186044416:=
 jz (f:=j1) (fun h=>by rw[aN]at h;simp only[Tryz.underlying32]at h;exact h) (fun _=>Mo) h
def Mq{m:Nat}{xs:List AV}(h:aN Tryz.prog (m+9) 35 xs):∃p:Pln,xs=sN p/\n9 p:=by
 rw[aN]at h;simp only[Tryz.underlying35,dJ]at h;obtain⟨G,_,rfl,v,I,_,rfl,h1,J,_,rfl,h2,U,_,rfl,h3,rfl⟩:=h;obtain⟨a,rfl,y⟩:=Mn v;obtain⟨b,rfl,z,u⟩:=Mp h1;obtain⟨c,rfl,D⟩:=D5 h2;obtain⟨d,rfl,hd⟩:=mX h3;exact⟨⟨a,b,c,d⟩,rfl,y,z,u,D,hd⟩
set_option maxHeartbeats 16000000
def zo(i n:Int):Cl ai 142 [.t (.int .i64 i),.t (.int .i64 n)] [] (.t (.bool (decide (0<=i)&&decide (i <n)))) []:=by
 refine Cl.ao rfl Tryz.func142 rfl rfl rfl ?_;exact af
def vK(n:Int){m:Int}(hm:m=1000\/(m=1000000000\/m=9999)):Cl ai 147 [.t (.int .i64 n),.t (.int .i64 m)] [] (.t (.bool (cE n m))) []:=by
 unfold cE;rcases hm with rfl|rfl|rfl
 ·
  have u:IntKind.i64.wrap (-1000)= -1000:=by decide
  refine Cl.ao rfl Tryz.func147 rfl rfl rfl ?_;exact af
 ·
  have u:IntKind.i64.wrap (-1000000000)= -1000000000:=by decide
  refine Cl.ao rfl Tryz.func147 rfl rfl rfl ?_;exact af
 ·
  have u:IntKind.i64.wrap (-9999)= -9999:=by decide
  refine Cl.ao rfl Tryz.func147 rfl rfl rfl ?_;exact af
def Mr{a:eD}{c:Int}(hl:a.eff.delta.length<=140737488351232):Cl ai 194 [.t (.agg (pq a)),.t (.int .i64 c)] [] (.t (.int .i64 (eg a.eff.delta c))) []:=by
 have y:=sI a.eff.delta;have e:pq a=[.int .i64 a.op,ax a.args,.arr (iS a.eff.delta),.arr (iz a.eff.hold),.arr (iA a.eff.bZ)]:=rfl;rw[e];refine Cl.ao rfl Tryz.func194 rfl rfl rfl ?_;refine ar ?_;refine aC.ind (fun q:Nat=>[(11,.t (.int .i64 (q:Int)))]) (fun q=>q<=a.eff.delta.length/\eg a.eff.delta c=eg (a.eff.delta.drop q) c) (fun q=>a.eff.delta.length - q) 0 rfl ⟨by omega,rfl⟩ (fun q z=>?_);obtain⟨h1,h2⟩:=z;rw[h2];rcases Nat.lt_or_ge q a.eff.delta.length with h3|h3
 ·
  obtain⟨x,v⟩:=am h3;have D:=qM v;rw[bS v,Dn];by_cases u:x.cell=c
  ·
   rw[if_pos u];exact af
  ·
   rw[if_neg u];exact af
 ·
  rw[List.drop_of_length_le h3];exact af
end Go.Proofs.YtjolgbkkocjpgaaGreatDoor
