/- Models as trees. No condition. -/
import Derived.Test.YtcgdbhlnkificaaGreatDoorWQ
import Derived.Test.YtcgdbhlnkificaaGreatDoorTKA
import Derived.Test.YtcgdbhlnkificaaGreatDoorTS
import Derived.Test.YtcgdbhlnkificaaGreatDoorTLX
import Derived.Test.YtcgdbhlnkificaaGreatDoorTP
set_option linter.all false
namespace Go.Proofs.YtcgdbhlnkificaaGreatDoor
open Go.RowKit
set_option maxRecDepth 100000
def gC(t:Tb):List AV:=[.str t.name,.int .i64 t.kind,aD t.au,.int .i64 t.lo,.int .i64 t.hi,.int .i64 t.first]
def bC(l:List Tb):List (List AV):=l.map gC
def cq(l:List ByteArray):List (List AV):=l.map fun s=>[.str s]
def AF(t:Tm):List AV:=[.int .i64 t.cell,.int .i64 t.bZ]
def dU(l:List Tm):List (List AV):=l.map AF
def fa(r:Rw):List AV:=[.arr (dU r.bt),.int .i64 r.jZ]
def iK(l:List Rw):List (List AV):=l.map fa
def lg(c:Cn):List AV:=[.int .i64 c.kind,.int .i64 c.j_,.arr (dU c.row.bt),.int .i64 c.row.jZ,.int .i64 c.first,.int .i64 c.size]
def fk(l:List Cn):List (List AV):=l.map lg
def zo(o:fX):List AV:=[.str o.name,.bool o.ord,aD o.ao]
def fv(l:List fX):List (List AV):=l.map zo
def xD(c:bP):List AV:=[.int .i64 c.cell,.int .i64 c.add]
def iV(l:List bP):List (List AV):=l.map xD
def tY(u:cw):List AV:=[.int .i64 u.kind,.int .i64 u.cell,.int .i64 u.value]
def iO(l:List cw):List (List AV):=l.map tY
def qG(e:k8):List AV:=[.arr (iV e.delta),.arr (iK e.hold),.arr (iO e.b7)]
def o8(a:eF):List AV:=[.int .i64 a.op,aD a.args,.arr (iV a.eff.delta),.arr (iK a.eff.hold),.arr (iO a.eff.b7)]
def eg(l:List eF):List (List AV):=l.map o8
def yz(h:Hde):List AV:=[.int .i64 h.table,.int .i64 h.eM,.int .i64 h.to]
def c7(l:List Hde):List (List AV):=l.map yz
def bO(l:List (Int×Int)):List (List AV):=l.map fun r=>[.int .i64 r.1,.int .i64 r.2]
def gm(m:Md):List AV:=[aD m.ao,.arr (bC m.tables),.arr (cq m.bH),.arr (fk m.cons),.arr (fv m.ops),.arr (eg m.ax),.arr (c7 m.aG)]
def bN(m:Md):AV:=.agg (gm m)
def iE{α:Type}{f:α->List AV}{l:List α}{k:Nat}{x:α}(h:l[k]?=some x):(l.map f)[k]?=some (f x):=by rw[List.getElem?_map,h];rfl
def fT(l:List Tb):(bC l).length=l.length:=List.length_map _
def ny(l:List ByteArray):(cq l).length=l.length:=List.length_map _
def nG(l:List Tm):(dU l).length=l.length:=List.length_map _
def wi(l:List Rw):(iK l).length=l.length:=List.length_map _
def qE(l:List Cn):(fk l).length=l.length:=List.length_map _
def mB(l:List fX):(fv l).length=l.length:=List.length_map _
def uG(l:List bP):(iV l).length=l.length:=List.length_map _
def AL(l:List cw):(iO l).length=l.length:=List.length_map _
def jl(l:List eF):(eg l).length=l.length:=List.length_map _
def qX(l:List Hde):(c7 l).length=l.length:=List.length_map _
def lQ(l:List (Int×Int)):(bO l).length=l.length:=List.length_map _
def fB{l:List Tb}{k:Nat}{t:Tb}(h:l[k]?=some t):(bC l)[k]?=some [.str t.name,.int .i64 t.kind,aD t.au,.int .i64 t.lo,.int .i64 t.hi,.int .i64 t.first]:=iE h
def D3{l:List ByteArray}{k:Nat}{s:ByteArray}(h:l[k]?=some s):(cq l)[k]?=some [.str s]:=iE (f:=fun s=>[.str s]) h
def oU{l:List Tm}{k:Nat}{t:Tm}(h:l[k]?=some t):(dU l)[k]?=some [.int .i64 t.cell,.int .i64 t.bZ]:=iE h
def Fu{l:List Rw}{k:Nat}{r:Rw}(h:l[k]?=some r):(iK l)[k]?=some [.arr (dU r.bt),.int .i64 r.jZ]:=iE h
def ph{l:List Cn}{k:Nat}{c:Cn}(h:l[k]?=some c):(fk l)[k]?=some [.int .i64 c.kind,.int .i64 c.j_,.arr (dU c.row.bt),.int .i64 c.row.jZ,.int .i64 c.first,.int .i64 c.size]:=iE h
def nz{l:List fX}{k:Nat}{o:fX}(h:l[k]?=some o):(fv l)[k]?=some [.str o.name,.bool o.ord,aD o.ao]:=iE h
def su{l:List bP}{k:Nat}{c:bP}(h:l[k]?=some c):(iV l)[k]?=some [.int .i64 c.cell,.int .i64 c.add]:=iE h
def tZ{l:List cw}{k:Nat}{u:cw}(h:l[k]?=some u):(iO l)[k]?=some [.int .i64 u.kind,.int .i64 u.cell,.int .i64 u.value]:=iE h
def fF{l:List eF}{k:Nat}{a:eF}(h:l[k]?=some a):(eg l)[k]?=some [.int .i64 a.op,aD a.args,.arr (iV a.eff.delta),.arr (iK a.eff.hold),.arr (iO a.eff.b7)]:=iE h
def qW{l:List Hde}{k:Nat}{h:Hde}(e:l[k]?=some h):(c7 l)[k]?=some [.int .i64 h.table,.int .i64 h.eM,.int .i64 h.to]:=iE e
def Rx{l:List (Int×Int)}{k:Nat}{r:Int×Int}(e:l[k]?=some r):(bO l)[k]?=some [.int .i64 r.1,.int .i64 r.2]:=iE (f:=fun r:Int×Int=>[.int .i64 r.1,.int .i64 r.2]) e
structure bx (m:Md):Prop where
 ao:m.ao.length<=17592186044416
 tables:m.tables.length<=17592186044416
 au:∀t∈m.tables,t.au.length<=17592186044416
 bH:m.bH.length<=17592186044416
 cons:m.cons.length<=17592186044416
 bt:∀c∈m.cons,c.row.bt.length<=17592186044416
 ops:m.ops.length<=17592186044416
 rA:∀o∈m.ops,o.ao.length<=17592186044416
 ax:m.ax.length<=17592186044416
 args:∀a∈m.ax,a.args.length<=17592186044416
 delta:∀a∈m.ax,a.eff.delta.length<=17592186044416
 hold:∀a∈m.ax,a.eff.hold.length<=17592186044416
 sV:∀a∈m.ax,∀r∈a.eff.hold,r.bt.length<=17592186044416
 b7:∀a∈m.ax,a.eff.b7.length<=17592186044416
 aG:m.aG.length<=17592186044416
 Qb:∀a∈m.ax,∀u∈a.eff.b7,u.cell<=9223372036854775807
def jQ{m:Nat}{xs:List AV}{T E:TypeId}{α:Type}{f:α->List AV}{R:α->Prop}(v:aJ Tryz.prog (m+1) T xs->∃es:List (List AV),xs=[.arr es]/\es.length<=17592186044416/\∀c∈es,aJ Tryz.prog m E c)(u:∀c,aJ Tryz.prog m E c->∃a,c=f a/\R a)(h:aJ Tryz.prog (m+1) T xs):∃l:List α,xs=[.arr (l.map f)]/\l.length<=17592186044416/\∀a∈l,R a:=by
 obtain⟨es,rfl,G,D⟩:=v h;obtain⟨l,rfl,y⟩:=rh (f:=f) (R:=R) fun c z=>u c (D c z);exact⟨l,rfl,by simpa using G,y⟩
def Am{m:Nat}{xs:List AV}(h:aJ Tryz.prog (m+1) 9 xs):∃s,xs=[.str s]:=by
 simp only[aJ,Tryz.underlying9]at h;obtain⟨s,h,_⟩:=h;exact⟨s,h⟩
def ON{m:Nat}{xs:List AV}(h:aJ Tryz.prog (m+1) 3 xs):∃k:Int,xs=[.int .i64 k]/\k<=9223372036854775807:=by
 simp only[aJ,Tryz.underlying3]at h;obtain⟨k,h,u⟩:=h;simp only[Lit.wf,Bool.and_eq_true,decide_eq_true_eq]at u;exact⟨k,h,Int.le_trans u.2 (by decide)⟩
def OY{m:Nat}{xs:List AV}(h:aJ Tryz.prog (m+2) 145 xs):∃a b:Int,xs=[.int .i64 a,.int .i64 b]:=by
 rw[aJ]at h;simp only[Tryz.underlying145,dN]at h;obtain⟨v,_,rfl,u,y,_,rfl,h1,rfl⟩:=h;obtain⟨a,rfl⟩:=bY u;obtain⟨b,rfl⟩:=bY h1;exact⟨a,b,rfl⟩
def O3{m:Nat}{xs:List AV}(h:aJ Tryz.prog (m+3) 147 xs):∃t:Tb,xs=gC t/\t.au.length<=17592186044416:=by
 rw[aJ]at h;simp only[Tryz.underlying147,dN]at h;obtain⟨y,_,rfl,u,z,_,rfl,h1,D,_,rfl,h2,G,_,rfl,h3,I,_,rfl,h4,rfl⟩:=h;obtain⟨s,rfl⟩:=Am u;obtain⟨k,rfl⟩:=bY h1;obtain⟨c,rfl,v⟩:=oM h2;obtain⟨a,b,rfl⟩:=OY h3;obtain⟨f,rfl⟩:=bY h4;exact⟨⟨s,k,c,a,b,f⟩,rfl,v⟩
def O4{m:Nat}{xs:List AV}(h:aJ Tryz.prog (m+4) 23 xs):∃l:List Tb,xs=[.arr (bC l)]/\l.length<=17592186044416/\∀t∈l,t.au.length<=17592186044416:=
 jQ (f:=gC) (fun h=>by rw[aJ]at h;simp only[Tryz.underlying23]at h;exact h) (fun _=>O3) h
def O2{m:Nat}{xs:List AV}(h:aJ Tryz.prog (m+2) 24 xs):∃l:List ByteArray,xs=[.arr (cq l)]/\l.length<=17592186044416:=by
 obtain⟨l,h1,h2,_⟩:=jQ (f:=fun s=>[.str s]) (R:=fun _:ByteArray=>True) (fun h=>by rw[aJ]at h;simp only[Tryz.underlying24]at h;exact h) (fun _ u=>by obtain⟨s,hs⟩:=Am u;exact⟨s,hs,trivial⟩) h;exact⟨l,h1,h2⟩
def O6{m:Nat}{xs:List AV}(h:aJ Tryz.prog (m+2) 149 xs):∃t:Tm,xs=AF t:=by
 rw[aJ]at h;simp only[Tryz.underlying149,dN]at h;obtain⟨v,_,rfl,u,y,_,rfl,h1,rfl⟩:=h;obtain⟨a,rfl⟩:=bY u;obtain⟨b,rfl⟩:=bY h1;exact⟨⟨a,b⟩,rfl⟩
def O7{m:Nat}{xs:List AV}(h:aJ Tryz.prog (m+3) 107 xs):∃l:List Tm,xs=[.arr (dU l)]/\l.length<=17592186044416:=by
 obtain⟨l,h1,h2,_⟩:=jQ (f:=AF) (R:=fun _=>True) (fun h=>by rw[aJ]at h;simp only[Tryz.underlying107]at h;exact h) (fun _ u=>by obtain⟨s,hs⟩:=O6 u;exact⟨s,hs,trivial⟩) h;exact⟨l,h1,h2⟩
def FN{m:Nat}{xs:List AV}(h:aJ Tryz.prog (m+4) 109 xs):∃r:Rw,xs=fa r/\r.bt.length<=17592186044416:=by
 rw[aJ]at h;simp only[Tryz.underlying109,dN]at h;obtain⟨y,_,rfl,u,z,_,rfl,h1,rfl⟩:=h;obtain⟨l,rfl,v⟩:=O7 u;obtain⟨b,rfl⟩:=bY h1;exact⟨⟨l,b⟩,rfl,v⟩
def OC{m:Nat}{xs:List AV}(h:aJ Tryz.prog (m+5) 111 xs):∃c:Cn,xs=lg c/\c.row.bt.length<=17592186044416:=by
 rw[aJ]at h;simp only[Tryz.underlying111,dN]at h;obtain⟨y,_,rfl,u,z,_,rfl,h1,D,_,rfl,h2,G,_,rfl,h3,I,_,rfl,h4,rfl⟩:=h;obtain⟨k,rfl⟩:=bY u;obtain⟨f,rfl⟩:=bY h1;obtain⟨r,rfl,v⟩:=FN h2;obtain⟨a,rfl⟩:=bY h3;obtain⟨b,rfl⟩:=bY h4;exact⟨⟨k,f,r,a,b⟩,rfl,v⟩
def OD{m:Nat}{xs:List AV}(h:aJ Tryz.prog (m+6) 25 xs):∃l:List Cn,xs=[.arr (fk l)]/\l.length<=17592186044416/\∀c∈l,c.row.bt.length<=17592186044416:=
 jQ (f:=lg) (fun h=>by rw[aJ]at h;simp only[Tryz.underlying25]at h;exact h) (fun _=>OC) h
def OT{m:Nat}{xs:List AV}(h:aJ Tryz.prog (m+3) 114 xs):∃o:fX,xs=zo o/\o.ao.length<=17592186044416:=by
 rw[aJ]at h;simp only[Tryz.underlying114,dN]at h;obtain⟨y,_,rfl,u,z,_,rfl,h1,D,_,rfl,h2,rfl⟩:=h;obtain⟨s,rfl⟩:=Am u;obtain⟨b,rfl⟩:=FK h1;obtain⟨l,rfl,v⟩:=oM h2;exact⟨⟨s,b,l⟩,rfl,v⟩
def OU{m:Nat}{xs:List AV}(h:aJ Tryz.prog (m+4) 26 xs):∃l:List fX,xs=[.arr (fv l)]/\l.length<=17592186044416/\∀o∈l,o.ao.length<=17592186044416:=
 jQ (f:=zo) (fun h=>by rw[aJ]at h;simp only[Tryz.underlying26]at h;exact h) (fun _=>OT) h
def Oz{m:Nat}{xs:List AV}(h:aJ Tryz.prog (m+2) 153 xs):∃t:bP,xs=xD t:=by
 rw[aJ]at h;simp only[Tryz.underlying153,dN]at h;obtain⟨v,_,rfl,u,y,_,rfl,h1,rfl⟩:=h;obtain⟨a,rfl⟩:=bY u;obtain⟨b,rfl⟩:=bY h1;exact⟨⟨a,b⟩,rfl⟩
def OA{m:Nat}{xs:List AV}(h:aJ Tryz.prog (m+3) 125 xs):∃l:List bP,xs=[.arr (iV l)]/\l.length<=17592186044416:=by
 obtain⟨l,h1,h2,_⟩:=jQ (f:=xD) (R:=fun _=>True) (fun h=>by rw[aJ]at h;simp only[Tryz.underlying125]at h;exact h) (fun _ u=>by obtain⟨s,hs⟩:=Oz u;exact⟨s,hs,trivial⟩) h;exact⟨l,h1,h2⟩
def O8{m:Nat}{xs:List AV}(h:aJ Tryz.prog (m+2) 155 xs):∃t:cw,xs=tY t/\t.cell<=9223372036854775807:=by
 rw[aJ]at h;simp only[Tryz.underlying155,dN]at h;obtain⟨y,_,rfl,u,z,_,rfl,h1,D,_,rfl,h2,rfl⟩:=h;obtain⟨a,rfl⟩:=bY u;obtain⟨b,rfl,v⟩:=ON h1;obtain⟨c,rfl⟩:=bY h2;exact⟨⟨a,b,c⟩,rfl,v⟩
def O9{m:Nat}{xs:List AV}(h:aJ Tryz.prog (m+3) 127 xs):∃l:List cw,xs=[.arr (iO l)]/\l.length<=17592186044416/\∀u∈l,u.cell<=9223372036854775807:=
 jQ (f:=tY) (fun h=>by rw[aJ]at h;simp only[Tryz.underlying127]at h;exact h) (fun _=>O8) h
def O0{m:Nat}{xs:List AV}(h:aJ Tryz.prog (m+5) 126 xs):∃l:List Rw,xs=[.arr (iK l)]/\l.length<=17592186044416/\∀r∈l,r.bt.length<=17592186044416:=
 jQ (f:=fa) (fun h=>by rw[aJ]at h;simp only[Tryz.underlying126]at h;exact h) (fun _=>FN) h
structure xg (e:k8):Prop where
 delta:e.delta.length<=17592186044416
 hold:e.hold.length<=17592186044416
 sV:∀r∈e.hold,r.bt.length<=17592186044416
 b7:e.b7.length<=17592186044416
 cell:∀u∈e.b7,u.cell<=9223372036854775807
def OE{m:Nat}{xs:List AV}(h:aJ Tryz.prog (m+6) 129 xs):∃e:k8,xs=qG e/\xg e:=by
 rw[aJ]at h;simp only[Tryz.underlying129,dN]at h;obtain⟨I,_,rfl,y,J,_,rfl,h1,U,_,rfl,h2,rfl⟩:=h;obtain⟨a,rfl,z⟩:=OA y;obtain⟨b,rfl,D,u⟩:=O0 h1;obtain⟨c,rfl,G,v⟩:=O9 h2;exact⟨⟨a,b,c⟩,rfl,z,D,u,G,v⟩
def Ox{m:Nat}{xs:List AV}(h:aJ Tryz.prog (m+7) 131 xs):∃a:eF,xs=o8 a/\(a.args.length<=17592186044416/\xg a.eff):=by
 rw[aJ]at h;simp only[Tryz.underlying131,dN]at h;obtain⟨z,_,rfl,u,D,_,rfl,h1,G,_,rfl,h2,rfl⟩:=h;obtain⟨a,rfl⟩:=bY u;obtain⟨b,rfl,v⟩:=oM h1;obtain⟨c,rfl,y⟩:=OE h2;exact⟨⟨a,b,c⟩,rfl,v,y⟩
def Oy{m:Nat}{xs:List AV}(h:aJ Tryz.prog (m+8) 27 xs):∃l:List eF,xs=[.arr (eg l)]/\l.length<=17592186044416/\∀a∈l,a.args.length<=17592186044416/\xg a.eff:=
 jQ (f:=o8) (fun h=>by rw[aJ]at h;simp only[Tryz.underlying27]at h;exact h) (fun _=>Ox) h
def OL{m:Nat}{xs:List AV}(h:aJ Tryz.prog (m+2) 208 xs):∃t:Hde,xs=yz t:=by
 rw[aJ]at h;simp only[Tryz.underlying208,dN]at h;obtain⟨v,_,rfl,u,y,_,rfl,h1,z,_,rfl,h2,rfl⟩:=h;obtain⟨a,rfl⟩:=bY u;obtain⟨b,rfl⟩:=bY h1;obtain⟨c,rfl⟩:=bY h2;exact⟨⟨a,b,c⟩,rfl⟩
def OM{m:Nat}{xs:List AV}(h:aJ Tryz.prog (m+3) 28 xs):∃l:List Hde,xs=[.arr (c7 l)]/\l.length<=17592186044416:=by
 obtain⟨l,h1,h2,_⟩:=jQ (f:=yz) (R:=fun _=>True) (fun h=>by rw[aJ]at h;simp only[Tryz.underlying28]at h;exact h) (fun _ u=>by obtain⟨s,hs⟩:=OL u;exact⟨s,hs,trivial⟩) h;exact⟨l,h1,h2⟩
def OR{m:Nat}{xs:List AV}(h:aJ Tryz.prog (m+9) 30 xs):∃d:Md,xs=gm d/\bx d:=by
 rw[aJ]at h;simp only[Tryz.underlying30,dN]at h;obtain⟨y0,_,rfl,G,y1,_,rfl,h1,y2,_,rfl,h2,y3,_,rfl,h3,y4,_,rfl,h4,y5,_,rfl,I,y6,_,rfl,J,rfl⟩:=h;obtain⟨a,rfl,U⟩:=oM G;obtain⟨b,rfl,V,y⟩:=O4 h1;obtain⟨c,rfl,Z⟩:=O2 h2;obtain⟨d,rfl,hd,z⟩:=OD h3;obtain⟨e,rfl,he,D⟩:=OU h4;obtain⟨f,rfl,hf,u⟩:=Oy I;obtain⟨g,rfl,hg⟩:=OM J;exact⟨⟨a,b,c,d,e,f,g⟩,rfl,U,V,y,Z,hd,z,he,D,hf,fun x v=>(u x v).1,fun x v=>(u x v).2.delta,fun x v=>(u x v).2.hold,fun x v=>(u x v).2.sV,fun x v=>(u x v).2.b7,hg,fun x v=>(u x v).2.cell⟩
def Bf{m:Nat}{x:AV}(h:Arg Tryz.prog (m+9) 30 x):∃d:Md,x=bN d/\bx d:=by
 obtain⟨xs,h1,h2⟩:=h;obtain⟨d,rfl,hd⟩:=OR h1;simp only[Tryz.underlying30]at h2;exact⟨d,h2,hd⟩
set_option maxHeartbeats 16000000
def BZ(n lo hi:Int):Cl aj 134 [.t (.int .i64 n),.t (.int .i64 lo),.t (.int .i64 hi)] [] (.t (.bool (decide (lo<=n)&&decide (n<=hi)))) []:=by
 refine Cl.ap rfl Tryz.func134 rfl rfl rfl ?_;exact ah
def uM(t:Tb):Cl aj 137 [.t (.agg (gC t))] [] (.t (.bool (bz t.kind))) []:=by
 have e:gC t=[.str t.name,.int .i64 t.kind,aD t.au,.int .i64 t.lo,.int .i64 t.hi,.int .i64 t.first]:=rfl;rw[e];refine Cl.ap rfl Tryz.func137 rfl rfl rfl ?_;unfold bz;exact ah
def IB(n:Int):Cl aj 171 [.t (.int .i64 n)] [] (.t (.bool (!(decide (1<=n)&&decide (n<=6))))) []:=by
 have k:=BZ n 1 6;refine Cl.ap rfl Tryz.func171 rfl rfl rfl ?_;generalize(decide (1<=n)&&decide (n<=6))=b at*
 cases b with
 |true=>
  exact ah
 |false=>
  exact ah
def IC{S:List Int}(y:S.length<=140737488351232):Cl aj 132 [.t (aD S)] [] (.t (.bool (ck S))) []:=by
 have k:=Ik (C:=S) (p:=fun n=>!(decide (1<=n)&&decide (n<=6))) y (fun n _=>IB n)
 have e:ck S=!(S.any fun n=>!(decide (1<=n)&&decide (n<=6))):=by
  unfold ck;rw[Bool.eq_iff_iff,List.all_eq_true,Bool.not_eq_true',<- Bool.not_eq_true,List.any_eq_true];constructor
  ·rintro h ⟨x,u,v⟩;rw[h x u]at v;cases v
  ·intro h x u;rw[<- Bool.not_eq_false];intro z;exact h ⟨x,u,by rw[z];rfl⟩
 rw[e];refine Cl.ap rfl Tryz.func132 rfl rfl rfl ?_;generalize(S.any fun n=>!(decide (1<=n)&&decide (n<=6)))=b at*
 cases b with
 |true=>
  exact ah
 |false=>
  exact ah
def HD(a b c:Bool):Cl aj 131 [.t (.arr [[.bool a],[.bool b],[.bool c]])] [] (.t (.bool (a&&(b&&c)))) []:=by
 cases a <;>cases b <;>cases c <;>exact⟨20,by kernel_rfl⟩
def BE(a b c d e:Bool):Cl aj 131 [.t (.arr [[.bool a],[.bool b],[.bool c],[.bool d],[.bool e]])] [] (.t (.bool (a&&(b&&(c&&(d&&e)))))) []:=by
 cases a <;>cases b <;>cases c <;>cases d <;>cases e <;>exact⟨20,by kernel_rfl⟩
def Gt{S C:List Int}(hc:C.all (cr S)=true)(q:Nat):(C.take q).all (cr S)=true:=List.all_eq_true.2 fun x u=>List.all_eq_true.1 hc x (List.mem_of_mem_take u)
def uN{S C:List Int}(U:S.length<=1000)(hs:ck S=true)(hc:C.all (cr S)=true)(hl:C.length<=3):Cl aj 138 [.t (aD S),.t (aD C)] [] (.t (.int .i64 (dx S C))) []:=by
 have I:=aW S;have G:=aW C;refine Cl.ap rfl Tryz.func138 rfl rfl rfl ?_;refine aq ?_;refine az.ind (fun q:Nat=>[(5,.t (.int .i64 (dx S (C.take q)))),(10,.t (.int .i64 (q:Int)))]) (fun q=>q<=C.length) (fun q=>C.length - q) 0 rfl (by omega) (fun q h1=>?_);rcases Nat.lt_or_ge q C.length with h3|h3
 ·
  obtain⟨c,u⟩:=am h3;have Z:=bg u;have y:=List.all_eq_true.1 hc c (List.mem_of_getElem? u);unfold cr at y;simp only[Bool.and_eq_true,decide_eq_true_eq]at y;obtain⟨k,rfl⟩:∃k:Nat,c=(k:Int):=⟨c.toNat,by omega⟩;obtain⟨x,D⟩:=am (xs:=S) (k:=k) (by omega);have J:=bg D;have V:=nC hs (Gt hc q) (by rw[List.length_take];omega);have z:=nC hs (Gt hc (q+1)) (by rw[List.length_take];omega);have v:=zA (S:=S) u;rw[show((k:Int)).toNat=k by omega,List.getD_eq_getElem?_getD,D,Option.getD_some]at v;rw[v]at z;generalize dx S (C.take q)=P at*
  refine aq ?_;exact⟨q+1,by rw[v];rfl,rfl,by omega,by omega⟩
 ·
  obtain rfl:q=C.length:=by omega
  rw[List.take_length];exact ah
def NI:aj.P.eqGuardType aj.P.depth 145=false:=by kernel_rfl
def NH(a b u v:Int):gI aj.P 20 145 [.int .i64 a,.int .i64 b] [.int .i64 u,.int .i64 v]=some (decide (a=u)&&(decide (b=v)&&true)):=by kernel_rfl
def Iy(t:Tb):Cl aj 136 [.t (.agg (gC t))] [] (.t (.bool (rF t))) []:=by
 have e:gC t=[.str t.name,.int .i64 t.kind,aD t.au,.int .i64 t.lo,.int .i64 t.hi,.int .i64 t.first]:=rfl;rw[e];refine Cl.ap rfl Tryz.func136 rfl rfl rfl ?_;unfold rF
 repeat'(first
|((with_reducible apply aa.aX)<;>intro u)
|((with_reducible apply aa.bi)<;>intro u)
|(refine aw ?_)
|((with_reducible apply aa.av);(case hW=>exact rfl);(case hx=>exact ae))
|((with_reducible apply aa.u0);(case hx=>first
|((with_reducible apply af.eqs);(case hx|hy=>exact rfl);(case hg=>exact NI);(case ht=>exact rfl);(case hr=>exact NH _ _ _ _))
|exact ae))
|fail)
 all_goals(refine ba (.inr rfl) rfl ?_;first|(simp_all;done)|(simp_all;omega))
def HQ{S:List Int}{c:Int}(v:S.length<=1000):Cl aj 173 [.t (.int .i64 c),.t (.tp [aD S])] [] (.t (.bool (!cr S c))) []:=by
 have u:=aW S;refine Cl.ap rfl Tryz.func173 rfl rfl rfl ?_;unfold cr;exact ah
def JX{C:List Int}{p:Int->Bool}{c:AV}(hl:C.length<=140737488351232)(hp:∀x∈C,Cl aj 173 [.t (.int .i64 x),.t c] [] (.t (.bool (p x))) []):Cl aj 90 [.t (aD C),.t (.fn (.func 173) 0 [c])] [] (.t (.int .i64 (bB p C 0))) []:=by
 have z:=aW C;refine Cl.ap rfl Tryz.func90 rfl rfl rfl ?_;refine aq ?_;refine az.ind (fun q:Nat=>[(8,.t (.int .i64 (q:Int)))]) (fun q=>q<=C.length/\bB p C 0=bB p (C.drop q) q) (fun q=>C.length - q) 0 rfl (by simp) (fun q D=>?_);obtain⟨h1,h2⟩:=D;rw[h2];rcases Nat.lt_or_ge q C.length with h3|h3
 ·
  obtain⟨e,u⟩:=am h3;have G:=bg u;have v:=hp e (List.mem_of_getElem? u);rw[drop_at u,ly];obtain⟨b,y⟩:∃b,p e=b:=⟨_,rfl⟩;rw[y]at v⊢
  cases b with
  |true=>
   exact ah
  |false=>
   exact ah
 ·
  rw[List.drop_of_length_le h3];exact ah
def Ij{C:List Int}{p:Int->Bool}{c:AV}(hl:C.length<=140737488351232)(hp:∀x∈C,Cl aj 173 [.t (.int .i64 x),.t c] [] (.t (.bool (p x))) []):Cl aj 42 [.t (aD C),.t (.fn (.func 173) 0 [c])] [] (.t (.bool (C.any p))) []:=by
 have u:=JX hl hp;rw[<- kF p C 0 (by omega)];refine Cl.ap rfl Tryz.func42 rfl rfl rfl ?_;obtain⟨n,v⟩:∃n,bB p C 0=n:=⟨_,rfl⟩;rw[v]at u⊢;exact ah
def qv{α:Type}(p:α->Bool)(l:List α):l.all p=!(l.any fun x=>!p x):=by
 rw[Bool.eq_iff_iff,List.all_eq_true,Bool.not_eq_true',<- Bool.not_eq_true,List.any_eq_true];constructor
 ·rintro h ⟨x,u,v⟩;rw[h x u]at v;cases v
 ·intro h x u;rw[<- Bool.not_eq_false];intro y;exact h ⟨x,u,by rw[y];rfl⟩
def HR{S C:List Int}(y:S.length<=1000)(u:C.length<=140737488351232):Cl aj 135 [.t (aD S),.t (aD C)] [] (.t (.bool (iz S C))) []:=by
 have z:=aW S;have v:=aW C;have k:=Ij (p:=fun c=>!cr S c) (c:=.tp [aD S]) u (fun x _=>HQ y);refine Cl.ap rfl Tryz.func135 rfl rfl rfl ?_;unfold iz;rw[qv (cr S) C];generalize(C.any fun c=>!cr S c)=b at*
 by_cases h3:C.length<=3
 ·
  rw[decide_eq_true h3]
  cases b with
  |true=>
   exact ah
  |false=>
   exact ah
 ·
  rw[decide_eq_false h3];exact ah
section
variable {g:Cfg} {d:Option (List Nat)} {env:Env} {fr:Fr} {i':Nat}
def af.pT{t e i:Nat}{z:TypeDesc}{m k y:Operand}{ka:AV}{ks u:List AV}{vs v:List SV}{x:SV}{fr':Fr}(hs:∀C:CallF,step g C d i' env fr (.mapUpdate t m k y)=bT g C (ep d i') env fr (.mapUpdate t m k y))(hm:nx g.P t=some (e,z))(ha:rd env m=.lm i)(hk:rd env k=.t ka)(hd:s8 z ka=true)(hy:rd env y=x)(hb:fr[i]?=some (.map false ks vs))(hf:dW z ka ks 0=some none)(hks:ks++[ka]=u)(hvs:vs++[x]=v)(hfr:aI (fr.set i (.map false u v)) fr'):af g d i' env fr (.mapUpdate t m k y) .dead fr' []:=.r fun C=>by
 rw[hs];obtain rfl:=hfr.eq;subst hks hvs hy;unfold bT q7;simp only[hm,ha,hk,hb,hd,hf]
def af.LR{t e i j:Nat}{v:TypeDesc}{m k y:Operand}{ka:AV}{ks:List AV}{vs u:List SV}{x:SV}{fr':Fr}(hs:∀C:CallF,step g C d i' env fr (.mapUpdate t m k y)=bT g C (ep d i') env fr (.mapUpdate t m k y))(hm:nx g.P t=some (e,v))(ha:rd env m=.lm i)(hk:rd env k=.t ka)(hd:s8 v ka=true)(hy:rd env y=x)(hb:fr[i]?=some (.map false ks vs))(hf:dW v ka ks 0=some (some j))(hvs:vs.set j x=u)(hfr:aI (fr.set i (.map false ks u)) fr'):af g d i' env fr (.mapUpdate t m k y) .dead fr' []:=.r fun C=>by
 rw[hs];obtain rfl:=hfr.eq;subst hvs hy;unfold bT q7;simp only[hm,ha,hk,hb,hd,hf]
def af.uL{t u:Nat}{a y:Operand}{args:Array Operand}{tys:Array TypeId}{x z s:SV}{fr1 fr':Fr}(hs:∀C:CallF,step g C d i' env fr (.call ⟨.builtin .copy,args,tys⟩)=bT g C (ep d i') env fr (.call ⟨.builtin .copy,args,tys⟩))(ha:args.toList=[a,y])(ht:tys.toList=[t,u])(hx:rd env a=x)(hy:rd env y=z)(hm:jr g.P fr t x z=some (s,fr1,[]))(hf:aI fr1 fr'):af g d i' env fr (.call ⟨.builtin .copy,args,tys⟩) s fr' []:=.r fun C=>by
 rw[hs];obtain rfl:=hf.eq;subst hx hy;unfold bT;simp only[ha,ht,hm]
end
def kZ(N:List ByteArray):List AV:=N.map .str
def cP(N:List Int):List AV:=N.map (.int .i64)
def dV(n:Nat):List SV:=List.replicate n (.t (.bool true))
def Bn(s u:ByteArray):(s==u)=decide (s=u):=by
 cases s with|mk a=>cases u with|mk b=>
 have h:((ByteArray.mk a)==(ByteArray.mk b))=(a==b):=rfl;rw[h,Bool.eq_iff_iff];simp
theorem ym{s:ByteArray}:∀(N:List ByteArray) (i:Nat),dW .string (.str s) (kZ N) i=(if N.any (fun u=>decide (u=s))=true then some (some (i+N.findIdx fun u=>decide (u=s)))else some none)
 |[],i=>rfl
 |u::N,i=>by
  show dW .string (.str s) (.str u::kZ N) i=_
  unfold dW;have e:jx .string [.str s] [.str u]=some (s==u):=rfl;rw[e,ym N (i+1),List.any_cons,List.findIdx_cons];by_cases h:u=s
  ·subst h;have h2:(u==u)=true:=by rw[Bn];simp
   rw[h2];simp
  ·have h2:(s==u)=false:=by
    rw[Bn];exact decide_eq_false fun v=>h v.symm
   rw[h2,decide_eq_false h];simp only[Bool.false_or,cond_false];split
   ·simp;omega
   ·rfl
theorem u4{s:Int}:∀(N:List Int) (i:Nat),dW (.int .i64) (.int .i64 s) (cP N) i=(if N.any (fun u=>decide (u=s))=true then some (some (i+N.findIdx fun u=>decide (u=s)))else some none)
 |[],i=>rfl
 |u::N,i=>by
  show dW (.int .i64) (.int .i64 s) (.int .i64 u::cP N) i=_
  unfold dW;have e:jx (.int .i64) [.int .i64 s] [.int .i64 u]=some (decide (s=u)):=rfl;rw[e,u4 N (i+1),List.any_cons,List.findIdx_cons];by_cases h:u=s
  ·subst h;rw[decide_eq_true rfl];simp
  ·have h2:decide (s=u)=false:=decide_eq_false fun v=>h v.symm;rw[h2,decide_eq_false h];simp only[Bool.false_or,cond_false];split
   ·simp;omega
   ·rfl
def yw{s:ByteArray}{N:List ByteArray}(h:(N.any fun u=>decide (u=s))=false):dW .string (.str s) (kZ N) 0=some none:=by rw[ym,h];rfl
def yx{s:ByteArray}{N:List ByteArray}(h:(N.any fun u=>decide (u=s))=true):∃j,dW .string (.str s) (kZ N) 0=some (some j)/\j <N.length:=by
 refine⟨N.findIdx fun u=>decide (u=s),by rw[ym,if_pos h,Nat.zero_add],?_⟩;rw[List.any_eq_true]at h;obtain⟨x,y,v⟩:=h;exact List.findIdx_lt_length_of_exists ⟨x,y,v⟩
def u6{s:Int}{N:List Int}(h:(N.any fun u=>decide (u=s))=false):dW (.int .i64) (.int .i64 s) (cP N) 0=some none:=by rw[u4,h];rfl
def CG{s:Int}{N:List Int}(h:(N.any fun u=>decide (u=s))=true):∃j,dW (.int .i64) (.int .i64 s) (cP N) 0=some (some j)/\j <N.length:=by
 refine⟨N.findIdx fun u=>decide (u=s),by rw[u4,if_pos h,Nat.zero_add],?_⟩;rw[List.any_eq_true]at h;obtain⟨x,y,v⟩:=h;exact List.findIdx_lt_length_of_exists ⟨x,y,v⟩
def tX{n j:Nat}(h:j <n):(dV n)[j]?=some (.t (.bool true)):=by unfold dV;rw[List.getElem?_replicate,if_pos h]
def P_{n j:Nat}:(dV n).set j (.t (.bool true))=dV n:=by
 unfold dV;apply List.ext_getElem?;intro k;rw[List.getElem?_set];simp only[List.length_replicate,List.getElem?_replicate];split
 ·subst_vars
  split <;>simp_all
 ·rfl
def w_(n:Nat):dV n++[.t (.bool true)]=dV (n+1):=by unfold dV;rw[List.replicate_succ']
def AK(n:Nat):dV n=(List.replicate n (.bool true)).map SV.t:=by unfold dV;rw[List.map_replicate]
def CN{σ:Nat->Option Nat}{ks:List AV}{n:Nat}{bs u:Fr}(h:bs=u):(Lb.map false ks (SV.cC σ (dV n))::bs)=Lb.map false ks (dV n)::u:=by rw[AK,rT,h]
def Kd{N:List Int}{s:Int}:cP N++[.int .i64 s]=cP (N++[s]):=by simp[cP]
set_option maxRecDepth 100000
def Oh(s:sb):List AV:=[.int .i64 s.e,.int .i64 s.f,.bool s.hold,.int .i64 s.idx,aD s.st]
def qK(x:bM):List AV:=[.int .i64 x.bu,.int .i64 x.s.e,.int .i64 x.s.f,.bool x.s.hold,.int .i64 x.s.idx,aD x.s.st]
def gJ(l:List bM):List (List AV):=l.map qK
def g_(x:Mem):List AV:=[.int .i64 x.act,.int .i64 x.s.e,.int .i64 x.s.f,.bool x.s.hold,.int .i64 x.s.idx,aD x.s.st]
def cM(l:List Mem):List (List AV):=l.map g_
def jG(x:Lck):List AV:=[.int .i64 x.a,.int .i64 x.b,.int .i64 x.pa,.int .i64 x.pb,.arr (cM x.mem)]
def fM(l:List Lck):List (List AV):=l.map jG
def tF(p:Pln):List AV:=[.arr (gJ p.aM),.arr (fM p.aA),.arr (cM p.places),aD p.bj]
def a_(p:Pln):AV:=.agg (tF p)
def LV(x:cz):List AV:=[.int .i64 x.k,.int .i64 x.i,.int .i64 x.el,.int .i64 x.n]
def cH(l:List cz):List (List AV):=l.map LV
def sF(l:List bM):(gJ l).length=l.length:=List.length_map _
def lG(l:List Mem):(cM l).length=l.length:=List.length_map _
def kP(l:List Lck):(fM l).length=l.length:=List.length_map _
def DW(l:List cz):(cH l).length=l.length:=List.length_map _
def sE{l:List bM}{k:Nat}{x:bM}(h:l[k]?=some x):(gJ l)[k]?=some [.int .i64 x.bu,.int .i64 x.s.e,.int .i64 x.s.f,.bool x.s.hold,.int .i64 x.s.idx,aD x.s.st]:=iE h
def i_{l:List Mem}{k:Nat}{x:Mem}(h:l[k]?=some x):(cM l)[k]?=some [.int .i64 x.act,.int .i64 x.s.e,.int .i64 x.s.f,.bool x.s.hold,.int .i64 x.s.idx,aD x.s.st]:=iE h
def nw{l:List Lck}{k:Nat}{x:Lck}(h:l[k]?=some x):(fM l)[k]?=some [.int .i64 x.a,.int .i64 x.b,.int .i64 x.pa,.int .i64 x.pb,.arr (cM x.mem)]:=iE h
def ze{l:List cz}{k:Nat}{x:cz}(h:l[k]?=some x):(cH l)[k]?=some [.int .i64 x.k,.int .i64 x.i,.int .i64 x.el,.int .i64 x.n]:=iE h
structure nO (p:Pln):Prop where
 aM:p.aM.length<=17592186044416
 aA:p.aA.length<=17592186044416
 mem:∀L∈p.aA,L.mem.length<=17592186044416
 places:p.places.length<=17592186044416
 bj:p.bj.length<=17592186044416
def O5{m:Nat}{xs:List AV}(h:aJ Tryz.prog (m+2) 100 xs):∃(b:Bool) (i:Int),xs=[.bool b,.int .i64 i]:=by
 rw[aJ]at h;simp only[Tryz.underlying100,dN]at h;obtain⟨v,_,rfl,u,y,_,rfl,h1,rfl⟩:=h;obtain⟨b,rfl⟩:=FK u;obtain⟨i,rfl⟩:=bY h1;exact⟨b,i,rfl⟩
def OX{m:Nat}{xs:List AV}(h:aJ Tryz.prog (m+3) 102 xs):∃(e f:Int) (b:Bool) (i:Int),xs=[.int .i64 e,.int .i64 f,.bool b,.int .i64 i]:=by
 rw[aJ]at h;simp only[Tryz.underlying102,dN]at h;obtain⟨v,_,rfl,u,y,_,rfl,h1,z,_,rfl,h2,rfl⟩:=h;obtain⟨e,rfl⟩:=bY u;obtain⟨f,rfl⟩:=bY h1;obtain⟨b,i,rfl⟩:=O5 h2;exact⟨e,f,b,i,rfl⟩
def FO{m:Nat}{xs:List AV}(h:aJ Tryz.prog (m+4) 104 xs):∃s:sb,xs=Oh s:=by
 rw[aJ]at h;simp only[Tryz.underlying104,dN]at h;obtain⟨y,_,rfl,u,z,_,rfl,h1,rfl⟩:=h;obtain⟨e,f,b,i,rfl⟩:=OX u;obtain⟨l,rfl,v⟩:=oM h1;exact⟨⟨e,f,b,i,l⟩,rfl⟩
def OG{m:Nat}{xs:List AV}(h:aJ Tryz.prog (m+5) 106 xs):∃x:bM,xs=qK x:=by
 rw[aJ]at h;simp only[Tryz.underlying106,dN]at h;obtain⟨v,_,rfl,u,y,_,rfl,h1,rfl⟩:=h;obtain⟨c,rfl⟩:=bY u;obtain⟨s,rfl⟩:=FO h1;exact⟨⟨c,s⟩,rfl⟩
def OQ{m:Nat}{xs:List AV}(h:aJ Tryz.prog (m+5) 124 xs):∃x:Mem,xs=g_ x:=by
 rw[aJ]at h;simp only[Tryz.underlying124,dN]at h;obtain⟨v,_,rfl,u,y,_,rfl,h1,rfl⟩:=h;obtain⟨c,rfl⟩:=bY u;obtain⟨s,rfl⟩:=FO h1;exact⟨⟨c,s⟩,rfl⟩
def OH{m:Nat}{xs:List AV}(h:aJ Tryz.prog (m+6) 31 xs):∃l:List bM,xs=[.arr (gJ l)]/\l.length<=17592186044416:=by
 obtain⟨l,h1,h2,_⟩:=jQ (f:=qK) (R:=fun _=>True) (fun h=>by rw[aJ]at h;simp only[Tryz.underlying31]at h;exact h) (fun _ u=>by obtain⟨s,hs⟩:=OG u;exact⟨s,hs,trivial⟩) h;exact⟨l,h1,h2⟩
def FM{m:Nat}{xs:List AV}(h:aJ Tryz.prog (m+6) 33 xs):∃l:List Mem,xs=[.arr (cM l)]/\l.length<=17592186044416:=by
 obtain⟨l,h1,h2,_⟩:=jQ (f:=g_) (R:=fun _=>True) (fun h=>by rw[aJ]at h;simp only[Tryz.underlying33]at h;exact h) (fun _ u=>by obtain⟨s,hs⟩:=OQ u;exact⟨s,hs,trivial⟩) h;exact⟨l,h1,h2⟩
def OO{m:Nat}{xs:List AV}(h:aJ Tryz.prog (m+7) 80 xs):∃x:Lck,xs=jG x/\x.mem.length<=17592186044416:=by
 rw[aJ]at h;simp only[Tryz.underlying80,dN]at h;obtain⟨y,_,rfl,u,z,_,rfl,h1,D,_,rfl,h2,G,_,rfl,h3,I,_,rfl,h4,rfl⟩:=h;obtain⟨a,rfl⟩:=bY u;obtain⟨b,rfl⟩:=bY h1;obtain⟨c,rfl⟩:=bY h2;obtain⟨d,rfl⟩:=bY h3;obtain⟨l,rfl,v⟩:=FM h4;exact⟨⟨a,b,c,d,l⟩,rfl,v⟩
def OP{m:Nat}{xs:List AV}(h:aJ Tryz.prog (m+8) 32 xs):∃l:List Lck,xs=[.arr (fM l)]/\l.length<=17592186044416/\∀L∈l,L.mem.length<=17592186044416:=
 jQ (f:=jG) (fun h=>by rw[aJ]at h;simp only[Tryz.underlying32]at h;exact h) (fun _=>OO) h
def OW{m:Nat}{xs:List AV}(h:aJ Tryz.prog (m+9) 35 xs):∃p:Pln,xs=tF p/\nO p:=by
 rw[aJ]at h;simp only[Tryz.underlying35,dN]at h;obtain⟨G,_,rfl,v,I,_,rfl,h1,J,_,rfl,h2,U,_,rfl,h3,rfl⟩:=h;obtain⟨a,rfl,y⟩:=OH v;obtain⟨b,rfl,z,u⟩:=OP h1;obtain⟨c,rfl,D⟩:=FM h2;obtain⟨d,rfl,hd⟩:=oM h3;exact⟨⟨a,b,c,d⟩,rfl,y,z,u,D,hd⟩
set_option maxHeartbeats 16000000
def yZ(i n:Int):Cl aj 140 [.t (.int .i64 i),.t (.int .i64 n)] [] (.t (.bool (decide (0<=i)&&decide (i <n)))) []:=by
 refine Cl.ap rfl Tryz.func140 rfl rfl rfl ?_;exact ah
def vG(n:Int){m:Int}(hm:m=1000\/(m=1000000000\/m=9999)):Cl aj 145 [.t (.int .i64 n),.t (.int .i64 m)] [] (.t (.bool (cA n m))) []:=by
 unfold cA;rcases hm with rfl|rfl|rfl
 ·
  have u:IntKind.i64.wrap (-1000)= -1000:=by decide
  refine Cl.ap rfl Tryz.func145 rfl rfl rfl ?_;exact ah
 ·
  have u:IntKind.i64.wrap (-1000000000)= -1000000000:=by decide
  refine Cl.ap rfl Tryz.func145 rfl rfl rfl ?_;exact ah
 ·
  have u:IntKind.i64.wrap (-9999)= -9999:=by decide
  refine Cl.ap rfl Tryz.func145 rfl rfl rfl ?_;exact ah
def IF{a:eF}{c:Int}(hl:a.eff.delta.length<=140737488351232):Cl aj 196 [.t (.agg (o8 a)),.t (.int .i64 c)] [] (.t (.int .i64 (eh a.eff.delta c))) []:=by
 have y:=uG a.eff.delta;have e:o8 a=[.int .i64 a.op,aD a.args,.arr (iV a.eff.delta),.arr (iK a.eff.hold),.arr (iO a.eff.b7)]:=rfl;rw[e];refine Cl.ap rfl Tryz.func196 rfl rfl rfl ?_;refine aq ?_;refine az.ind (fun q:Nat=>[(11,.t (.int .i64 (q:Int)))]) (fun q=>q<=a.eff.delta.length/\eh a.eff.delta c=eh (a.eff.delta.drop q) c) (fun q=>a.eff.delta.length - q) 0 rfl ⟨by omega,rfl⟩ (fun q z=>?_);obtain⟨h1,h2⟩:=z;rw[h2];rcases Nat.lt_or_ge q a.eff.delta.length with h3|h3
 ·
  obtain⟨x,v⟩:=am h3;have D:=su v;rw[bG v,A5];by_cases u:x.cell=c
  ·
   rw[if_pos u];exact ah
  ·
   rw[if_neg u];exact ah
 ·
  rw[List.drop_of_length_le h3];exact ah
end Go.Proofs.YtcgdbhlnkificaaGreatDoor
