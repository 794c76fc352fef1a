/- Models as trees. No condition. -/
import Derived.Test.YtgbfedgghjcdcaaGreatDoorWQ
import Derived.Test.YtgbfedgghjcdcaaGreatDoorTE
import Derived.Test.YtgbfedgghjcdcaaGreatDoorTS
set_option linter.all false
namespace Go.Proofs.YtgbfedgghjcdcaaGreatDoor
open Go.RowKit
set_option maxRecDepth 100000
def i_(t:Tb):List AV:=[.str t.name,.int .i64 t.kind,aF t.aB,.int .i64 t.lo,.int .i64 t.hi,.int .i64 t.first]
def cR(l:List Tb):List (List AV):=l.map i_
def d_(l:List ByteArray):List (List AV):=l.map fun s=>[.str s]
def vT(t:Tm):List AV:=[.int .i64 t.cell,.int .i64 t.gH]
def f_(l:List Tm):List (List AV):=l.map vT
def kH(r:Rw):List AV:=[.arr (f_ r.dm),.int .i64 r.mS]
def kI(l:List Rw):List (List AV):=l.map kH
def oQ(c:Cn):List AV:=[.int .i64 c.kind,.int .i64 c.na,.arr (f_ c.row.dm),.int .i64 c.row.mS,.int .i64 c.first,.int .i64 c.size]
def jp(l:List Cn):List (List AV):=l.map oQ
def uU(o:gm):List AV:=[.str o.name,.bool o.ord,aF o.aq]
def jJ(l:List gm):List (List AV):=l.map uU
def tj(c:fN):List AV:=[.int .i64 c.cell,.int .i64 c.add]
def jo(l:List fN):List (List AV):=l.map tj
def sE(u:bn):List AV:=[.int .i64 u.kind,.int .i64 u.cell,.int .i64 u.value]
def bL(l:List bn):List (List AV):=l.map sE
def tO(e:lD):List AV:=[.arr (jo e.delta),.arr (kI e.hold),.arr (bL e.aQ)]
def sW(a:dT):List AV:=[.int .i64 a.op,aF a.args,.arr (jo a.eff.delta),.arr (kI a.eff.hold),.arr (bL a.eff.aQ)]
def iL(l:List dT):List (List AV):=l.map sW
def uv(h:bH):List AV:=[.int .i64 h.table,.int .i64 h.ig,.int .i64 h.to]
def jz(l:List bH):List (List AV):=l.map uv
def fI(l:List (Int×Int)):List (List AV):=l.map fun r=>[.int .i64 r.1,.int .i64 r.2]
def cg(m:Md):List AV:=[aF m.aq,.arr (cR m.tables),.arr (d_ m.dq),.arr (jp m.cons),.arr (jJ m.ops),.arr (iL m.aJ),.arr (jz m.bq)]
def di(m:Md):AV:=.agg (cg m)
def fR{α:Type}{f:α->List AV}{l:List α}{k:Nat}{x:α}(h:l[k]?=some x):(l.map f)[k]?=some (f x):=by rw[List.getElem?_map,h];rfl
def gV(l:List Tb):(cR l).length=l.length:=List.length_map _
def ru(l:List ByteArray):(d_ l).length=l.length:=List.length_map _
def sC(l:List Tm):(f_ l).length=l.length:=List.length_map _
def z6(l:List Rw):(kI l).length=l.length:=List.length_map _
def wV(l:List Cn):(jp l).length=l.length:=List.length_map _
def yS(l:List gm):(jJ l).length=l.length:=List.length_map _
def wL(l:List fN):(jo l).length=l.length:=List.length_map _
def mu(l:List bn):(bL l).length=l.length:=List.length_map _
def mH(l:List dT):(iL l).length=l.length:=List.length_map _
def xB(l:List bH):(jz l).length=l.length:=List.length_map _
def vi(l:List (Int×Int)):(fI l).length=l.length:=List.length_map _
def fZ{l:List Tb}{k:Nat}{t:Tb}(h:l[k]?=some t):(cR l)[k]?=some [.str t.name,.int .i64 t.kind,aF t.aB,.int .i64 t.lo,.int .i64 t.hi,.int .i64 t.first]:=fR h
def FC{l:List ByteArray}{k:Nat}{s:ByteArray}(h:l[k]?=some s):(d_ l)[k]?=some [.str s]:=fR (f:=fun s=>[.str s]) h
def sB{l:List Tm}{k:Nat}{t:Tm}(h:l[k]?=some t):(f_ l)[k]?=some [.int .i64 t.cell,.int .i64 t.gH]:=fR h
def G_{l:List Rw}{k:Nat}{r:Rw}(h:l[k]?=some r):(kI l)[k]?=some [.arr (f_ r.dm),.int .i64 r.mS]:=fR h
def tw{l:List Cn}{k:Nat}{c:Cn}(h:l[k]?=some c):(jp l)[k]?=some [.int .i64 c.kind,.int .i64 c.na,.arr (f_ c.row.dm),.int .i64 c.row.mS,.int .i64 c.first,.int .i64 c.size]:=fR h
def yR{l:List gm}{k:Nat}{o:gm}(h:l[k]?=some o):(jJ l)[k]?=some [.str o.name,.bool o.ord,aF o.aq]:=fR h
def tk{l:List fN}{k:Nat}{c:fN}(h:l[k]?=some c):(jo l)[k]?=some [.int .i64 c.cell,.int .i64 c.add]:=fR h
def jS{l:List bn}{k:Nat}{u:bn}(h:l[k]?=some u):(bL l)[k]?=some [.int .i64 u.kind,.int .i64 u.cell,.int .i64 u.value]:=fR h
def mG{l:List dT}{k:Nat}{a:dT}(h:l[k]?=some a):(iL l)[k]?=some [.int .i64 a.op,aF a.args,.arr (jo a.eff.delta),.arr (kI a.eff.hold),.arr (bL a.eff.aQ)]:=fR h
def uw{l:List bH}{k:Nat}{h:bH}(e:l[k]?=some h):(jz l)[k]?=some [.int .i64 h.table,.int .i64 h.ig,.int .i64 h.to]:=fR e
def GB{l:List (Int×Int)}{k:Nat}{r:Int×Int}(e:l[k]?=some r):(fI l)[k]?=some [.int .i64 r.1,.int .i64 r.2]:=fR (f:=fun r:Int×Int=>[.int .i64 r.1,.int .i64 r.2]) e
structure cW (m:Md):Prop where
 aq:m.aq.length<=17592186044416
 tables:m.tables.length<=17592186044416
 aB:∀t∈m.tables,t.aB.length<=17592186044416
 dq:m.dq.length<=17592186044416
 cons:m.cons.length<=17592186044416
 dm:∀c∈m.cons,c.row.dm.length<=17592186044416
 ops:m.ops.length<=17592186044416
 FW:∀o∈m.ops,o.aq.length<=17592186044416
 aJ:m.aJ.length<=17592186044416
 args:∀a∈m.aJ,a.args.length<=17592186044416
 delta:∀a∈m.aJ,a.eff.delta.length<=17592186044416
 hold:∀a∈m.aJ,a.eff.hold.length<=17592186044416
 qN:∀a∈m.aJ,∀r∈a.eff.hold,r.dm.length<=17592186044416
 aQ:∀a∈m.aJ,a.eff.aQ.length<=17592186044416
 bq:m.bq.length<=17592186044416
 Iz:∀a∈m.aJ,∀u∈a.eff.aQ,u.cell<=9223372036854775807
def jN{m:Nat}{xs:List AV}{T E:TypeId}{α:Type}{f:α->List AV}{R:α->Prop}(v:aP Tryz.prog (m+1) T xs->∃es:List (List AV),xs=[.arr es]/\es.length<=17592186044416/\∀c∈es,aP Tryz.prog m E c)(u:∀c,aP Tryz.prog m E c->∃a,c=f a/\R a)(h:aP Tryz.prog (m+1) T xs):∃l:List α,xs=[.arr (l.map f)]/\l.length<=17592186044416/\∀a∈l,R a:=by
 obtain⟨es,rfl,G,D⟩:=v h;obtain⟨l,rfl,y⟩:=q_ (f:=f) (R:=R) fun c z=>u c (D c z);exact⟨l,rfl,by simpa using G,y⟩
def vF{m:Nat}{xs:List AV}(h:aP Tryz.prog (m+1) 9 xs):∃s,xs=[.str s]:=by
 simp only[aP,Tryz.underlying9]at h;obtain⟨s,h,_⟩:=h;exact⟨s,h⟩
def Hw{m:Nat}{xs:List AV}(h:aP Tryz.prog (m+1) 3 xs):∃k:Int,xs=[.int .i64 k]/\k<=9223372036854775807:=by
 simp only[aP,Tryz.underlying3]at h;obtain⟨k,h,u⟩:=h;simp only[Lit.wf,Bool.and_eq_true,decide_eq_true_eq]at u;exact⟨k,h,Int.le_trans u.2 (by decide)⟩
def HB{m:Nat}{xs:List AV}(h:aP Tryz.prog (m+2) 67 xs):∃a b:Int,xs=[.int .i64 a,.int .i64 b]:=by
 rw[aP]at h;simp only[Tryz.underlying67,eh]at h;obtain⟨v,_,rfl,u,y,_,rfl,h1,rfl⟩:=h;obtain⟨a,rfl⟩:=bY u;obtain⟨b,rfl⟩:=bY h1;exact⟨a,b,rfl⟩
def HF{m:Nat}{xs:List AV}(h:aP Tryz.prog (m+3) 69 xs):∃t:Tb,xs=i_ t/\t.aB.length<=17592186044416:=by
 rw[aP]at h;simp only[Tryz.underlying69,eh]at h;obtain⟨y,_,rfl,u,z,_,rfl,h1,D,_,rfl,h2,G,_,rfl,h3,I,_,rfl,h4,rfl⟩:=h;obtain⟨s,rfl⟩:=vF u;obtain⟨k,rfl⟩:=bY h1;obtain⟨c,rfl,v⟩:=pL h2;obtain⟨a,b,rfl⟩:=HB h3;obtain⟨f,rfl⟩:=bY h4;exact⟨⟨s,k,c,a,b,f⟩,rfl,v⟩
def HG{m:Nat}{xs:List AV}(h:aP Tryz.prog (m+4) 23 xs):∃l:List Tb,xs=[.arr (cR l)]/\l.length<=17592186044416/\∀t∈l,t.aB.length<=17592186044416:=
 jN (f:=i_) (fun h=>by rw[aP]at h;simp only[Tryz.underlying23]at h;exact h) (fun _=>HF) h
def HE{m:Nat}{xs:List AV}(h:aP Tryz.prog (m+2) 24 xs):∃l:List ByteArray,xs=[.arr (d_ l)]/\l.length<=17592186044416:=by
 obtain⟨l,h1,h2,_⟩:=jN (f:=fun s=>[.str s]) (R:=fun _:ByteArray=>True) (fun h=>by rw[aP]at h;simp only[Tryz.underlying24]at h;exact h) (fun _ u=>by obtain⟨s,hs⟩:=vF u;exact⟨s,hs,trivial⟩) h;exact⟨l,h1,h2⟩
def HH{m:Nat}{xs:List AV}(h:aP Tryz.prog (m+2) 178 xs):∃t:Tm,xs=vT t:=by
 rw[aP]at h;simp only[Tryz.underlying178,eh]at h;obtain⟨v,_,rfl,u,y,_,rfl,h1,rfl⟩:=h;obtain⟨a,rfl⟩:=bY u;obtain⟨b,rfl⟩:=bY h1;exact⟨⟨a,b⟩,rfl⟩
def HI{m:Nat}{xs:List AV}(h:aP Tryz.prog (m+3) 179 xs):∃l:List Tm,xs=[.arr (f_ l)]/\l.length<=17592186044416:=by
 obtain⟨l,h1,h2,_⟩:=jN (f:=vT) (R:=fun _=>True) (fun h=>by rw[aP]at h;simp only[Tryz.underlying179]at h;exact h) (fun _ u=>by obtain⟨s,hs⟩:=HH u;exact⟨s,hs,trivial⟩) h;exact⟨l,h1,h2⟩
def Af{m:Nat}{xs:List AV}(h:aP Tryz.prog (m+4) 181 xs):∃r:Rw,xs=kH r/\r.dm.length<=17592186044416:=by
 rw[aP]at h;simp only[Tryz.underlying181,eh]at h;obtain⟨y,_,rfl,u,z,_,rfl,h1,rfl⟩:=h;obtain⟨l,rfl,v⟩:=HI u;obtain⟨b,rfl⟩:=bY h1;exact⟨⟨l,b⟩,rfl,v⟩
def Hp{m:Nat}{xs:List AV}(h:aP Tryz.prog (m+5) 184 xs):∃c:Cn,xs=oQ c/\c.row.dm.length<=17592186044416:=by
 rw[aP]at h;simp only[Tryz.underlying184,eh]at h;obtain⟨y,_,rfl,u,z,_,rfl,h1,D,_,rfl,h2,G,_,rfl,h3,I,_,rfl,h4,rfl⟩:=h;obtain⟨k,rfl⟩:=bY u;obtain⟨f,rfl⟩:=bY h1;obtain⟨r,rfl,v⟩:=Af h2;obtain⟨a,rfl⟩:=bY h3;obtain⟨b,rfl⟩:=bY h4;exact⟨⟨k,f,r,a,b⟩,rfl,v⟩
def Hq{m:Nat}{xs:List AV}(h:aP Tryz.prog (m+6) 25 xs):∃l:List Cn,xs=[.arr (jp l)]/\l.length<=17592186044416/\∀c∈l,c.row.dm.length<=17592186044416:=
 jN (f:=oQ) (fun h=>by rw[aP]at h;simp only[Tryz.underlying25]at h;exact h) (fun _=>Hp) h
def Hz{m:Nat}{xs:List AV}(h:aP Tryz.prog (m+3) 135 xs):∃o:gm,xs=uU o/\o.aq.length<=17592186044416:=by
 rw[aP]at h;simp only[Tryz.underlying135,eh]at h;obtain⟨y,_,rfl,u,z,_,rfl,h1,D,_,rfl,h2,rfl⟩:=h;obtain⟨s,rfl⟩:=vF u;obtain⟨b,rfl⟩:=Hm h1;obtain⟨l,rfl,v⟩:=pL h2;exact⟨⟨s,b,l⟩,rfl,v⟩
def HA{m:Nat}{xs:List AV}(h:aP Tryz.prog (m+4) 26 xs):∃l:List gm,xs=[.arr (jJ l)]/\l.length<=17592186044416/\∀o∈l,o.aq.length<=17592186044416:=
 jN (f:=uU) (fun h=>by rw[aP]at h;simp only[Tryz.underlying26]at h;exact h) (fun _=>Hz) h
def Hn{m:Nat}{xs:List AV}(h:aP Tryz.prog (m+2) 92 xs):∃t:fN,xs=tj t:=by
 rw[aP]at h;simp only[Tryz.underlying92,eh]at h;obtain⟨v,_,rfl,u,y,_,rfl,h1,rfl⟩:=h;obtain⟨a,rfl⟩:=bY u;obtain⟨b,rfl⟩:=bY h1;exact⟨⟨a,b⟩,rfl⟩
def Ho{m:Nat}{xs:List AV}(h:aP Tryz.prog (m+3) 57 xs):∃l:List fN,xs=[.arr (jo l)]/\l.length<=17592186044416:=by
 obtain⟨l,h1,h2,_⟩:=jN (f:=tj) (R:=fun _=>True) (fun h=>by rw[aP]at h;simp only[Tryz.underlying57]at h;exact h) (fun _ u=>by obtain⟨s,hs⟩:=Hn u;exact⟨s,hs,trivial⟩) h;exact⟨l,h1,h2⟩
def HJ{m:Nat}{xs:List AV}(h:aP Tryz.prog (m+2) 65 xs):∃t:bn,xs=sE t/\t.cell<=9223372036854775807:=by
 rw[aP]at h;simp only[Tryz.underlying65,eh]at h;obtain⟨y,_,rfl,u,z,_,rfl,h1,D,_,rfl,h2,rfl⟩:=h;obtain⟨a,rfl⟩:=bY u;obtain⟨b,rfl,v⟩:=Hw h1;obtain⟨c,rfl⟩:=bY h2;exact⟨⟨a,b,c⟩,rfl,v⟩
def HK{m:Nat}{xs:List AV}(h:aP Tryz.prog (m+3) 59 xs):∃l:List bn,xs=[.arr (bL l)]/\l.length<=17592186044416/\∀u∈l,u.cell<=9223372036854775807:=
 jN (f:=sE) (fun h=>by rw[aP]at h;simp only[Tryz.underlying59]at h;exact h) (fun _=>HJ) h
def HD{m:Nat}{xs:List AV}(h:aP Tryz.prog (m+5) 58 xs):∃l:List Rw,xs=[.arr (kI l)]/\l.length<=17592186044416/\∀r∈l,r.dm.length<=17592186044416:=
 jN (f:=kH) (fun h=>by rw[aP]at h;simp only[Tryz.underlying58]at h;exact h) (fun _=>Af) h
structure sR (e:lD):Prop where
 delta:e.delta.length<=17592186044416
 hold:e.hold.length<=17592186044416
 qN:∀r∈e.hold,r.dm.length<=17592186044416
 aQ:e.aQ.length<=17592186044416
 cell:∀u∈e.aQ,u.cell<=9223372036854775807
def Hr{m:Nat}{xs:List AV}(h:aP Tryz.prog (m+6) 61 xs):∃e:lD,xs=tO e/\sR e:=by
 rw[aP]at h;simp only[Tryz.underlying61,eh]at h;obtain⟨I,_,rfl,y,J,_,rfl,h1,O,_,rfl,h2,rfl⟩:=h;obtain⟨a,rfl,z⟩:=Ho y;obtain⟨b,rfl,D,u⟩:=HD h1;obtain⟨c,rfl,G,v⟩:=HK h2;exact⟨⟨a,b,c⟩,rfl,z,D,u,G,v⟩
def Hk{m:Nat}{xs:List AV}(h:aP Tryz.prog (m+7) 63 xs):∃a:dT,xs=sW a/\(a.args.length<=17592186044416/\sR a.eff):=by
 rw[aP]at h;simp only[Tryz.underlying63,eh]at h;obtain⟨z,_,rfl,u,D,_,rfl,h1,G,_,rfl,h2,rfl⟩:=h;obtain⟨a,rfl⟩:=bY u;obtain⟨b,rfl,v⟩:=pL h1;obtain⟨c,rfl,y⟩:=Hr h2;exact⟨⟨a,b,c⟩,rfl,v,y⟩
def Hl{m:Nat}{xs:List AV}(h:aP Tryz.prog (m+8) 27 xs):∃l:List dT,xs=[.arr (iL l)]/\l.length<=17592186044416/\∀a∈l,a.args.length<=17592186044416/\sR a.eff:=
 jN (f:=sW) (fun h=>by rw[aP]at h;simp only[Tryz.underlying27]at h;exact h) (fun _=>Hk) h
def Hu{m:Nat}{xs:List AV}(h:aP Tryz.prog (m+2) 190 xs):∃t:bH,xs=uv t:=by
 rw[aP]at h;simp only[Tryz.underlying190,eh]at h;obtain⟨v,_,rfl,u,y,_,rfl,h1,z,_,rfl,h2,rfl⟩:=h;obtain⟨a,rfl⟩:=bY u;obtain⟨b,rfl⟩:=bY h1;obtain⟨c,rfl⟩:=bY h2;exact⟨⟨a,b,c⟩,rfl⟩
def Hv{m:Nat}{xs:List AV}(h:aP Tryz.prog (m+3) 28 xs):∃l:List bH,xs=[.arr (jz l)]/\l.length<=17592186044416:=by
 obtain⟨l,h1,h2,_⟩:=jN (f:=uv) (R:=fun _=>True) (fun h=>by rw[aP]at h;simp only[Tryz.underlying28]at h;exact h) (fun _ u=>by obtain⟨s,hs⟩:=Hu u;exact⟨s,hs,trivial⟩) h;exact⟨l,h1,h2⟩
def Hx{m:Nat}{xs:List AV}(h:aP Tryz.prog (m+9) 30 xs):∃d:Md,xs=cg d/\cW d:=by
 rw[aP]at h;simp only[Tryz.underlying30,eh]at h;obtain⟨y0,_,rfl,G,y1,_,rfl,h1,y2,_,rfl,h2,y3,_,rfl,h3,y4,_,rfl,h4,y5,_,rfl,I,y6,_,rfl,J,rfl⟩:=h;obtain⟨a,rfl,O⟩:=pL G;obtain⟨b,rfl,Q,y⟩:=HG h1;obtain⟨c,rfl,U⟩:=HE h2;obtain⟨d,rfl,V,z⟩:=Hq h3;obtain⟨e,rfl,Z,D⟩:=HA h4;obtain⟨f,rfl,hf,u⟩:=Hl I;obtain⟨g,rfl,hg⟩:=Hv J;exact⟨⟨a,b,c,d,e,f,g⟩,rfl,O,Q,y,U,V,z,Z,D,hf,fun x v=>(u x v).1,fun x v=>(u x v).2.delta,fun x v=>(u x v).2.hold,fun x v=>(u x v).2.qN,fun x v=>(u x v).2.aQ,hg,fun x v=>(u x v).2.cell⟩
def Bu{m:Nat}{x:AV}(h:Arg Tryz.prog (m+9) 30 x):∃d:Md,x=di d/\cW d:=by
 obtain⟨xs,h1,h2⟩:=h;obtain⟨d,rfl,u⟩:=Hx h1;simp only[Tryz.underlying30]at h2;exact⟨d,h2,u⟩
end Go.Proofs.YtgbfedgghjcdcaaGreatDoor
