/- Models as trees. No condition. -/
import Derived.Test.YtjolgbkkocjpgaaGreatDoorWQ
import Derived.Test.YtjolgbkkocjpgaaGreatDoorTKA
import Derived.Test.YtjolgbkkocjpgaaGreatDoorTS
import Derived.Test.YtjolgbkkocjpgaaGreatDoorTLX
import Derived.Test.YtjolgbkkocjpgaaGreatDoorTP
set_option linter.all false
namespace Go.Proofs.YtjolgbkkocjpgaaGreatDoor
open Go.RowKit
set_option maxRecDepth 100000
def eJ(t:Tb):List AV:=[.str t.name,.int .i64 t.kind,ay t.av,.int .i64 t.lo,.int .i64 t.hi,.int .i64 t.first]
def bq(l:List Tb):List (List AV):=l.map eJ
def bX(l:List ByteArray):List (List AV):=l.map fun s=>[.str s]
def Bv(t:Tm):List AV:=[.int .i64 t.cell,.int .i64 t.bU]
def eg(l:List Tm):List (List AV):=l.map Bv
def eU(r:Rw):List AV:=[.arr (eg r.a8),.int .i64 r.ib]
def iT(l:List Rw):List (List AV):=l.map eU
def lx(c:Cn):List AV:=[.int .i64 c.kind,.int .i64 c.kF,.arr (eg c.row.a8),.int .i64 c.row.ib,.int .i64 c.first,.int .i64 c.size]
def dc(l:List Cn):List (List AV):=l.map lx
def Am(o:gq):List AV:=[.str o.name,.bool o.ord,ay o.ai]
def dk(l:List gq):List (List AV):=l.map Am
def yF(c:bv):List AV:=[.int .i64 c.cell,.int .i64 c.add]
def jb(l:List bv):List (List AV):=l.map yF
def uI(u:cG):List AV:=[.int .i64 u.kind,.int .i64 u.cell,.int .i64 u.value]
def iW(l:List cG):List (List AV):=l.map uI
def nz(e:jv):List AV:=[.arr (jb e.delta),.arr (iT e.hold),.arr (iW e.cg)]
def pz(a:dU):List AV:=[.int .i64 a.op,ay a.args,.arr (jb a.eff.delta),.arr (iT a.eff.hold),.arr (iW a.eff.cg)]
def cK(l:List dU):List (List AV):=l.map pz
def zC(h:Hde):List AV:=[.int .i64 h.table,.int .i64 h.fa,.int .i64 h.to]
def cu(l:List Hde):List (List AV):=l.map zC
def bR(l:List (Int×Int)):List (List AV):=l.map fun r=>[.int .i64 r.1,.int .i64 r.2]
def eD(m:Md):List AV:=[ay m.ai,.arr (bq m.tables),.arr (bX m.bx),.arr (dc m.cons),.arr (dk m.ops),.arr (cK m.au),.arr (cu m.aG)]
def bk(m:Md):AV:=.agg (eD m)
def iP{α:Type}{f:α->List AV}{l:List α}{k:Nat}{x:α}(h:l[k]?=some x):(l.map f)[k]?=some (f x):=by rw[List.getElem?_map,h];rfl
def fJ(l:List Tb):(bq l).length=l.length:=List.length_map _
def nM(l:List ByteArray):(bX l).length=l.length:=List.length_map _
def mf(l:List Tm):(eg l).length=l.length:=List.length_map _
def xc(l:List Rw):(iT l).length=l.length:=List.length_map _
def nx(l:List Cn):(dc l).length=l.length:=List.length_map _
def mU(l:List gq):(dk l).length=l.length:=List.length_map _
def q_(l:List bv):(jb l).length=l.length:=List.length_map _
def BD(l:List cG):(iW l).length=l.length:=List.length_map _
def fN(l:List dU):(cK l).length=l.length:=List.length_map _
def rA(l:List Hde):(cu l).length=l.length:=List.length_map _
def k7(l:List (Int×Int)):(bR l).length=l.length:=List.length_map _
def fo{l:List Tb}{k:Nat}{t:Tb}(h:l[k]?=some t):(bq l)[k]?=some [.str t.name,.int .i64 t.kind,ay t.av,.int .i64 t.lo,.int .i64 t.hi,.int .i64 t.first]:=iP h
def EP{l:List ByteArray}{k:Nat}{s:ByteArray}(h:l[k]?=some s):(bX l)[k]?=some [.str s]:=iP (f:=fun s=>[.str s]) h
def nj{l:List Tm}{k:Nat}{t:Tm}(h:l[k]?=some t):(eg l)[k]?=some [.int .i64 t.cell,.int .i64 t.bU]:=iP h
def Gt{l:List Rw}{k:Nat}{r:Rw}(h:l[k]?=some r):(iT l)[k]?=some [.arr (eg r.a8),.int .i64 r.ib]:=iP h
def mB{l:List Cn}{k:Nat}{c:Cn}(h:l[k]?=some c):(dc l)[k]?=some [.int .i64 c.kind,.int .i64 c.kF,.arr (eg c.row.a8),.int .i64 c.row.ib,.int .i64 c.first,.int .i64 c.size]:=iP h
def nO{l:List gq}{k:Nat}{o:gq}(h:l[k]?=some o):(dk l)[k]?=some [.str o.name,.bool o.ord,ay o.ai]:=iP h
def pO{l:List bv}{k:Nat}{c:bv}(h:l[k]?=some c):(jb l)[k]?=some [.int .i64 c.cell,.int .i64 c.add]:=iP h
def uJ{l:List cG}{k:Nat}{u:cG}(h:l[k]?=some u):(iW l)[k]?=some [.int .i64 u.kind,.int .i64 u.cell,.int .i64 u.value]:=iP h
def ei{l:List dU}{k:Nat}{a:dU}(h:l[k]?=some a):(cK l)[k]?=some [.int .i64 a.op,ay a.args,.arr (jb a.eff.delta),.arr (iT a.eff.hold),.arr (iW a.eff.cg)]:=iP h
def rz{l:List Hde}{k:Nat}{h:Hde}(e:l[k]?=some h):(cu l)[k]?=some [.int .i64 h.table,.int .i64 h.fa,.int .i64 h.to]:=iP e
def AN{l:List (Int×Int)}{k:Nat}{r:Int×Int}(e:l[k]?=some r):(bR l)[k]?=some [.int .i64 r.1,.int .i64 r.2]:=iP (f:=fun r:Int×Int=>[.int .i64 r.1,.int .i64 r.2]) e
structure bo (m:Md):Prop where
 ai:m.ai.length<=17592186044416
 tables:m.tables.length<=17592186044416
 av:∀t∈m.tables,t.av.length<=17592186044416
 bx:m.bx.length<=17592186044416
 cons:m.cons.length<=17592186044416
 a8:∀c∈m.cons,c.row.a8.length<=17592186044416
 ops:m.ops.length<=17592186044416
 rX:∀o∈m.ops,o.ai.length<=17592186044416
 au:m.au.length<=17592186044416
 args:∀a∈m.au,a.args.length<=17592186044416
 delta:∀a∈m.au,a.eff.delta.length<=17592186044416
 hold:∀a∈m.au,a.eff.hold.length<=17592186044416
 tD:∀a∈m.au,∀r∈a.eff.hold,r.a8.length<=17592186044416
 cg:∀a∈m.au,a.eff.cg.length<=17592186044416
 aG:m.aG.length<=17592186044416
 Rs:∀a∈m.au,∀u∈a.eff.cg,u.cell<=9223372036854775807
def jV{m:Nat}{xs:List AV}{T E:TypeId}{α:Type}{f:α->List AV}{R:α->Prop}(v:aK Tryz.prog (m+1) T xs->∃es:List (List AV),xs=[.arr es]/\es.length<=17592186044416/\∀c∈es,aK Tryz.prog m E c)(u:∀c,aK Tryz.prog m E c->∃a,c=f a/\R a)(h:aK Tryz.prog (m+1) T xs):∃l:List α,xs=[.arr (l.map f)]/\l.length<=17592186044416/\∀a∈l,R a:=by
 obtain⟨es,rfl,G,D⟩:=v h;obtain⟨l,rfl,y⟩:=tU (f:=f) (R:=R) fun c z=>u c (D c z);exact⟨l,rfl,by simpa using G,y⟩
def Bb{m:Nat}{xs:List AV}(h:aK Tryz.prog (m+1) 9 xs):∃s,xs=[.str s]:=by
 simp only[aK,Tryz.underlying9]at h;obtain⟨s,h,_⟩:=h;exact⟨s,h⟩
def Qc{m:Nat}{xs:List AV}(h:aK Tryz.prog (m+1) 3 xs):∃k:Int,xs=[.int .i64 k]/\k<=9223372036854775807:=by
 simp only[aK,Tryz.underlying3]at h;obtain⟨k,h,u⟩:=h;simp only[Lit.wf,Bool.and_eq_true,decide_eq_true_eq]at u;exact⟨k,h,Int.le_trans u.2 (by decide)⟩
def Qm{m:Nat}{xs:List AV}(h:aK Tryz.prog (m+2) 105 xs):∃a b:Int,xs=[.int .i64 a,.int .i64 b]:=by
 rw[aK]at h;simp only[Tryz.underlying105,dW]at h;obtain⟨v,_,rfl,u,y,_,rfl,h1,rfl⟩:=h;obtain⟨a,rfl⟩:=cb u;obtain⟨b,rfl⟩:=cb h1;exact⟨a,b,rfl⟩
def Qq{m:Nat}{xs:List AV}(h:aK Tryz.prog (m+3) 107 xs):∃t:Tb,xs=eJ t/\t.av.length<=17592186044416:=by
 rw[aK]at h;simp only[Tryz.underlying107,dW]at h;obtain⟨y,_,rfl,u,z,_,rfl,h1,D,_,rfl,h2,G,_,rfl,h3,I,_,rfl,h4,rfl⟩:=h;obtain⟨s,rfl⟩:=Bb u;obtain⟨k,rfl⟩:=cb h1;obtain⟨c,rfl,v⟩:=o6 h2;obtain⟨a,b,rfl⟩:=Qm h3;obtain⟨f,rfl⟩:=cb h4;exact⟨⟨s,k,c,a,b,f⟩,rfl,v⟩
def Qr{m:Nat}{xs:List AV}(h:aK Tryz.prog (m+4) 23 xs):∃l:List Tb,xs=[.arr (bq l)]/\l.length<=17592186044416/\∀t∈l,t.av.length<=17592186044416:=
 jV (f:=eJ) (fun h=>by rw[aK]at h;simp only[Tryz.underlying23]at h;exact h) (fun _=>Qq) h
def Qp{m:Nat}{xs:List AV}(h:aK Tryz.prog (m+2) 24 xs):∃l:List ByteArray,xs=[.arr (bX l)]/\l.length<=17592186044416:=by
 obtain⟨l,h1,h2,_⟩:=jV (f:=fun s=>[.str s]) (R:=fun _:ByteArray=>True) (fun h=>by rw[aK]at h;simp only[Tryz.underlying24]at h;exact h) (fun _ u=>by obtain⟨s,hs⟩:=Bb u;exact⟨s,hs,trivial⟩) h;exact⟨l,h1,h2⟩
def Qt{m:Nat}{xs:List AV}(h:aK Tryz.prog (m+2) 90 xs):∃t:Tm,xs=Bv t:=by
 rw[aK]at h;simp only[Tryz.underlying90,dW]at h;obtain⟨v,_,rfl,u,y,_,rfl,h1,rfl⟩:=h;obtain⟨a,rfl⟩:=cb u;obtain⟨b,rfl⟩:=cb h1;exact⟨⟨a,b⟩,rfl⟩
def Qu{m:Nat}{xs:List AV}(h:aK Tryz.prog (m+3) 84 xs):∃l:List Tm,xs=[.arr (eg l)]/\l.length<=17592186044416:=by
 obtain⟨l,h1,h2,_⟩:=jV (f:=Bv) (R:=fun _=>True) (fun h=>by rw[aK]at h;simp only[Tryz.underlying84]at h;exact h) (fun _ u=>by obtain⟨s,hs⟩:=Qt u;exact⟨s,hs,trivial⟩) h;exact⟨l,h1,h2⟩
def GJ{m:Nat}{xs:List AV}(h:aK Tryz.prog (m+4) 86 xs):∃r:Rw,xs=eU r/\r.a8.length<=17592186044416:=by
 rw[aK]at h;simp only[Tryz.underlying86,dW]at h;obtain⟨y,_,rfl,u,z,_,rfl,h1,rfl⟩:=h;obtain⟨l,rfl,v⟩:=Qu u;obtain⟨b,rfl⟩:=cb h1;exact⟨⟨l,b⟩,rfl,v⟩
def P5{m:Nat}{xs:List AV}(h:aK Tryz.prog (m+5) 88 xs):∃c:Cn,xs=lx c/\c.row.a8.length<=17592186044416:=by
 rw[aK]at h;simp only[Tryz.underlying88,dW]at h;obtain⟨y,_,rfl,u,z,_,rfl,h1,D,_,rfl,h2,G,_,rfl,h3,I,_,rfl,h4,rfl⟩:=h;obtain⟨k,rfl⟩:=cb u;obtain⟨f,rfl⟩:=cb h1;obtain⟨r,rfl,v⟩:=GJ h2;obtain⟨a,rfl⟩:=cb h3;obtain⟨b,rfl⟩:=cb h4;exact⟨⟨k,f,r,a,b⟩,rfl,v⟩
def P6{m:Nat}{xs:List AV}(h:aK Tryz.prog (m+6) 25 xs):∃l:List Cn,xs=[.arr (dc l)]/\l.length<=17592186044416/\∀c∈l,c.row.a8.length<=17592186044416:=
 jV (f:=lx) (fun h=>by rw[aK]at h;simp only[Tryz.underlying25]at h;exact h) (fun _=>P5) h
def Qi{m:Nat}{xs:List AV}(h:aK Tryz.prog (m+3) 109 xs):∃o:gq,xs=Am o/\o.ai.length<=17592186044416:=by
 rw[aK]at h;simp only[Tryz.underlying109,dW]at h;obtain⟨y,_,rfl,u,z,_,rfl,h1,D,_,rfl,h2,rfl⟩:=h;obtain⟨s,rfl⟩:=Bb u;obtain⟨b,rfl⟩:=GF h1;obtain⟨l,rfl,v⟩:=o6 h2;exact⟨⟨s,b,l⟩,rfl,v⟩
def Qj{m:Nat}{xs:List AV}(h:aK Tryz.prog (m+4) 26 xs):∃l:List gq,xs=[.arr (dk l)]/\l.length<=17592186044416/\∀o∈l,o.ai.length<=17592186044416:=
 jV (f:=Am) (fun h=>by rw[aK]at h;simp only[Tryz.underlying26]at h;exact h) (fun _=>Qi) h
def P2{m:Nat}{xs:List AV}(h:aK Tryz.prog (m+2) 111 xs):∃t:bv,xs=yF t:=by
 rw[aK]at h;simp only[Tryz.underlying111,dW]at h;obtain⟨v,_,rfl,u,y,_,rfl,h1,rfl⟩:=h;obtain⟨a,rfl⟩:=cb u;obtain⟨b,rfl⟩:=cb h1;exact⟨⟨a,b⟩,rfl⟩
def P3{m:Nat}{xs:List AV}(h:aK Tryz.prog (m+3) 112 xs):∃l:List bv,xs=[.arr (jb l)]/\l.length<=17592186044416:=by
 obtain⟨l,h1,h2,_⟩:=jV (f:=yF) (R:=fun _=>True) (fun h=>by rw[aK]at h;simp only[Tryz.underlying112]at h;exact h) (fun _ u=>by obtain⟨s,hs⟩:=P2 u;exact⟨s,hs,trivial⟩) h;exact⟨l,h1,h2⟩
def Qv{m:Nat}{xs:List AV}(h:aK Tryz.prog (m+2) 123 xs):∃t:cG,xs=uI t/\t.cell<=9223372036854775807:=by
 rw[aK]at h;simp only[Tryz.underlying123,dW]at h;obtain⟨y,_,rfl,u,z,_,rfl,h1,D,_,rfl,h2,rfl⟩:=h;obtain⟨a,rfl⟩:=cb u;obtain⟨b,rfl,v⟩:=Qc h1;obtain⟨c,rfl⟩:=cb h2;exact⟨⟨a,b,c⟩,rfl,v⟩
def Qw{m:Nat}{xs:List AV}(h:aK Tryz.prog (m+3) 114 xs):∃l:List cG,xs=[.arr (iW l)]/\l.length<=17592186044416/\∀u∈l,u.cell<=9223372036854775807:=
 jV (f:=uI) (fun h=>by rw[aK]at h;simp only[Tryz.underlying114]at h;exact h) (fun _=>Qv) h
def Qo{m:Nat}{xs:List AV}(h:aK Tryz.prog (m+5) 113 xs):∃l:List Rw,xs=[.arr (iT l)]/\l.length<=17592186044416/\∀r∈l,r.a8.length<=17592186044416:=
 jV (f:=eU) (fun h=>by rw[aK]at h;simp only[Tryz.underlying113]at h;exact h) (fun _=>GJ) h
structure yi (e:jv):Prop where
 delta:e.delta.length<=17592186044416
 hold:e.hold.length<=17592186044416
 tD:∀r∈e.hold,r.a8.length<=17592186044416
 cg:e.cg.length<=17592186044416
 cell:∀u∈e.cg,u.cell<=9223372036854775807
def P7{m:Nat}{xs:List AV}(h:aK Tryz.prog (m+6) 116 xs):∃e:jv,xs=nz e/\yi e:=by
 rw[aK]at h;simp only[Tryz.underlying116,dW]at h;obtain⟨I,_,rfl,y,J,_,rfl,h1,U,_,rfl,h2,rfl⟩:=h;obtain⟨a,rfl,z⟩:=P3 y;obtain⟨b,rfl,D,u⟩:=Qo h1;obtain⟨c,rfl,G,v⟩:=Qw h2;exact⟨⟨a,b,c⟩,rfl,z,D,u,G,v⟩
def P0{m:Nat}{xs:List AV}(h:aK Tryz.prog (m+7) 118 xs):∃a:dU,xs=pz a/\(a.args.length<=17592186044416/\yi a.eff):=by
 rw[aK]at h;simp only[Tryz.underlying118,dW]at h;obtain⟨z,_,rfl,u,D,_,rfl,h1,G,_,rfl,h2,rfl⟩:=h;obtain⟨a,rfl⟩:=cb u;obtain⟨b,rfl,v⟩:=o6 h1;obtain⟨c,rfl,y⟩:=P7 h2;exact⟨⟨a,b,c⟩,rfl,v,y⟩
def P1{m:Nat}{xs:List AV}(h:aK Tryz.prog (m+8) 27 xs):∃l:List dU,xs=[.arr (cK l)]/\l.length<=17592186044416/\∀a∈l,a.args.length<=17592186044416/\yi a.eff:=
 jV (f:=pz) (fun h=>by rw[aK]at h;simp only[Tryz.underlying27]at h;exact h) (fun _=>P0) h
def Qa{m:Nat}{xs:List AV}(h:aK Tryz.prog (m+2) 175 xs):∃t:Hde,xs=zC t:=by
 rw[aK]at h;simp only[Tryz.underlying175,dW]at h;obtain⟨v,_,rfl,u,y,_,rfl,h1,z,_,rfl,h2,rfl⟩:=h;obtain⟨a,rfl⟩:=cb u;obtain⟨b,rfl⟩:=cb h1;obtain⟨c,rfl⟩:=cb h2;exact⟨⟨a,b,c⟩,rfl⟩
def Qb{m:Nat}{xs:List AV}(h:aK Tryz.prog (m+3) 28 xs):∃l:List Hde,xs=[.arr (cu l)]/\l.length<=17592186044416:=by
 obtain⟨l,h1,h2,_⟩:=jV (f:=zC) (R:=fun _=>True) (fun h=>by rw[aK]at h;simp only[Tryz.underlying28]at h;exact h) (fun _ u=>by obtain⟨s,hs⟩:=Qa u;exact⟨s,hs,trivial⟩) h;exact⟨l,h1,h2⟩
def Qg{m:Nat}{xs:List AV}(h:aK Tryz.prog (m+9) 30 xs):∃d:Md,xs=eD d/\bo d:=by
 rw[aK]at h;simp only[Tryz.underlying30,dW]at h;obtain⟨y0,_,rfl,G,y1,_,rfl,h1,y2,_,rfl,h2,y3,_,rfl,h3,y4,_,rfl,h4,y5,_,rfl,I,y6,_,rfl,J,rfl⟩:=h;obtain⟨a,rfl,U⟩:=o6 G;obtain⟨b,rfl,V,y⟩:=Qr h1;obtain⟨c,rfl,Z⟩:=Qp h2;obtain⟨d,rfl,hd,z⟩:=P6 h3;obtain⟨e,rfl,he,D⟩:=Qj h4;obtain⟨f,rfl,hf,u⟩:=P1 I;obtain⟨g,rfl,hg⟩:=Qb J;exact⟨⟨a,b,c,d,e,f,g⟩,rfl,U,V,y,Z,hd,z,he,D,hf,fun x v=>(u x v).1,fun x v=>(u x v).2.delta,fun x v=>(u x v).2.hold,fun x v=>(u x v).2.tD,fun x v=>(u x v).2.cg,hg,fun x v=>(u x v).2.cell⟩
def Ij{m:Nat}{x:AV}(h:Arg Tryz.prog (m+9) 30 x):∃d:Md,x=bk d/\bo d:=by
 obtain⟨xs,h1,h2⟩:=h;obtain⟨d,rfl,hd⟩:=Qg h1;simp only[Tryz.underlying30]at h2;exact⟨d,h2,hd⟩
set_option maxHeartbeats 16000000
def CM(n lo hi:Int):Cl ah 136 [.t (.int .i64 n),.t (.int .i64 lo),.t (.int .i64 hi)] [] (.t (.bool (decide (lo<=n)&&decide (n<=hi)))) []:=by
 refine Cl.aq rfl Tryz.func136 rfl rfl rfl ?_;exact ae
def vn(t:Tb):Cl ah 139 [.t (.agg (eJ t))] [] (.t (.bool (bA t.kind))) []:=by
 have e:eJ t=[.str t.name,.int .i64 t.kind,ay t.av,.int .i64 t.lo,.int .i64 t.hi,.int .i64 t.first]:=rfl;rw[e];refine Cl.aq rfl Tryz.func139 rfl rfl rfl ?_;unfold bA;exact ae
def JJ(n:Int):Cl ah 167 [.t (.int .i64 n)] [] (.t (.bool (!(decide (1<=n)&&decide (n<=6))))) []:=by
 have k:=CM n 1 6;refine Cl.aq rfl Tryz.func167 rfl rfl rfl ?_;generalize(decide (1<=n)&&decide (n<=6))=b at*
 cases b with
 |true=>
  exact ae
 |false=>
  exact ae
def JK{S:List Int}(y:S.length<=140737488351232):Cl ah 134 [.t (ay S)] [] (.t (.bool (cx S))) []:=by
 have k:=Jl (C:=S) (p:=fun n=>!(decide (1<=n)&&decide (n<=6))) y (fun n _=>JJ n)
 have e:cx S=!(S.any fun n=>!(decide (1<=n)&&decide (n<=6))):=by
  unfold cx;rw[Bool.eq_iff_iff,List.all_eq_true,Bool.not_eq_true',<- Bool.not_eq_true,List.any_eq_true];constructor
  ·rintro h ⟨x,u,v⟩;rw[h x u]at v;cases v
  ·intro h x u;rw[<- Bool.not_eq_false];intro z;exact h ⟨x,u,by rw[z];rfl⟩
 rw[e];refine Cl.aq rfl Tryz.func134 rfl rfl rfl ?_;generalize(S.any fun n=>!(decide (1<=n)&&decide (n<=6)))=b at*
 cases b with
 |true=>
  exact ae
 |false=>
  exact ae
def IC(a b c:Bool):Cl ah 133 [.t (.arr [[.bool a],[.bool b],[.bool c]])] [] (.t (.bool (a&&(b&&c)))) []:=by
 cases a <;>cases b <;>cases c <;>exact⟨20,by kernel_rfl⟩
def Cq(a b c d e:Bool):Cl ah 133 [.t (.arr [[.bool a],[.bool b],[.bool c],[.bool d],[.bool e]])] [] (.t (.bool (a&&(b&&(c&&(d&&e)))))) []:=by
 cases a <;>cases b <;>cases c <;>cases d <;>cases e <;>exact⟨20,by kernel_rfl⟩
def Hj{S C:List Int}(hc:C.all (cr S)=true)(q:Nat):(C.take q).all (cr S)=true:=List.all_eq_true.2 fun x u=>List.all_eq_true.1 hc x (List.mem_of_mem_take u)
def vo{S C:List Int}(U:S.length<=1000)(hs:cx S=true)(hc:C.all (cr S)=true)(hl:C.length<=3):Cl ah 140 [.t (ay S),.t (ay C)] [] (.t (.int .i64 (c6 S C))) []:=by
 have I:=aO S;have G:=aO C;refine Cl.aq rfl Tryz.func140 rfl rfl rfl ?_;refine ak ?_;refine ax.ind (fun q:Nat=>[(5,.t (.int .i64 (c6 S (C.take q)))),(10,.t (.int .i64 (q:Int)))]) (fun q=>q<=C.length) (fun q=>C.length - q) 0 rfl (by omega) (fun q h1=>?_);rcases Nat.lt_or_ge q C.length with h3|h3
 ·
  obtain⟨c,u⟩:=aj h3;have Z:=aW u;have y:=List.all_eq_true.1 hc c (List.mem_of_getElem? u);unfold cr at y;simp only[Bool.and_eq_true,decide_eq_true_eq]at y;obtain⟨k,rfl⟩:∃k:Nat,c=(k:Int):=⟨c.toNat,by omega⟩;obtain⟨x,D⟩:=aj (xs:=S) (k:=k) (by omega);have J:=aW D;have V:=mY hs (Hj hc q) (by rw[List.length_take];omega);have z:=mY hs (Hj hc (q+1)) (by rw[List.length_take];omega);have v:=wP (S:=S) u;rw[show((k:Int)).toNat=k by omega,List.getD_eq_getElem?_getD,D,Option.getD_some]at v;rw[v]at z;generalize c6 S (C.take q)=P at*
  refine ak ?_;exact⟨q+1,by rw[v];rfl,rfl,by omega,by omega⟩
 ·
  obtain rfl:q=C.length:=by omega
  rw[List.take_length];exact ae
def O_:ah.P.eqGuardType ah.P.depth 105=false:=by kernel_rfl
def O9(a b u v:Int):gy ah.P 20 105 [.int .i64 a,.int .i64 b] [.int .i64 u,.int .i64 v]=some (decide (a=u)&&(decide (b=v)&&true)):=by kernel_rfl
def JH(t:Tb):Cl ah 138 [.t (.agg (eJ t))] [] (.t (.bool (r9 t))) []:=by
 have e:eJ t=[.str t.name,.int .i64 t.kind,ay t.av,.int .i64 t.lo,.int .i64 t.hi,.int .i64 t.first]:=rfl;rw[e];refine Cl.aq rfl Tryz.func138 rfl rfl rfl ?_;unfold r9
 repeat'(first
|((with_reducible apply aa.aX)<;>intro u)
|((with_reducible apply aa.bi)<;>intro u)
|(refine ar ?_)
|((with_reducible apply aa.aB);(case hW=>exact rfl);(case hx=>exact af))
|((with_reducible apply aa.u0);(case hx=>first
|((with_reducible apply ac.eqs);(case hx|hy=>exact rfl);(case hg=>exact O_);(case ht=>exact rfl);(case hr=>exact O9 _ _ _ _))
|exact af))
|fail)
 all_goals(refine a_ (.inr rfl) rfl ?_;first|(simp_all;done)|(simp_all;omega))
def IR{S:List Int}{c:Int}(v:S.length<=1000):Cl ah 169 [.t (.int .i64 c),.t (.tp [ay S])] [] (.t (.bool (!cr S c))) []:=by
 have u:=aO S;refine Cl.aq rfl Tryz.func169 rfl rfl rfl ?_;unfold cr;exact ae
def Lc{C:List Int}{p:Int->Bool}{c:AV}(hl:C.length<=140737488351232)(hp:∀x∈C,Cl ah 169 [.t (.int .i64 x),.t c] [] (.t (.bool (p x))) []):Cl ah 32 [.t (ay C),.t (.fn (.func 169) 0 [c])] [] (.t (.int .i64 (bj p C 0))) []:=by
 have z:=aO C;refine Cl.aq rfl Tryz.func32 rfl rfl rfl ?_;refine ak ?_;refine ax.ind (fun q:Nat=>[(8,.t (.int .i64 (q:Int)))]) (fun q=>q<=C.length/\bj p C 0=bj p (C.drop q) q) (fun q=>C.length - q) 0 rfl (by simp) (fun q D=>?_);obtain⟨h1,h2⟩:=D;rw[h2];rcases Nat.lt_or_ge q C.length with h3|h3
 ·
  obtain⟨e,u⟩:=aj h3;have G:=aW u;have v:=hp e (List.mem_of_getElem? u);rw[drop_at u,iK];obtain⟨b,y⟩:∃b,p e=b:=⟨_,rfl⟩;rw[y]at v⊢
  cases b with
  |true=>
   exact ae
  |false=>
   exact ae
 ·
  rw[List.drop_of_length_le h3];exact ae
def Jk{C:List Int}{p:Int->Bool}{c:AV}(hl:C.length<=140737488351232)(hp:∀x∈C,Cl ah 169 [.t (.int .i64 x),.t c] [] (.t (.bool (p x))) []):Cl ah 11 [.t (ay C),.t (.fn (.func 169) 0 [c])] [] (.t (.bool (C.any p))) []:=by
 have u:=Lc hl hp;rw[<- ik p C 0 (by omega)];refine Cl.aq rfl Tryz.func11 rfl rfl rfl ?_;obtain⟨n,v⟩:∃n,bj p C 0=n:=⟨_,rfl⟩;rw[v]at u⊢;exact ae
def pD{α:Type}(p:α->Bool)(l:List α):l.all p=!(l.any fun x=>!p x):=by
 rw[Bool.eq_iff_iff,List.all_eq_true,Bool.not_eq_true',<- Bool.not_eq_true,List.any_eq_true];constructor
 ·rintro h ⟨x,u,v⟩;rw[h x u]at v;cases v
 ·intro h x u;rw[<- Bool.not_eq_false];intro y;exact h ⟨x,u,by rw[y];rfl⟩
def IU{S C:List Int}(y:S.length<=1000)(u:C.length<=140737488351232):Cl ah 137 [.t (ay S),.t (ay C)] [] (.t (.bool (iH S C))) []:=by
 have z:=aO S;have v:=aO C;have k:=Jk (p:=fun c=>!cr S c) (c:=.tp [ay S]) u (fun x _=>IR y);refine Cl.aq rfl Tryz.func137 rfl rfl rfl ?_;unfold iH;rw[pD (cr S) C];generalize(C.any fun c=>!cr S c)=b at*
 by_cases h3:C.length<=3
 ·
  rw[decide_eq_true h3]
  cases b with
  |true=>
   exact ae
  |false=>
   exact ae
 ·
  rw[decide_eq_false h3];exact ae
section
variable {g:Cfg} {d:Option (List Nat)} {env:Env} {fr:Fr} {i':Nat}
def ac.qs{t e i:Nat}{z:TypeDesc}{m k y:Operand}{ka:AV}{ks u:List AV}{vs v:List SV}{x:SV}{fr':Fr}(hs:∀C:CallF,step g C d i' env fr (.mapUpdate t m k y)=ca g C (dZ d i') env fr (.mapUpdate t m k y))(hm:nL g.P t=some (e,z))(ha:rd env m=.lm i)(hk:rd env k=.t ka)(hd:tI z ka=true)(hy:rd env y=x)(hb:fr[i]?=some (.map false ks vs))(hf:eB z ka ks 0=some none)(hks:ks++[ka]=u)(hvs:vs++[x]=v)(hfr:aI (fr.set i (.map false u v)) fr'):ac g d i' env fr (.mapUpdate t m k y) .dead fr' []:=.r fun C=>by
 rw[hs];obtain rfl:=hfr.eq;subst hks hvs hy;unfold ca rE;simp only[hm,ha,hk,hb,hd,hf]
def ac.M8{t e i j:Nat}{v:TypeDesc}{m k y:Operand}{ka:AV}{ks:List AV}{vs u:List SV}{x:SV}{fr':Fr}(hs:∀C:CallF,step g C d i' env fr (.mapUpdate t m k y)=ca g C (dZ d i') env fr (.mapUpdate t m k y))(hm:nL g.P t=some (e,v))(ha:rd env m=.lm i)(hk:rd env k=.t ka)(hd:tI v ka=true)(hy:rd env y=x)(hb:fr[i]?=some (.map false ks vs))(hf:eB v ka ks 0=some (some j))(hvs:vs.set j x=u)(hfr:aI (fr.set i (.map false ks u)) fr'):ac g d i' env fr (.mapUpdate t m k y) .dead fr' []:=.r fun C=>by
 rw[hs];obtain rfl:=hfr.eq;subst hvs hy;unfold ca rE;simp only[hm,ha,hk,hb,hd,hf]
def ac.CJ{t u:Nat}{a y:Operand}{args:Array Operand}{tys:Array TypeId}{x z s:SV}{fr1 fr':Fr}(hs:∀C:CallF,step g C d i' env fr (.call ⟨.builtin .copy,args,tys⟩)=ca g C (dZ d i') env fr (.call ⟨.builtin .copy,args,tys⟩))(ha:args.toList=[a,y])(ht:tys.toList=[t,u])(hx:rd env a=x)(hy:rd env y=z)(hm:lA g.P fr t x z=some (s,fr1,[]))(hf:aI fr1 fr'):ac g d i' env fr (.call ⟨.builtin .copy,args,tys⟩) s fr' []:=.r fun C=>by
 rw[hs];obtain rfl:=hf.eq;subst hx hy;unfold ca;simp only[ha,ht,hm]
end
def lc(N:List ByteArray):List AV:=N.map .str
def cY(N:List Int):List AV:=N.map (.int .i64)
def eh(n:Nat):List SV:=List.replicate n (.t (.bool true))
def B9(s u:ByteArray):(s==u)=decide (s=u):=by
 cases s with|mk a=>cases u with|mk b=>
 have h:((ByteArray.mk a)==(ByteArray.mk b))=(a==b):=rfl;rw[h,Bool.eq_iff_iff];simp
theorem zr{s:ByteArray}:∀(N:List ByteArray) (i:Nat),eB .string (.str s) (lc N) i=(if N.any (fun u=>decide (u=s))=true then some (some (i+N.findIdx fun u=>decide (u=s)))else some none)
 |[],i=>rfl
 |u::N,i=>by
  show eB .string (.str s) (.str u::lc N) i=_
  unfold eB;have e:jF .string [.str s] [.str u]=some (s==u):=rfl;rw[e,zr N (i+1),List.any_cons,List.findIdx_cons];by_cases h:u=s
  ·subst h;have h2:(u==u)=true:=by rw[B9];simp
   rw[h2];simp
  ·have h2:(s==u)=false:=by
    rw[B9];exact decide_eq_false fun v=>h v.symm
   rw[h2,decide_eq_false h];simp only[Bool.false_or,cond_false];split
   ·simp;omega
   ·rfl
theorem vO{s:Int}:∀(N:List Int) (i:Nat),eB (.int .i64) (.int .i64 s) (cY N) i=(if N.any (fun u=>decide (u=s))=true then some (some (i+N.findIdx fun u=>decide (u=s)))else some none)
 |[],i=>rfl
 |u::N,i=>by
  show eB (.int .i64) (.int .i64 s) (.int .i64 u::cY N) i=_
  unfold eB;have e:jF (.int .i64) [.int .i64 s] [.int .i64 u]=some (decide (s=u)):=rfl;rw[e,vO N (i+1),List.any_cons,List.findIdx_cons];by_cases h:u=s
  ·subst h;rw[decide_eq_true rfl];simp
  ·have h2:decide (s=u)=false:=decide_eq_false fun v=>h v.symm;rw[h2,decide_eq_false h];simp only[Bool.false_or,cond_false];split
   ·simp;omega
   ·rfl
def zy{s:ByteArray}{N:List ByteArray}(h:(N.any fun u=>decide (u=s))=false):eB .string (.str s) (lc N) 0=some none:=by rw[zr,h];rfl
def zz{s:ByteArray}{N:List ByteArray}(h:(N.any fun u=>decide (u=s))=true):∃j,eB .string (.str s) (lc N) 0=some (some j)/\j <N.length:=by
 refine⟨N.findIdx fun u=>decide (u=s),by rw[zr,if_pos h,Nat.zero_add],?_⟩;rw[List.any_eq_true]at h;obtain⟨x,y,v⟩:=h;exact List.findIdx_lt_length_of_exists ⟨x,y,v⟩
def vQ{s:Int}{N:List Int}(h:(N.any fun u=>decide (u=s))=false):eB (.int .i64) (.int .i64 s) (cY N) 0=some none:=by rw[vO,h];rfl
def Dg{s:Int}{N:List Int}(h:(N.any fun u=>decide (u=s))=true):∃j,eB (.int .i64) (.int .i64 s) (cY N) 0=some (some j)/\j <N.length:=by
 refine⟨N.findIdx fun u=>decide (u=s),by rw[vO,if_pos h,Nat.zero_add],?_⟩;rw[List.any_eq_true]at h;obtain⟨x,y,v⟩:=h;exact List.findIdx_lt_length_of_exists ⟨x,y,v⟩
def uH{n j:Nat}(h:j <n):(eh n)[j]?=some (.t (.bool true)):=by unfold eh;rw[List.getElem?_replicate,if_pos h]
def Rq{n j:Nat}:(eh n).set j (.t (.bool true))=eh n:=by
 unfold eh;apply List.ext_getElem?;intro k;rw[List.getElem?_set];simp only[List.length_replicate,List.getElem?_replicate];split
 ·subst_vars
  split <;>simp_all
 ·rfl
def x_(n:Nat):eh n++[.t (.bool true)]=eh (n+1):=by unfold eh;rw[List.replicate_succ']
def BC(n:Nat):eh n=(List.replicate n (.bool true)).map SV.t:=by unfold eh;rw[List.map_replicate]
def Dn{σ:Nat->Option Nat}{ks:List AV}{n:Nat}{bs u:Fr}(h:bs=u):(Lb.map false ks (SV.cM σ (eh n))::bs)=Lb.map false ks (eh n)::u:=by rw[BC,sx,h]
def LB{N:List Int}{s:Int}:cY N++[.int .i64 s]=cY (N++[s]):=by simp[cY]
set_option maxRecDepth 100000
def PO(s:sK):List AV:=[.int .i64 s.e,.int .i64 s.f,.bool s.hold,.int .i64 s.idx,ay s.st]
def rh(x:bI):List AV:=[.int .i64 x.bz,.int .i64 x.s.e,.int .i64 x.s.f,.bool x.s.hold,.int .i64 x.s.idx,ay x.s.st]
def eA(l:List bI):List (List AV):=l.map rh
def io(x:Mem):List AV:=[.int .i64 x.act,.int .i64 x.s.e,.int .i64 x.s.f,.bool x.s.hold,.int .i64 x.s.idx,ay x.s.st]
def cw(l:List Mem):List (List AV):=l.map io
def jM(x:Lck):List AV:=[.int .i64 x.a,.int .i64 x.b,.int .i64 x.pa,.int .i64 x.pb,.arr (cw x.mem)]
def dO(l:List Lck):List (List AV):=l.map jM
def ui(p:Pln):List AV:=[.arr (eA p.ao),.arr (dO p.aD),.arr (cw p.places),ay p.bh]
def aN(p:Pln):AV:=.agg (ui p)
def Nd(x:bE):List AV:=[.int .i64 x.k,.int .i64 x.i,.int .i64 x.el,.int .i64 x.n]
def ba(l:List bE):List (List AV):=l.map Nd
def kE(l:List bI):(eA l).length=l.length:=List.length_map _
def kU(l:List Mem):(cw l).length=l.length:=List.length_map _
def nK(l:List Lck):(dO l).length=l.length:=List.length_map _
def EG(l:List bE):(ba l).length=l.length:=List.length_map _
def oD{l:List bI}{k:Nat}{x:bI}(h:l[k]?=some x):(eA l)[k]?=some [.int .i64 x.bz,.int .i64 x.s.e,.int .i64 x.s.f,.bool x.s.hold,.int .i64 x.s.idx,ay x.s.st]:=iP h
def iQ{l:List Mem}{k:Nat}{x:Mem}(h:l[k]?=some x):(cw l)[k]?=some [.int .i64 x.act,.int .i64 x.s.e,.int .i64 x.s.f,.bool x.s.hold,.int .i64 x.s.idx,ay x.s.st]:=iP h
def mL{l:List Lck}{k:Nat}{x:Lck}(h:l[k]?=some x):(dO l)[k]?=some [.int .i64 x.a,.int .i64 x.b,.int .i64 x.pa,.int .i64 x.pb,.arr (cw x.mem)]:=iP h
def kX{l:List bE}{k:Nat}{x:bE}(h:l[k]?=some x):(ba l)[k]?=some [.int .i64 x.k,.int .i64 x.i,.int .i64 x.el,.int .i64 x.n]:=iP h
structure ml (p:Pln):Prop where
 ao:p.ao.length<=17592186044416
 aD:p.aD.length<=17592186044416
 mem:∀L∈p.aD,L.mem.length<=17592186044416
 places:p.places.length<=17592186044416
 bh:p.bh.length<=17592186044416
def Qs{m:Nat}{xs:List AV}(h:aK Tryz.prog (m+2) 77 xs):∃(b:Bool) (i:Int),xs=[.bool b,.int .i64 i]:=by
 rw[aK]at h;simp only[Tryz.underlying77,dW]at h;obtain⟨v,_,rfl,u,y,_,rfl,h1,rfl⟩:=h;obtain⟨b,rfl⟩:=GF u;obtain⟨i,rfl⟩:=cb h1;exact⟨b,i,rfl⟩
def Ql{m:Nat}{xs:List AV}(h:aK Tryz.prog (m+3) 79 xs):∃(e f:Int) (b:Bool) (i:Int),xs=[.int .i64 e,.int .i64 f,.bool b,.int .i64 i]:=by
 rw[aK]at h;simp only[Tryz.underlying79,dW]at h;obtain⟨v,_,rfl,u,y,_,rfl,h1,z,_,rfl,h2,rfl⟩:=h;obtain⟨e,rfl⟩:=cb u;obtain⟨f,rfl⟩:=cb h1;obtain⟨b,i,rfl⟩:=Qs h2;exact⟨e,f,b,i,rfl⟩
def GK{m:Nat}{xs:List AV}(h:aK Tryz.prog (m+4) 81 xs):∃s:sK,xs=PO s:=by
 rw[aK]at h;simp only[Tryz.underlying81,dW]at h;obtain⟨y,_,rfl,u,z,_,rfl,h1,rfl⟩:=h;obtain⟨e,f,b,i,rfl⟩:=Ql u;obtain⟨l,rfl,v⟩:=o6 h1;exact⟨⟨e,f,b,i,l⟩,rfl⟩
def P8{m:Nat}{xs:List AV}(h:aK Tryz.prog (m+5) 83 xs):∃x:bI,xs=rh x:=by
 rw[aK]at h;simp only[Tryz.underlying83,dW]at h;obtain⟨v,_,rfl,u,y,_,rfl,h1,rfl⟩:=h;obtain⟨c,rfl⟩:=cb u;obtain⟨s,rfl⟩:=GK h1;exact⟨⟨c,s⟩,rfl⟩
def Qf{m:Nat}{xs:List AV}(h:aK Tryz.prog (m+5) 134 xs):∃x:Mem,xs=io x:=by
 rw[aK]at h;simp only[Tryz.underlying134,dW]at h;obtain⟨v,_,rfl,u,y,_,rfl,h1,rfl⟩:=h;obtain⟨c,rfl⟩:=cb u;obtain⟨s,rfl⟩:=GK h1;exact⟨⟨c,s⟩,rfl⟩
def P9{m:Nat}{xs:List AV}(h:aK Tryz.prog (m+6) 31 xs):∃l:List bI,xs=[.arr (eA l)]/\l.length<=17592186044416:=by
 obtain⟨l,h1,h2,_⟩:=jV (f:=rh) (R:=fun _=>True) (fun h=>by rw[aK]at h;simp only[Tryz.underlying31]at h;exact h) (fun _ u=>by obtain⟨s,hs⟩:=P8 u;exact⟨s,hs,trivial⟩) h;exact⟨l,h1,h2⟩
def GI{m:Nat}{xs:List AV}(h:aK Tryz.prog (m+6) 33 xs):∃l:List Mem,xs=[.arr (cw l)]/\l.length<=17592186044416:=by
 obtain⟨l,h1,h2,_⟩:=jV (f:=io) (R:=fun _=>True) (fun h=>by rw[aK]at h;simp only[Tryz.underlying33]at h;exact h) (fun _ u=>by obtain⟨s,hs⟩:=Qf u;exact⟨s,hs,trivial⟩) h;exact⟨l,h1,h2⟩
def Qd{m:Nat}{xs:List AV}(h:aK Tryz.prog (m+7) 71 xs):∃x:Lck,xs=jM x/\x.mem.length<=17592186044416:=by
 rw[aK]at h;simp only[Tryz.underlying71,dW]at h;obtain⟨y,_,rfl,u,z,_,rfl,h1,D,_,rfl,h2,G,_,rfl,h3,I,_,rfl,h4,rfl⟩:=h;obtain⟨a,rfl⟩:=cb u;obtain⟨b,rfl⟩:=cb h1;obtain⟨c,rfl⟩:=cb h2;obtain⟨d,rfl⟩:=cb h3;obtain⟨l,rfl,v⟩:=GI h4;exact⟨⟨a,b,c,d,l⟩,rfl,v⟩
def Qe{m:Nat}{xs:List AV}(h:aK Tryz.prog (m+8) 32 xs):∃l:List Lck,xs=[.arr (dO l)]/\l.length<=17592186044416/\∀L∈l,L.mem.length<=17592186044416:=
 jV (f:=jM) (fun h=>by rw[aK]at h;simp only[Tryz.underlying32]at h;exact h) (fun _=>Qd) h
def Qk{m:Nat}{xs:List AV}(h:aK Tryz.prog (m+9) 35 xs):∃p:Pln,xs=ui p/\ml p:=by
 rw[aK]at h;simp only[Tryz.underlying35,dW]at h;obtain⟨G,_,rfl,v,I,_,rfl,h1,J,_,rfl,h2,U,_,rfl,h3,rfl⟩:=h;obtain⟨a,rfl,y⟩:=P9 v;obtain⟨b,rfl,z,u⟩:=Qe h1;obtain⟨c,rfl,D⟩:=GI h2;obtain⟨d,rfl,hd⟩:=o6 h3;exact⟨⟨a,b,c,d⟩,rfl,y,z,u,D,hd⟩
set_option maxHeartbeats 16000000
def z6(i n:Int):Cl ah 142 [.t (.int .i64 i),.t (.int .i64 n)] [] (.t (.bool (decide (0<=i)&&decide (i <n)))) []:=by
 refine Cl.aq rfl Tryz.func142 rfl rfl rfl ?_;exact ae
def ww(n:Int){m:Int}(hm:m=1000\/(m=1000000000\/m=9999)):Cl ah 147 [.t (.int .i64 n),.t (.int .i64 m)] [] (.t (.bool (cH n m))) []:=by
 unfold cH;rcases hm with rfl|rfl|rfl
 ·
  have u:IntKind.i64.wrap (-1000)= -1000:=by decide
  refine Cl.aq rfl Tryz.func147 rfl rfl rfl ?_;exact ae
 ·
  have u:IntKind.i64.wrap (-1000000000)= -1000000000:=by decide
  refine Cl.aq rfl Tryz.func147 rfl rfl rfl ?_;exact ae
 ·
  have u:IntKind.i64.wrap (-9999)= -9999:=by decide
  refine Cl.aq rfl Tryz.func147 rfl rfl rfl ?_;exact ae
def JU{a:dU}{c:Int}(hl:a.eff.delta.length<=140737488351232):Cl ah 194 [.t (.agg (pz a)),.t (.int .i64 c)] [] (.t (.int .i64 (dJ a.eff.delta c))) []:=by
 have y:=q_ a.eff.delta;have e:pz a=[.int .i64 a.op,ay a.args,.arr (jb a.eff.delta),.arr (iT a.eff.hold),.arr (iW a.eff.cg)]:=rfl;rw[e];refine Cl.aq rfl Tryz.func194 rfl rfl rfl ?_;refine ak ?_;refine ax.ind (fun q:Nat=>[(11,.t (.int .i64 (q:Int)))]) (fun q=>q<=a.eff.delta.length/\dJ a.eff.delta c=dJ (a.eff.delta.drop q) c) (fun q=>a.eff.delta.length - q) 0 rfl ⟨by omega,rfl⟩ (fun q z=>?_);obtain⟨h1,h2⟩:=z;rw[h2];rcases Nat.lt_or_ge q a.eff.delta.length with h3|h3
 ·
  obtain⟨x,v⟩:=aj h3;have D:=pO v;rw[bK v,BR];by_cases u:x.cell=c
  ·
   rw[if_pos u];exact ae
  ·
   rw[if_neg u];exact ae
 ·
  rw[List.drop_of_length_le h3];exact ae
end Go.Proofs.YtjolgbkkocjpgaaGreatDoor
