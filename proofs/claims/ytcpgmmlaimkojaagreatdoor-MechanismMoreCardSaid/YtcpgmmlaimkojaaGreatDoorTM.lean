/- Models as trees. No condition. -/
import Derived.Test.YtcpgmmlaimkojaaGreatDoorWQ
import Derived.Test.YtcpgmmlaimkojaaGreatDoorTE
import Derived.Test.YtcpgmmlaimkojaaGreatDoorTS
import Derived.Test.YtcpgmmlaimkojaaGreatDoorTLX
import Derived.Test.YtcpgmmlaimkojaaGreatDoorTP
set_option linter.unusedSimpArgs false
set_option linter.unusedVariables false
set_option linter.unusedSectionVars false
namespace Go.Proofs.YtcpgmmlaimkojaaGreatDoor
open Go.RowKit
set_option maxRecDepth 100000
def tbC (t:Tb):List AV:=[.str t.name,.int .i64 t.kind,intsA t.cols,.int .i64 t.lo,.int .i64 t.hi,.int .i64 t.first]
def tbE (l:List Tb):List (List AV):=l.map tbC
def nmE (l:List ByteArray):List (List AV):=l.map fun s=>[.str s]
def tmC (t:Tm):List AV:=[.int .i64 t.cell,.int .i64 t.factor]
def tmE (l:List Tm):List (List AV):=l.map tmC
def rwC (r:Rw):List AV:=[.arr (tmE r.terms),.int .i64 r.bound]
def rwE (l:List Rw):List (List AV):=l.map rwC
def cnC (c:Cn):List AV:=[.int .i64 c.kind,.int .i64 c.fam,.arr (tmE c.row.terms),.int .i64 c.row.bound,.int .i64 c.first,.int .i64 c.size]
def cnE (l:List Cn):List (List AV):=l.map cnC
def opC (o:Opn):List AV:=[.str o.name,.bool o.ord,intsA o.sorts]
def opE (l:List Opn):List (List AV):=l.map opC
def chC (c:Chg):List AV:=[.int .i64 c.cell,.int .i64 c.add]
def chE (l:List Chg):List (List AV):=l.map chC
def udC (u:Upd):List AV:=[.int .i64 u.kind,.int .i64 u.cell,.int .i64 u.value]
def udE (l:List Upd):List (List AV):=l.map udC
def efC (e:Eff):List AV:=[.arr (chE e.delta),.arr (rwE e.hold),.arr (udE e.ups)]
def acC (a:Actn):List AV:=[.int .i64 a.op,intsA a.args,.arr (chE a.eff.delta),.arr (rwE a.eff.hold),.arr (udE a.eff.ups)]
def acE (l:List Actn):List (List AV):=l.map acC
def hdC (h:Hde):List AV:=[.int .i64 h.table,.int .i64 h.col,.int .i64 h.to]
def hdE (l:List Hde):List (List AV):=l.map hdC
def rgE (l:List (Int×Int)):List (List AV):=l.map fun r=>[.int .i64 r.1,.int .i64 r.2]
def mdC (m:Md):List AV:=[intsA m.sorts,.arr (tbE m.tables),.arr (nmE m.fams),.arr (cnE m.cons),.arr (opE m.ops),.arr (acE m.acts),.arr (hdE m.hides)]
def mdA (m:Md):AV:=.agg (mdC m)
theorem map_get {α:Type} {f:α→List AV} {l:List α} {k:Nat} {x:α} (h:l[k]?=some x):(l.map f)[k]?=some (f x):=by rw [List.getElem?_map,h];rfl
theorem tbE_len (l:List Tb):(tbE l).length=l.length:=List.length_map _
theorem nmE_len (l:List ByteArray):(nmE l).length=l.length:=List.length_map _
theorem tmE_len (l:List Tm):(tmE l).length=l.length:=List.length_map _
theorem rwE_len (l:List Rw):(rwE l).length=l.length:=List.length_map _
theorem cnE_len (l:List Cn):(cnE l).length=l.length:=List.length_map _
theorem opE_len (l:List Opn):(opE l).length=l.length:=List.length_map _
theorem chE_len (l:List Chg):(chE l).length=l.length:=List.length_map _
theorem udE_len (l:List Upd):(udE l).length=l.length:=List.length_map _
theorem acE_len (l:List Actn):(acE l).length=l.length:=List.length_map _
theorem hdE_len (l:List Hde):(hdE l).length=l.length:=List.length_map _
theorem rgE_len (l:List (Int×Int)):(rgE l).length=l.length:=List.length_map _
theorem tbE_get {l:List Tb} {k:Nat} {t:Tb} (h:l[k]?=some t):(tbE l)[k]?=some [.str t.name,.int .i64 t.kind,intsA t.cols,.int .i64 t.lo,.int .i64 t.hi,.int .i64 t.first]:=map_get h
theorem nmE_get {l:List ByteArray} {k:Nat} {s:ByteArray} (h:l[k]?=some s):(nmE l)[k]?=some [.str s]:=map_get (f:=fun s=>[.str s]) h
theorem tmE_get {l:List Tm} {k:Nat} {t:Tm} (h:l[k]?=some t):(tmE l)[k]?=some [.int .i64 t.cell,.int .i64 t.factor]:=map_get h
theorem rwE_get {l:List Rw} {k:Nat} {r:Rw} (h:l[k]?=some r):(rwE l)[k]?=some [.arr (tmE r.terms),.int .i64 r.bound]:=map_get h
theorem cnE_get {l:List Cn} {k:Nat} {c:Cn} (h:l[k]?=some c):(cnE l)[k]?=some [.int .i64 c.kind,.int .i64 c.fam,.arr (tmE c.row.terms),.int .i64 c.row.bound,.int .i64 c.first,.int .i64 c.size]:=map_get h
theorem opE_get {l:List Opn} {k:Nat} {o:Opn} (h:l[k]?=some o):(opE l)[k]?=some [.str o.name,.bool o.ord,intsA o.sorts]:=map_get h
theorem chE_get {l:List Chg} {k:Nat} {c:Chg} (h:l[k]?=some c):(chE l)[k]?=some [.int .i64 c.cell,.int .i64 c.add]:=map_get h
theorem udE_get {l:List Upd} {k:Nat} {u:Upd} (h:l[k]?=some u):(udE l)[k]?=some [.int .i64 u.kind,.int .i64 u.cell,.int .i64 u.value]:=map_get h
theorem acE_get {l:List Actn} {k:Nat} {a:Actn} (h:l[k]?=some a):(acE l)[k]?=some [.int .i64 a.op,intsA a.args,.arr (chE a.eff.delta),.arr (rwE a.eff.hold),.arr (udE a.eff.ups)]:=map_get h
theorem hdE_get {l:List Hde} {k:Nat} {h:Hde} (e:l[k]?=some h):(hdE l)[k]?=some [.int .i64 h.table,.int .i64 h.col,.int .i64 h.to]:=map_get e
theorem rgE_get {l:List (Int×Int)} {k:Nat} {r:Int×Int} (e:l[k]?=some r):(rgE l)[k]?=some [.int .i64 r.1,.int .i64 r.2]:=map_get (f:=fun r:Int×Int=>[.int .i64 r.1,.int .i64 r.2]) e
structure MdL (m:Md):Prop where
 sorts:m.sorts.length≤17592186044416
 tables:m.tables.length≤17592186044416
 cols:∀ t∈m.tables,t.cols.length≤17592186044416
 fams:m.fams.length≤17592186044416
 cons:m.cons.length≤17592186044416
 terms:∀ c∈m.cons,c.row.terms.length≤17592186044416
 ops:m.ops.length≤17592186044416
 osorts:∀ o∈m.ops,o.sorts.length≤17592186044416
 acts:m.acts.length≤17592186044416
 args:∀ a∈m.acts,a.args.length≤17592186044416
 delta:∀ a∈m.acts,a.eff.delta.length≤17592186044416
 hold:∀ a∈m.acts,a.eff.hold.length≤17592186044416
 hterms:∀ a∈m.acts,∀ r∈a.eff.hold,r.terms.length≤17592186044416
 ups:∀ a∈m.acts,a.eff.ups.length≤17592186044416
 hides:m.hides.length≤17592186044416
 ucell:∀ a∈m.acts,∀ u∈a.eff.ups,u.cell≤9223372036854775807
theorem shp_list {m:Nat} {xs:List AV} {T E:TypeId} {α:Type} {f:α→List AV} {R:α→Prop} (hT:Shp Tryz.prog (m+1) T xs→∃ es:List (List AV),xs=[.arr es]∧es.length≤17592186044416∧∀ c∈es,Shp Tryz.prog m E c) (hE:∀ c,Shp Tryz.prog m E c→∃ a,c=f a∧R a) (h:Shp Tryz.prog (m+1) T xs):∃ l:List α,xs=[.arr (l.map f)]∧l.length≤17592186044416∧∀ a∈l,R a:=by
 obtain ⟨es,rfl,hl,he⟩:=hT h
 obtain ⟨l,rfl,hb⟩:=list_of (f:=f) (R:=R) fun c hc=>hE c (he c hc)
 exact ⟨l,rfl,by simpa using hl,hb⟩
theorem shpStr {m:Nat} {xs:List AV} (h:Shp Tryz.prog (m+1) 9 xs):∃ s,xs=[.str s]:=by
 simp only [Shp,Tryz.underlying9] at h
 obtain ⟨s,h,_⟩:=h
 exact ⟨s,h⟩
theorem shp_intb {m:Nat} {xs:List AV} (h:Shp Tryz.prog (m+1) 3 xs):∃ k:Int,xs=[.int .i64 k]∧k≤9223372036854775807:=by
 simp only [Shp,Tryz.underlying3] at h
 obtain ⟨k,h,hw⟩:=h
 simp only [Lit.wf,Bool.and_eq_true,decide_eq_true_eq] at hw
 exact ⟨k,h,Int.le_trans hw.2 (by decide)⟩
theorem shp_range {m:Nat} {xs:List AV} (h:Shp Tryz.prog (m+2) 125 xs):∃ a b:Int,xs=[.int .i64 a,.int .i64 b]:=by
 rw [Shp] at h
 simp only [Tryz.underlying125,ShpF] at h
 obtain ⟨y0,_,rfl,h0,y1,_,rfl,h1,rfl⟩:=h
 obtain ⟨a,rfl⟩:=shp_int h0
 obtain ⟨b,rfl⟩:=shp_int h1
 exact ⟨a,b,rfl⟩
theorem shp_table {m:Nat} {xs:List AV} (h:Shp Tryz.prog (m+3) 127 xs):∃ t:Tb,xs=tbC t∧t.cols.length≤17592186044416:=by
 rw [Shp] at h
 simp only [Tryz.underlying127,ShpF] at h
 obtain ⟨y0,_,rfl,h0,y1,_,rfl,h1,y2,_,rfl,h2,y3,_,rfl,h3,y4,_,rfl,h4,rfl⟩:=h
 obtain ⟨s,rfl⟩:=shpStr h0
 obtain ⟨k,rfl⟩:=shp_int h1
 obtain ⟨c,rfl,hc⟩:=shp_ints h2
 obtain ⟨a,b,rfl⟩:=shp_range h3
 obtain ⟨f,rfl⟩:=shp_int h4
 exact ⟨⟨s,k,c,a,b,f⟩,rfl,hc⟩
theorem shp_tables {m:Nat} {xs:List AV} (h:Shp Tryz.prog (m+4) 23 xs):∃ l:List Tb,xs=[.arr (tbE l)]∧l.length≤17592186044416∧∀ t∈l,t.cols.length≤17592186044416:=
 shp_list (f:=tbC) (fun h=>by rw [Shp] at h;simp only [Tryz.underlying23] at h;exact h) (fun _=>shp_table) h
theorem shp_strs {m:Nat} {xs:List AV} (h:Shp Tryz.prog (m+2) 24 xs):∃ l:List ByteArray,xs=[.arr (nmE l)]∧l.length≤17592186044416:=by
 obtain ⟨l,h1,h2,_⟩:=shp_list (f:=fun s=>[.str s]) (R:=fun _:ByteArray=>True) (fun h=>by rw [Shp] at h;simp only [Tryz.underlying24] at h;exact h) (fun _ hc=>by obtain ⟨s,hs⟩:=shpStr hc;exact ⟨s,hs,trivial⟩) h
 exact ⟨l,h1,h2⟩
theorem shp_term {m:Nat} {xs:List AV} (h:Shp Tryz.prog (m+2) 122 xs):∃ t:Tm,xs=tmC t:=by
 rw [Shp] at h
 simp only [Tryz.underlying122,ShpF] at h
 obtain ⟨y0,_,rfl,h0,y1,_,rfl,h1,rfl⟩:=h
 obtain ⟨a,rfl⟩:=shp_int h0
 obtain ⟨b,rfl⟩:=shp_int h1
 exact ⟨⟨a,b⟩,rfl⟩
theorem shp_terms {m:Nat} {xs:List AV} (h:Shp Tryz.prog (m+3) 91 xs):∃ l:List Tm,xs=[.arr (tmE l)]∧l.length≤17592186044416:=by
 obtain ⟨l,h1,h2,_⟩:=shp_list (f:=tmC) (R:=fun _=>True) (fun h=>by rw [Shp] at h;simp only [Tryz.underlying91] at h;exact h) (fun _ hc=>by obtain ⟨s,hs⟩:=shp_term hc;exact ⟨s,hs,trivial⟩) h
 exact ⟨l,h1,h2⟩
theorem shp_row {m:Nat} {xs:List AV} (h:Shp Tryz.prog (m+4) 93 xs):∃ r:Rw,xs=rwC r∧r.terms.length≤17592186044416:=by
 rw [Shp] at h
 simp only [Tryz.underlying93,ShpF] at h
 obtain ⟨y0,_,rfl,h0,y1,_,rfl,h1,rfl⟩:=h
 obtain ⟨l,rfl,hl⟩:=shp_terms h0
 obtain ⟨b,rfl⟩:=shp_int h1
 exact ⟨⟨l,b⟩,rfl,hl⟩
theorem shp_con {m:Nat} {xs:List AV} (h:Shp Tryz.prog (m+5) 95 xs):∃ c:Cn,xs=cnC c∧c.row.terms.length≤17592186044416:=by
 rw [Shp] at h
 simp only [Tryz.underlying95,ShpF] at h
 obtain ⟨y0,_,rfl,h0,y1,_,rfl,h1,y2,_,rfl,h2,y3,_,rfl,h3,y4,_,rfl,h4,rfl⟩:=h
 obtain ⟨k,rfl⟩:=shp_int h0
 obtain ⟨f,rfl⟩:=shp_int h1
 obtain ⟨r,rfl,hr⟩:=shp_row h2
 obtain ⟨a,rfl⟩:=shp_int h3
 obtain ⟨b,rfl⟩:=shp_int h4
 exact ⟨⟨k,f,r,a,b⟩,rfl,hr⟩
theorem shp_cons {m:Nat} {xs:List AV} (h:Shp Tryz.prog (m+6) 25 xs):∃ l:List Cn,xs=[.arr (cnE l)]∧l.length≤17592186044416∧∀ c∈l,c.row.terms.length≤17592186044416:=
 shp_list (f:=cnC) (fun h=>by rw [Shp] at h;simp only [Tryz.underlying25] at h;exact h) (fun _=>shp_con) h
theorem shp_op {m:Nat} {xs:List AV} (h:Shp Tryz.prog (m+3) 98 xs):∃ o:Opn,xs=opC o∧o.sorts.length≤17592186044416:=by
 rw [Shp] at h
 simp only [Tryz.underlying98,ShpF] at h
 obtain ⟨y0,_,rfl,h0,y1,_,rfl,h1,y2,_,rfl,h2,rfl⟩:=h
 obtain ⟨s,rfl⟩:=shpStr h0
 obtain ⟨b,rfl⟩:=shp_bool h1
 obtain ⟨l,rfl,hl⟩:=shp_ints h2
 exact ⟨⟨s,b,l⟩,rfl,hl⟩
theorem shp_ops {m:Nat} {xs:List AV} (h:Shp Tryz.prog (m+4) 26 xs):∃ l:List Opn,xs=[.arr (opE l)]∧l.length≤17592186044416∧∀ o∈l,o.sorts.length≤17592186044416:=
 shp_list (f:=opC) (fun h=>by rw [Shp] at h;simp only [Tryz.underlying26] at h;exact h) (fun _=>shp_op) h
theorem shp_change {m:Nat} {xs:List AV} (h:Shp Tryz.prog (m+2) 132 xs):∃ t:Chg,xs=chC t:=by
 rw [Shp] at h
 simp only [Tryz.underlying132,ShpF] at h
 obtain ⟨y0,_,rfl,h0,y1,_,rfl,h1,rfl⟩:=h
 obtain ⟨a,rfl⟩:=shp_int h0
 obtain ⟨b,rfl⟩:=shp_int h1
 exact ⟨⟨a,b⟩,rfl⟩
theorem shp_changes {m:Nat} {xs:List AV} (h:Shp Tryz.prog (m+3) 60 xs):∃ l:List Chg,xs=[.arr (chE l)]∧l.length≤17592186044416:=by
 obtain ⟨l,h1,h2,_⟩:=shp_list (f:=chC) (R:=fun _=>True) (fun h=>by rw [Shp] at h;simp only [Tryz.underlying60] at h;exact h) (fun _ hc=>by obtain ⟨s,hs⟩:=shp_change hc;exact ⟨s,hs,trivial⟩) h
 exact ⟨l,h1,h2⟩
theorem shp_upd {m:Nat} {xs:List AV} (h:Shp Tryz.prog (m+2) 180 xs):∃ t:Upd,xs=udC t∧t.cell≤9223372036854775807:=by
 rw [Shp] at h
 simp only [Tryz.underlying180,ShpF] at h
 obtain ⟨y0,_,rfl,h0,y1,_,rfl,h1,y2,_,rfl,h2,rfl⟩:=h
 obtain ⟨a,rfl⟩:=shp_int h0
 obtain ⟨b,rfl,hb⟩:=shp_intb h1
 obtain ⟨c,rfl⟩:=shp_int h2
 exact ⟨⟨a,b,c⟩,rfl,hb⟩
theorem shp_upds {m:Nat} {xs:List AV} (h:Shp Tryz.prog (m+3) 62 xs):∃ l:List Upd,xs=[.arr (udE l)]∧l.length≤17592186044416∧∀ u∈l,u.cell≤9223372036854775807:=
 shp_list (f:=udC) (fun h=>by rw [Shp] at h;simp only [Tryz.underlying62] at h;exact h) (fun _=>shp_upd) h
theorem shp_rows {m:Nat} {xs:List AV} (h:Shp Tryz.prog (m+5) 61 xs):∃ l:List Rw,xs=[.arr (rwE l)]∧l.length≤17592186044416∧∀ r∈l,r.terms.length≤17592186044416:=
 shp_list (f:=rwC) (fun h=>by rw [Shp] at h;simp only [Tryz.underlying61] at h;exact h) (fun _=>shp_row) h
structure EfL (e:Eff):Prop where
 delta:e.delta.length≤17592186044416
 hold:e.hold.length≤17592186044416
 hterms:∀ r∈e.hold,r.terms.length≤17592186044416
 ups:e.ups.length≤17592186044416
 cell:∀ u∈e.ups,u.cell≤9223372036854775807
theorem shp_effect {m:Nat} {xs:List AV} (h:Shp Tryz.prog (m+6) 64 xs):∃ e:Eff,xs=efC e∧EfL e:=by
 rw [Shp] at h
 simp only [Tryz.underlying64,ShpF] at h
 obtain ⟨y0,_,rfl,h0,y1,_,rfl,h1,y2,_,rfl,h2,rfl⟩:=h
 obtain ⟨a,rfl,ha⟩:=shp_changes h0
 obtain ⟨b,rfl,hb,hb2⟩:=shp_rows h1
 obtain ⟨c,rfl,hc,hc2⟩:=shp_upds h2
 exact ⟨⟨a,b,c⟩,rfl,ha,hb,hb2,hc,hc2⟩
theorem shp_action {m:Nat} {xs:List AV} (h:Shp Tryz.prog (m+7) 66 xs):∃ a:Actn,xs=acC a∧(a.args.length≤17592186044416∧EfL a.eff):=by
 rw [Shp] at h
 simp only [Tryz.underlying66,ShpF] at h
 obtain ⟨y0,_,rfl,h0,y1,_,rfl,h1,y2,_,rfl,h2,rfl⟩:=h
 obtain ⟨a,rfl⟩:=shp_int h0
 obtain ⟨b,rfl,hb⟩:=shp_ints h1
 obtain ⟨c,rfl,hc⟩:=shp_effect h2
 exact ⟨⟨a,b,c⟩,rfl,hb,hc⟩
theorem shp_actions {m:Nat} {xs:List AV} (h:Shp Tryz.prog (m+8) 27 xs):∃ l:List Actn,xs=[.arr (acE l)]∧l.length≤17592186044416∧∀ a∈l,a.args.length≤17592186044416∧EfL a.eff:=
 shp_list (f:=acC) (fun h=>by rw [Shp] at h;simp only [Tryz.underlying27] at h;exact h) (fun _=>shp_action) h
theorem shp_hide {m:Nat} {xs:List AV} (h:Shp Tryz.prog (m+2) 160 xs):∃ t:Hde,xs=hdC t:=by
 rw [Shp] at h
 simp only [Tryz.underlying160,ShpF] at h
 obtain ⟨y0,_,rfl,h0,y1,_,rfl,h1,y2,_,rfl,h2,rfl⟩:=h
 obtain ⟨a,rfl⟩:=shp_int h0
 obtain ⟨b,rfl⟩:=shp_int h1
 obtain ⟨c,rfl⟩:=shp_int h2
 exact ⟨⟨a,b,c⟩,rfl⟩
theorem shp_hides {m:Nat} {xs:List AV} (h:Shp Tryz.prog (m+3) 28 xs):∃ l:List Hde,xs=[.arr (hdE l)]∧l.length≤17592186044416:=by
 obtain ⟨l,h1,h2,_⟩:=shp_list (f:=hdC) (R:=fun _=>True) (fun h=>by rw [Shp] at h;simp only [Tryz.underlying28] at h;exact h) (fun _ hc=>by obtain ⟨s,hs⟩:=shp_hide hc;exact ⟨s,hs,trivial⟩) h
 exact ⟨l,h1,h2⟩
theorem shp_model {m:Nat} {xs:List AV} (h:Shp Tryz.prog (m+9) 30 xs):∃ d:Md,xs=mdC d∧MdL d:=by
 rw [Shp] at h
 simp only [Tryz.underlying30,ShpF] at h
 obtain ⟨y0,_,rfl,h0,y1,_,rfl,h1,y2,_,rfl,h2,y3,_,rfl,h3,y4,_,rfl,h4,y5,_,rfl,h5,y6,_,rfl,h6,rfl⟩:=h
 obtain ⟨a,rfl,ha⟩:=shp_ints h0
 obtain ⟨b,rfl,hb,hb2⟩:=shp_tables h1
 obtain ⟨c,rfl,hc⟩:=shp_strs h2
 obtain ⟨d,rfl,hd,hd2⟩:=shp_cons h3
 obtain ⟨e,rfl,he,he2⟩:=shp_ops h4
 obtain ⟨f,rfl,hf,hf2⟩:=shp_actions h5
 obtain ⟨g,rfl,hg⟩:=shp_hides h6
 exact ⟨⟨a,b,c,d,e,f,g⟩,rfl,ha,hb,hb2,hc,hd,hd2,he,he2,hf,fun x hx=>(hf2 x hx).1,fun x hx=>(hf2 x hx).2.delta,fun x hx=>(hf2 x hx).2.hold,fun x hx=>(hf2 x hx).2.hterms,fun x hx=>(hf2 x hx).2.ups,hg,fun x hx=>(hf2 x hx).2.cell⟩
theorem arg_model {m:Nat} {x:AV} (h:Arg Tryz.prog (m+9) 30 x):∃ d:Md,x=mdA d∧MdL d:=by
 obtain ⟨xs,h1,h2⟩:=h
 obtain ⟨d,rfl,hd⟩:=shp_model h1
 simp only [Tryz.underlying30] at h2
 exact ⟨d,h2,hd⟩
end Go.Proofs.YtcpgmmlaimkojaaGreatDoor
namespace Go.Proofs.YtcpgmmlaimkojaaGreatDoor
open Go.RowKit
set_option maxRecDepth 100000
set_option maxHeartbeats 16000000
theorem cwithin_c (n lo hi:Int):Cl cfg 109 [.t (.int .i64 n),.t (.int .i64 lo),.t (.int .i64 hi)] [] (.t (.bool (decide (lo≤n) && decide (n≤hi)))) []:=by
 refine Cl.of_body rfl Tryz.func109 rfl rfl rfl ?_
 exact drv
theorem cstrict_c (t:Tb):Cl cfg 112 [.t (.agg (tbC t))] [] (.t (.bool (strictK t.kind))) []:=by
 have e:tbC t=[.str t.name,.int .i64 t.kind,intsA t.cols,.int .i64 t.lo,.int .i64 t.hi,.int .i64 t.first]:=rfl
 rw [e]
 refine Cl.of_body rfl Tryz.func112 rfl rfl rfl ?_
 unfold strictK
 exact drv
theorem csized1_c (n:Int):Cl cfg 139 [.t (.int .i64 n)] [] (.t (.bool (!(decide (1≤n) && decide (n≤6))))) []:=by
 have k:=cwithin_c n 1 6
 refine Cl.of_body rfl Tryz.func139 rfl rfl rfl ?_
 generalize (decide (1≤n) && decide (n≤6))=b at *
 cases b with
 | true=>
  exact drv
 | false=>
  exact drv
theorem csized_c {S:List Int} (hS:S.length≤140737488351232):Cl cfg 107 [.t (intsA S)] [] (.t (.bool (soundB S))) []:=by
 have k:=concsz_c (C:=S) (p:=fun n=>!(decide (1≤n) && decide (n≤6))) hS (fun n _=>csized1_c n)
 have e:soundB S=!(S.any fun n=>!(decide (1≤n) && decide (n≤6))):=by
  unfold soundB
  rw [Bool.eq_iff_iff,List.all_eq_true,Bool.not_eq_true',← Bool.not_eq_true,List.any_eq_true]
  constructor
  ·rintro h ⟨x,hx,hb⟩
   rw [h x hx] at hb
   cases hb
  ·intro h x hx
   rw [← Bool.not_eq_false]
   intro hf
   exact h ⟨x,hx,by rw [hf];rfl⟩
 rw [e]
 refine Cl.of_body rfl Tryz.func107 rfl rfl rfl ?_
 generalize (S.any fun n=>!(decide (1≤n) && decide (n≤6)))=b at *
 cases b with
 | true=>
  exact drv
 | false=>
  exact drv
theorem call3_c (a b c:Bool):Cl cfg 106 [.t (.arr [[.bool a],[.bool b],[.bool c]])] [] (.t (.bool (a && (b && c)))) []:=by
 cases a <;> cases b <;> cases c <;> exact ⟨20,by kernel_rfl⟩
theorem call5_c (a b c d e:Bool):Cl cfg 106 [.t (.arr [[.bool a],[.bool b],[.bool c],[.bool d],[.bool e]])] [] (.t (.bool (a && (b && (c && (d && e)))))) []:=by
 cases a <;> cases b <;> cases c <;> cases d <;> cases e <;> exact ⟨20,by kernel_rfl⟩
theorem take_colm {S C:List Int} (hc:C.all (colOk S)=true) (q:Nat):(C.take q).all (colOk S)=true:=List.all_eq_true.2 fun x hx=>List.all_eq_true.1 hc x (List.mem_of_mem_take hx)
theorem cwidth_c {S C:List Int} (hS:S.length≤1000) (hs:soundB S=true) (hc:C.all (colOk S)=true) (hl:C.length≤3):Cl cfg 113 [.t (intsA S),.t (intsA C)] [] (.t (.int .i64 (prodC S C))) []:=by
 have hSE:=intsE_len S
 have hCE:=intsE_len C
 refine Cl.of_body rfl Tryz.func113 rfl rfl rfl ?_
 refine drvR ?_
 refine EvL.ind (fun q:Nat=>[(5,.t (.int .i64 (prodC S (C.take q)))),(10,.t (.int .i64 (q:Int)))]) (fun q=>q≤C.length) (fun q=>C.length - q) 0 rfl (by omega) (fun q h1=>?_)
 rcases Nat.lt_or_ge q C.length with h3|h3
 ·
  obtain ⟨c,hcq⟩:=get_of_lt h3
  have hg:=intsE_get hcq
  have hco:=List.all_eq_true.1 hc c (List.mem_of_getElem? hcq)
  unfold colOk at hco
  simp only [Bool.and_eq_true,decide_eq_true_eq] at hco
  obtain ⟨k,rfl⟩:∃ k:Nat,c=(k:Int):=⟨c.toNat,by omega⟩
  obtain ⟨x,hx⟩:=get_of_lt (xs:=S) (k:=k) (by omega)
  have hgx:=intsE_get hx
  have hb:=prodC_bnd hs (take_colm hc q) (by rw [List.length_take];omega)
  have hb1:=prodC_bnd hs (take_colm hc (q+1)) (by rw [List.length_take];omega)
  have hsn:=prodC_snoc (S:=S) hcq
  rw [show ((k:Int)).toNat=k by omega,List.getD_eq_getElem?_getD,hx,Option.getD_some] at hsn
  rw [hsn] at hb1
  generalize prodC S (C.take q)=P at *
  refine drvR ?_
  exact ⟨q+1,by rw [hsn];rfl,rfl,by omega,by omega⟩
 ·
  obtain rfl:q=C.length:=by omega
  rw [List.take_length]
  exact drv
end Go.Proofs.YtcpgmmlaimkojaaGreatDoor
namespace Go.Proofs.YtcpgmmlaimkojaaGreatDoor
open Go.RowKit
set_option maxRecDepth 100000
set_option maxHeartbeats 16000000
theorem rng_g:cfg.P.eqGuardType cfg.P.depth 125=false:=by kernel_rfl
theorem rng_eq2 (a b a' b':Int):eqC cfg.P 20 125 [.int .i64 a,.int .i64 b] [.int .i64 a',.int .i64 b']=some (decide (a=a') && (decide (b=b') && true)):=by kernel_rfl
theorem cranged_c (t:Tb):Cl cfg 111 [.t (.agg (tbC t))] [] (.t (.bool (rngC t))) []:=by
 have e:tbC t=[.str t.name,.int .i64 t.kind,intsA t.cols,.int .i64 t.lo,.int .i64 t.hi,.int .i64 t.first]:=rfl
 rw [e]
 refine Cl.of_body rfl Tryz.func111 rfl rfl rfl ?_
 unfold rngC
 repeat' (first
|(with_reducible first|apply EvK.seq|apply EvK.block)
|((with_reducible apply EvK.text);(try case hm=>exact rfl))
|(with_reducible first|apply EvK.skip|apply EvK.ret|apply thenK_n|apply thenK_r|apply blockK_n|apply blockK_r)
|((with_reducible apply EvK.cond_t);(case hc=>exact rfl))
|((with_reducible apply EvK.cond_f);(case hc=>exact rfl))
|((with_reducible apply EvO.spd) <;> intro hq)
|((with_reducible apply EvO.spd_y) <;> intro hq)
|(with_reducible apply EvO.nilT)
|((with_reducible apply EvO.gf);(case hW=>exact rfl))
|((with_reducible apply EvO.gt0);(case hW=>exact rfl);(case hx=>exact opq))
|((with_reducible apply EvO.u0);(case hx=>first
|((with_reducible apply OpR.eqs);(case hx|hy=>exact rfl);(case hg=>exact rng_g);(case ht=>exact rfl);(case hr=>exact rng_eq2 _ _ _ _))
|exact opq))
|fail)
 all_goals (refine fin_b (.inr rfl) rfl ?_;first|(simp_all;done)|(simp_all;omega))
theorem ccol1_c {S:List Int} {c:Int} (hS:S.length≤1000):Cl cfg 141 [.t (.int .i64 c),.t (.tp [intsA S])] [] (.t (.bool (!colOk S c))) []:=by
 have hSE:=intsE_len S
 refine Cl.of_body rfl Tryz.func141 rfl rfl rfl ?_
 unfold colOk
 exact drv
theorem idxcol_c {C:List Int} {p:Int→Bool} {c:AV} (hl:C.length≤140737488351232) (hp:∀ x∈C,Cl cfg 141 [.t (.int .i64 x),.t c] [] (.t (.bool (p x))) []):Cl cfg 79 [.t (intsA C),.t (.fn (.func 141) 0 [c])] [] (.t (.int .i64 (idxS p C 0))) []:=by
 have hlE:=intsE_len C
 refine Cl.of_body rfl Tryz.func79 rfl rfl rfl ?_
 refine drvR ?_
 refine EvL.ind (fun q:Nat=>[(8,.t (.int .i64 (q:Int)))]) (fun q=>q≤C.length∧idxS p C 0=idxS p (C.drop q) q) (fun q=>C.length - q) 0 rfl (by simp) (fun q hq=>?_)
 obtain ⟨h1,h2⟩:=hq
 rw [h2]
 rcases Nat.lt_or_ge q C.length with h3|h3
 ·
  obtain ⟨e,he⟩:=get_of_lt h3
  have hc:=intsE_get he
  have hpn:=hp e (List.mem_of_getElem? he)
  rw [drop_at he,idxS_cons]
  obtain ⟨b,hb⟩:∃ b,p e=b:=⟨_,rfl⟩
  rw [hb] at hpn ⊢
  cases b with
  | true=>
   exact drv
  | false=>
   exact drv
 ·
  rw [List.drop_of_length_le h3]
  exact drv
theorem concol_c {C:List Int} {p:Int→Bool} {c:AV} (hl:C.length≤140737488351232) (hp:∀ x∈C,Cl cfg 141 [.t (.int .i64 x),.t c] [] (.t (.bool (p x))) []):Cl cfg 32 [.t (intsA C),.t (.fn (.func 141) 0 [c])] [] (.t (.bool (C.any p))) []:=by
 have hi:=idxcol_c hl hp
 rw [← idxS_any p C 0 (by omega)]
 refine Cl.of_body rfl Tryz.func32 rfl rfl rfl ?_
 obtain ⟨n,hn⟩:∃ n,idxS p C 0=n:=⟨_,rfl⟩
 rw [hn] at hi ⊢
 exact drv
theorem any_not {α:Type} (p:α→Bool) (l:List α):l.all p=!(l.any fun x=>!p x):=by
 rw [Bool.eq_iff_iff,List.all_eq_true,Bool.not_eq_true',← Bool.not_eq_true,List.any_eq_true]
 constructor
 ·rintro h ⟨x,hx,hb⟩
  rw [h x hx] at hb
  cases hb
 ·intro h x hx
  rw [← Bool.not_eq_false]
  intro hf
  exact h ⟨x,hx,by rw [hf];rfl⟩
theorem ccolumned_c {S C:List Int} (hS:S.length≤1000) (hC:C.length≤140737488351232):Cl cfg 110 [.t (intsA S),.t (intsA C)] [] (.t (.bool (colmB S C))) []:=by
 have hSE:=intsE_len S
 have hCE:=intsE_len C
 have k:=concol_c (p:=fun c=>!colOk S c) (c:=.tp [intsA S]) hC (fun x _=>ccol1_c hS)
 refine Cl.of_body rfl Tryz.func110 rfl rfl rfl ?_
 unfold colmB
 rw [any_not (colOk S) C]
 generalize (C.any fun c=>!colOk S c)=b at *
 by_cases h3:C.length≤3
 ·
  rw [decide_eq_true h3]
  cases b with
  | true=>
   exact drv
  | false=>
   exact drv
 ·
  rw [decide_eq_false h3]
  exact drv
end Go.Proofs.YtcpgmmlaimkojaaGreatDoor
namespace Go.Proofs.YtcpgmmlaimkojaaGreatDoor
open Go.RowKit
section
variable {g:Cfg} {d:Option (List Nat)} {env:Env} {fr:Fr} {i':Nat}
theorem OpR.mpk {t e i:Nat} {dd:TypeDesc} {m k y:Operand} {ka:AV} {ks ks':List AV} {vs vs':List SV} {x:SV} {fr':Fr} (hs:∀ C:CallF,step g C d i' env fr (.mapUpdate t m k y)=evW g C (drOf d i') env fr (.mapUpdate t m k y)) (hm:mapT g.P t=some (e,dd)) (ha:rd env m=.lm i) (hk:rd env k=.t ka) (hd:keyD dd ka=true) (hy:rd env y=x) (hb:fr[i]?=some (.map false ks vs)) (hf:findA dd ka ks 0=some none) (hks:ks++[ka]=ks') (hvs:vs++[x]=vs') (hfr:LEq (fr.set i (.map false ks' vs')) fr'):OpR g d i' env fr (.mapUpdate t m k y) .dead fr' []:=.r fun C=>by
 rw [hs]
 obtain rfl:=hfr.eq
 subst hks hvs hy
 unfold evW insertE
 simp only [hm,ha,hk,hb,hd,hf]
theorem OpR.mpo {t e i j:Nat} {dd:TypeDesc} {m k y:Operand} {ka:AV} {ks:List AV} {vs vs':List SV} {x:SV} {fr':Fr} (hs:∀ C:CallF,step g C d i' env fr (.mapUpdate t m k y)=evW g C (drOf d i') env fr (.mapUpdate t m k y)) (hm:mapT g.P t=some (e,dd)) (ha:rd env m=.lm i) (hk:rd env k=.t ka) (hd:keyD dd ka=true) (hy:rd env y=x) (hb:fr[i]?=some (.map false ks vs)) (hf:findA dd ka ks 0=some (some j)) (hvs:vs.set j x=vs') (hfr:LEq (fr.set i (.map false ks vs')) fr'):OpR g d i' env fr (.mapUpdate t m k y) .dead fr' []:=.r fun C=>by
 rw [hs]
 obtain rfl:=hfr.eq
 subst hvs hy
 unfold evW insertE
 simp only [hm,ha,hk,hb,hd,hf]
theorem OpR.cpy {t u:Nat} {a y:Operand} {args:Array Operand} {tys:Array TypeId} {x z s:SV} {fr1 fr':Fr} (hs:∀ C:CallF,step g C d i' env fr (.call ⟨.builtin .copy,args,tys⟩)=evW g C (drOf d i') env fr (.call ⟨.builtin .copy,args,tys⟩)) (ha:args.toList=[a,y]) (ht:tys.toList=[t,u]) (hx:rd env a=x) (hy:rd env y=z) (hm:copyE g.P fr t x z=some (s,fr1,[])) (hf:LEq fr1 fr'):OpR g d i' env fr (.call ⟨.builtin .copy,args,tys⟩) s fr' []:=.r fun C=>by
 rw [hs]
 obtain rfl:=hf.eq
 subst hx hy
 unfold evW
 simp only [ha,ht,hm]
end
def strK (N:List ByteArray):List AV:=N.map .str
def intK (N:List Int):List AV:=N.map (.int .i64)
def truV (n:Nat):List SV:=List.replicate n (.t (.bool true))
theorem bae (s u:ByteArray):(s == u)=decide (s=u):=by
 cases s with|mk a=>cases u with|mk b=>
 have h:((ByteArray.mk a) == (ByteArray.mk b))=(a == b):=rfl
 rw [h,Bool.eq_iff_iff]
 simp
theorem findA_str {s:ByteArray}:∀ (N:List ByteArray) (i:Nat),findA .string (.str s) (strK N) i=(if N.any (fun u=>decide (u=s))=true then some (some (i+N.findIdx fun u=>decide (u=s))) else some none)
 | [],i=>rfl
 | u::N,i=>by
  show findA .string (.str s) (.str u::strK N) i=_
  unfold findA
  have e:eqLeaf .string [.str s] [.str u]=some (s == u):=rfl
  rw [e,findA_str N (i+1),List.any_cons,List.findIdx_cons]
  by_cases h:u=s
  ·subst h
   have h2:(u == u)=true:=by rw [bae];simp
   rw [h2]
   simp
  ·have h2:(s == u)=false:=by
    rw [bae]
    exact decide_eq_false fun h'=>h h'.symm
   rw [h2,decide_eq_false h]
   simp only [Bool.false_or,cond_false]
   split
   ·simp;omega
   ·rfl
theorem findA_int {s:Int}:∀ (N:List Int) (i:Nat),findA (.int .i64) (.int .i64 s) (intK N) i=(if N.any (fun u=>decide (u=s))=true then some (some (i+N.findIdx fun u=>decide (u=s))) else some none)
 | [],i=>rfl
 | u::N,i=>by
  show findA (.int .i64) (.int .i64 s) (.int .i64 u::intK N) i=_
  unfold findA
  have e:eqLeaf (.int .i64) [.int .i64 s] [.int .i64 u]=some (decide (s=u)):=rfl
  rw [e,findA_int N (i+1),List.any_cons,List.findIdx_cons]
  by_cases h:u=s
  ·subst h
   rw [decide_eq_true rfl]
   simp
  ·have h2:decide (s=u)=false:=decide_eq_false fun h'=>h h'.symm
   rw [h2,decide_eq_false h]
   simp only [Bool.false_or,cond_false]
   split
   ·simp;omega
   ·rfl
theorem fstr_no {s:ByteArray} {N:List ByteArray} (h:(N.any fun u=>decide (u=s))=false):findA .string (.str s) (strK N) 0=some none:=by rw [findA_str,h];rfl
theorem fstr_yes {s:ByteArray} {N:List ByteArray} (h:(N.any fun u=>decide (u=s))=true):∃ j,findA .string (.str s) (strK N) 0=some (some j)∧j < N.length:=by
 refine ⟨N.findIdx fun u=>decide (u=s),by rw [findA_str,if_pos h,Nat.zero_add],?_⟩
 rw [List.any_eq_true] at h
 obtain ⟨x,hx,hp⟩:=h
 exact List.findIdx_lt_length_of_exists ⟨x,hx,hp⟩
theorem fint_no {s:Int} {N:List Int} (h:(N.any fun u=>decide (u=s))=false):findA (.int .i64) (.int .i64 s) (intK N) 0=some none:=by rw [findA_int,h];rfl
theorem fint_yes {s:Int} {N:List Int} (h:(N.any fun u=>decide (u=s))=true):∃ j,findA (.int .i64) (.int .i64 s) (intK N) 0=some (some j)∧j < N.length:=by
 refine ⟨N.findIdx fun u=>decide (u=s),by rw [findA_int,if_pos h,Nat.zero_add],?_⟩
 rw [List.any_eq_true] at h
 obtain ⟨x,hx,hp⟩:=h
 exact List.findIdx_lt_length_of_exists ⟨x,hx,hp⟩
theorem truV_at {n j:Nat} (h:j < n):(truV n)[j]?=some (.t (.bool true)):=by unfold truV;rw [List.getElem?_replicate,if_pos h]
theorem truV_set {n j:Nat}:(truV n).set j (.t (.bool true))=truV n:=by
 unfold truV
 apply List.ext_getElem?
 intro k
 rw [List.getElem?_set]
 simp only [List.length_replicate,List.getElem?_replicate]
 split
 ·subst_vars
  split <;> simp_all
 ·rfl
theorem truV_snoc (n:Nat):truV n++[.t (.bool true)]=truV (n+1):=by unfold truV;rw [List.replicate_succ']
theorem truV_eq (n:Nat):truV n=(List.replicate n (.bool true)).map SV.t:=by unfold truV;rw [List.map_replicate]
theorem frT {σ:Nat→Option Nat} {ks:List AV} {n:Nat} {bs bs':Fr} (h:bs=bs'):(Lb.map false ks (SV.subL σ (truV n))::bs)=Lb.map false ks (truV n)::bs':=by rw [truV_eq,subL_trees,h]
theorem intK_snoc {N:List Int} {s:Int}:intK N++[.int .i64 s]=intK (N++[s]):=by simp [intK]
end Go.Proofs.YtcpgmmlaimkojaaGreatDoor
namespace Go.Proofs.YtcpgmmlaimkojaaGreatDoor
open Go.RowKit
set_option maxRecDepth 100000
def scC (s:Scn):List AV:=[.int .i64 s.e,.int .i64 s.f,.bool s.hold,.int .i64 s.idx,intsA s.st]
def esC (x:Esc):List AV:=[.int .i64 x.con,.int .i64 x.s.e,.int .i64 x.s.f,.bool x.s.hold,.int .i64 x.s.idx,intsA x.s.st]
def esE (l:List Esc):List (List AV):=l.map esC
def mbC (x:Mem):List AV:=[.int .i64 x.act,.int .i64 x.s.e,.int .i64 x.s.f,.bool x.s.hold,.int .i64 x.s.idx,intsA x.s.st]
def mbE (l:List Mem):List (List AV):=l.map mbC
def lkC (x:Lck):List AV:=[.int .i64 x.a,.int .i64 x.b,.int .i64 x.pa,.int .i64 x.pb,.arr (mbE x.mem)]
def lkE (l:List Lck):List (List AV):=l.map lkC
def plC (p:Pln):List AV:=[.arr (esE p.esc),.arr (lkE p.locks),.arr (mbE p.places),intsA p.need]
def plA (p:Pln):AV:=.agg (plC p)
def ndC (x:Ned):List AV:=[.int .i64 x.k,.int .i64 x.i,.int .i64 x.el,.int .i64 x.n]
def ndE (l:List Ned):List (List AV):=l.map ndC
theorem esE_len (l:List Esc):(esE l).length=l.length:=List.length_map _
theorem mbE_len (l:List Mem):(mbE l).length=l.length:=List.length_map _
theorem lkE_len (l:List Lck):(lkE l).length=l.length:=List.length_map _
theorem ndE_len (l:List Ned):(ndE l).length=l.length:=List.length_map _
theorem esE_get {l:List Esc} {k:Nat} {x:Esc} (h:l[k]?=some x):(esE l)[k]?=some [.int .i64 x.con,.int .i64 x.s.e,.int .i64 x.s.f,.bool x.s.hold,.int .i64 x.s.idx,intsA x.s.st]:=map_get h
theorem mbE_get {l:List Mem} {k:Nat} {x:Mem} (h:l[k]?=some x):(mbE l)[k]?=some [.int .i64 x.act,.int .i64 x.s.e,.int .i64 x.s.f,.bool x.s.hold,.int .i64 x.s.idx,intsA x.s.st]:=map_get h
theorem lkE_get {l:List Lck} {k:Nat} {x:Lck} (h:l[k]?=some x):(lkE l)[k]?=some [.int .i64 x.a,.int .i64 x.b,.int .i64 x.pa,.int .i64 x.pb,.arr (mbE x.mem)]:=map_get h
theorem ndE_get {l:List Ned} {k:Nat} {x:Ned} (h:l[k]?=some x):(ndE l)[k]?=some [.int .i64 x.k,.int .i64 x.i,.int .i64 x.el,.int .i64 x.n]:=map_get h
structure PlL (p:Pln):Prop where
 esc:p.esc.length≤17592186044416
 locks:p.locks.length≤17592186044416
 mem:∀ L∈p.locks,L.mem.length≤17592186044416
 places:p.places.length≤17592186044416
 need:p.need.length≤17592186044416
theorem shp_target {m:Nat} {xs:List AV} (h:Shp Tryz.prog (m+2) 70 xs):∃ (b:Bool) (i:Int),xs=[.bool b,.int .i64 i]:=by
 rw [Shp] at h
 simp only [Tryz.underlying70,ShpF] at h
 obtain ⟨y0,_,rfl,h0,y1,_,rfl,h1,rfl⟩:=h
 obtain ⟨b,rfl⟩:=shp_bool h0
 obtain ⟨i,rfl⟩:=shp_int h1
 exact ⟨b,i,rfl⟩
theorem shp_quest {m:Nat} {xs:List AV} (h:Shp Tryz.prog (m+3) 72 xs):∃ (e f:Int) (b:Bool) (i:Int),xs=[.int .i64 e,.int .i64 f,.bool b,.int .i64 i]:=by
 rw [Shp] at h
 simp only [Tryz.underlying72,ShpF] at h
 obtain ⟨y0,_,rfl,h0,y1,_,rfl,h1,y2,_,rfl,h2,rfl⟩:=h
 obtain ⟨e,rfl⟩:=shp_int h0
 obtain ⟨f,rfl⟩:=shp_int h1
 obtain ⟨b,i,rfl⟩:=shp_target h2
 exact ⟨e,f,b,i,rfl⟩
theorem shp_scn {m:Nat} {xs:List AV} (h:Shp Tryz.prog (m+4) 74 xs):∃ s:Scn,xs=scC s:=by
 rw [Shp] at h
 simp only [Tryz.underlying74,ShpF] at h
 obtain ⟨y0,_,rfl,h0,y1,_,rfl,h1,rfl⟩:=h
 obtain ⟨e,f,b,i,rfl⟩:=shp_quest h0
 obtain ⟨l,rfl,hl⟩:=shp_ints h1
 exact ⟨⟨e,f,b,i,l⟩,rfl⟩
theorem shp_esc {m:Nat} {xs:List AV} (h:Shp Tryz.prog (m+5) 76 xs):∃ x:Esc,xs=esC x:=by
 rw [Shp] at h
 simp only [Tryz.underlying76,ShpF] at h
 obtain ⟨y0,_,rfl,h0,y1,_,rfl,h1,rfl⟩:=h
 obtain ⟨c,rfl⟩:=shp_int h0
 obtain ⟨s,rfl⟩:=shp_scn h1
 exact ⟨⟨c,s⟩,rfl⟩
theorem shp_mem {m:Nat} {xs:List AV} (h:Shp Tryz.prog (m+5) 80 xs):∃ x:Mem,xs=mbC x:=by
 rw [Shp] at h
 simp only [Tryz.underlying80,ShpF] at h
 obtain ⟨y0,_,rfl,h0,y1,_,rfl,h1,rfl⟩:=h
 obtain ⟨c,rfl⟩:=shp_int h0
 obtain ⟨s,rfl⟩:=shp_scn h1
 exact ⟨⟨c,s⟩,rfl⟩
theorem shp_escs {m:Nat} {xs:List AV} (h:Shp Tryz.prog (m+6) 31 xs):∃ l:List Esc,xs=[.arr (esE l)]∧l.length≤17592186044416:=by
 obtain ⟨l,h1,h2,_⟩:=shp_list (f:=esC) (R:=fun _=>True) (fun h=>by rw [Shp] at h;simp only [Tryz.underlying31] at h;exact h) (fun _ hc=>by obtain ⟨s,hs⟩:=shp_esc hc;exact ⟨s,hs,trivial⟩) h
 exact ⟨l,h1,h2⟩
theorem shp_mems {m:Nat} {xs:List AV} (h:Shp Tryz.prog (m+6) 33 xs):∃ l:List Mem,xs=[.arr (mbE l)]∧l.length≤17592186044416:=by
 obtain ⟨l,h1,h2,_⟩:=shp_list (f:=mbC) (R:=fun _=>True) (fun h=>by rw [Shp] at h;simp only [Tryz.underlying33] at h;exact h) (fun _ hc=>by obtain ⟨s,hs⟩:=shp_mem hc;exact ⟨s,hs,trivial⟩) h
 exact ⟨l,h1,h2⟩
theorem shp_lock {m:Nat} {xs:List AV} (h:Shp Tryz.prog (m+7) 84 xs):∃ x:Lck,xs=lkC x∧x.mem.length≤17592186044416:=by
 rw [Shp] at h
 simp only [Tryz.underlying84,ShpF] at h
 obtain ⟨y0,_,rfl,h0,y1,_,rfl,h1,y2,_,rfl,h2,y3,_,rfl,h3,y4,_,rfl,h4,rfl⟩:=h
 obtain ⟨a,rfl⟩:=shp_int h0
 obtain ⟨b,rfl⟩:=shp_int h1
 obtain ⟨c,rfl⟩:=shp_int h2
 obtain ⟨d,rfl⟩:=shp_int h3
 obtain ⟨l,rfl,hl⟩:=shp_mems h4
 exact ⟨⟨a,b,c,d,l⟩,rfl,hl⟩
theorem shp_locks {m:Nat} {xs:List AV} (h:Shp Tryz.prog (m+8) 32 xs):∃ l:List Lck,xs=[.arr (lkE l)]∧l.length≤17592186044416∧∀ L∈l,L.mem.length≤17592186044416:=
 shp_list (f:=lkC) (fun h=>by rw [Shp] at h;simp only [Tryz.underlying32] at h;exact h) (fun _=>shp_lock) h
theorem shp_plan {m:Nat} {xs:List AV} (h:Shp Tryz.prog (m+9) 35 xs):∃ p:Pln,xs=plC p∧PlL p:=by
 rw [Shp] at h
 simp only [Tryz.underlying35,ShpF] at h
 obtain ⟨y0,_,rfl,h0,y1,_,rfl,h1,y2,_,rfl,h2,y3,_,rfl,h3,rfl⟩:=h
 obtain ⟨a,rfl,ha⟩:=shp_escs h0
 obtain ⟨b,rfl,hb,hb2⟩:=shp_locks h1
 obtain ⟨c,rfl,hc⟩:=shp_mems h2
 obtain ⟨d,rfl,hd⟩:=shp_ints h3
 exact ⟨⟨a,b,c,d⟩,rfl,ha,hb,hb2,hc,hd⟩
end Go.Proofs.YtcpgmmlaimkojaaGreatDoor
namespace Go.Proofs.YtcpgmmlaimkojaaGreatDoor
open Go.RowKit
set_option maxRecDepth 100000
set_option maxHeartbeats 16000000
theorem mindex_c (i n:Int):Cl cfg 115 [.t (.int .i64 i),.t (.int .i64 n)] [] (.t (.bool (decide (0≤i) && decide (i < n)))) []:=by
 refine Cl.of_body rfl Tryz.func115 rfl rfl rfl ?_
 exact drv
theorem maround_c (n:Int) {m:Int} (hm:m=1000∨(m=1000000000∨m=9999)):Cl cfg 120 [.t (.int .i64 n),.t (.int .i64 m)] [] (.t (.bool (btw n m))) []:=by
 unfold btw
 rcases hm with rfl|rfl|rfl
 ·
  have hw:IntKind.i64.wrap (-1000) = -1000:=by decide
  refine Cl.of_body rfl Tryz.func120 rfl rfl rfl ?_
  exact drv
 ·
  have hw:IntKind.i64.wrap (-1000000000) = -1000000000:=by decide
  refine Cl.of_body rfl Tryz.func120 rfl rfl rfl ?_
  exact drv
 ·
  have hw:IntKind.i64.wrap (-9999) = -9999:=by decide
  refine Cl.of_body rfl Tryz.func120 rfl rfl rfl ?_
  exact drv
theorem dadded_c {a:Actn} {c:Int} (hl:a.eff.delta.length≤140737488351232):Cl cfg 155 [.t (.agg (acC a)),.t (.int .i64 c)] [] (.t (.int .i64 (addAt a.eff.delta c))) []:=by
 have hlE:=chE_len a.eff.delta
 have e:acC a=[.int .i64 a.op,intsA a.args,.arr (chE a.eff.delta),.arr (rwE a.eff.hold),.arr (udE a.eff.ups)]:=rfl
 rw [e]
 refine Cl.of_body rfl Tryz.func155 rfl rfl rfl ?_
 refine drvR ?_
 refine EvL.ind (fun q:Nat=>[(11,.t (.int .i64 (q:Int)))]) (fun q=>q≤a.eff.delta.length∧addAt a.eff.delta c=addAt (a.eff.delta.drop q) c) (fun q=>a.eff.delta.length - q) 0 rfl ⟨by omega,rfl⟩ (fun q hq=>?_)
 obtain ⟨h1,h2⟩:=hq
 rw [h2]
 rcases Nat.lt_or_ge q a.eff.delta.length with h3|h3
 ·
  obtain ⟨x,hx⟩:=get_of_lt h3
  have hc:=chE_get hx
  rw [drop_get hx,addAt_cons]
  by_cases hxc:x.cell=c
  ·
   rw [if_pos hxc]
   exact drv
  ·
   rw [if_neg hxc]
   exact drv
 ·
  rw [List.drop_of_length_le h3]
  exact drv
end Go.Proofs.YtcpgmmlaimkojaaGreatDoor
