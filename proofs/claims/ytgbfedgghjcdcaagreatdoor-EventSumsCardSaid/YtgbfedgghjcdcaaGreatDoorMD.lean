/- Models as trees. No condition. -/
import Derived.Test.YtgbfedgghjcdcaaGreatDoorWQ
import Derived.Test.YtgbfedgghjcdcaaGreatDoorTE
import Derived.Test.YtgbfedgghjcdcaaGreatDoorTS
set_option linter.unusedSimpArgs false
set_option linter.unusedVariables false
set_option linter.unusedSectionVars false
namespace Go.Proofs.YtgbfedgghjcdcaaGreatDoor
open Go.RowKit
set_option maxRecDepth 100000
def tbC (t:Tb):List AV:=[.str t.name,.int .i64 t.kind,intsA t.cols,.int .i64 t.lo,.int .i64 t.hi,.int .i64 t.first]
def tbE (l:List Tb):List (List AV):=l.map tbC
def nmE (l:List ByteArray):List (List AV):=l.map fun s=>[.str s]
def tmC (t:Tm):List AV:=[.int .i64 t.cell,.int .i64 t.factor]
def tmE (l:List Tm):List (List AV):=l.map tmC
def rwC (r:Rw):List AV:=[.arr (tmE r.terms),.int .i64 r.bound]
def rwE (l:List Rw):List (List AV):=l.map rwC
def cnC (c:Cn):List AV:=[.int .i64 c.kind,.int .i64 c.fam,.arr (tmE c.row.terms),.int .i64 c.row.bound,.int .i64 c.first,.int .i64 c.size]
def cnE (l:List Cn):List (List AV):=l.map cnC
def opC (o:Opn):List AV:=[.str o.name,.bool o.ord,intsA o.sorts]
def opE (l:List Opn):List (List AV):=l.map opC
def chC (c:Chg):List AV:=[.int .i64 c.cell,.int .i64 c.add]
def chE (l:List Chg):List (List AV):=l.map chC
def udC (u:Upd):List AV:=[.int .i64 u.kind,.int .i64 u.cell,.int .i64 u.value]
def udE (l:List Upd):List (List AV):=l.map udC
def efC (e:Eff):List AV:=[.arr (chE e.delta),.arr (rwE e.hold),.arr (udE e.ups)]
def acC (a:Actn):List AV:=[.int .i64 a.op,intsA a.args,.arr (chE a.eff.delta),.arr (rwE a.eff.hold),.arr (udE a.eff.ups)]
def acE (l:List Actn):List (List AV):=l.map acC
def hdC (h:Hde):List AV:=[.int .i64 h.table,.int .i64 h.col,.int .i64 h.to]
def hdE (l:List Hde):List (List AV):=l.map hdC
def rgE (l:List (Int×Int)):List (List AV):=l.map fun r=>[.int .i64 r.1,.int .i64 r.2]
def mdC (m:Md):List AV:=[intsA m.sorts,.arr (tbE m.tables),.arr (nmE m.fams),.arr (cnE m.cons),.arr (opE m.ops),.arr (acE m.acts),.arr (hdE m.hides)]
def mdA (m:Md):AV:=.agg (mdC m)
theorem map_get {α:Type} {f:α→List AV} {l:List α} {k:Nat} {x:α} (h:l[k]?=some x):(l.map f)[k]?=some (f x):=by rw [List.getElem?_map,h];rfl
theorem tbE_len (l:List Tb):(tbE l).length=l.length:=List.length_map _
theorem nmE_len (l:List ByteArray):(nmE l).length=l.length:=List.length_map _
theorem tmE_len (l:List Tm):(tmE l).length=l.length:=List.length_map _
theorem rwE_len (l:List Rw):(rwE l).length=l.length:=List.length_map _
theorem cnE_len (l:List Cn):(cnE l).length=l.length:=List.length_map _
theorem opE_len (l:List Opn):(opE l).length=l.length:=List.length_map _
theorem chE_len (l:List Chg):(chE l).length=l.length:=List.length_map _
theorem udE_len (l:List Upd):(udE l).length=l.length:=List.length_map _
theorem acE_len (l:List Actn):(acE l).length=l.length:=List.length_map _
theorem hdE_len (l:List Hde):(hdE l).length=l.length:=List.length_map _
theorem rgE_len (l:List (Int×Int)):(rgE l).length=l.length:=List.length_map _
theorem tbE_get {l:List Tb} {k:Nat} {t:Tb} (h:l[k]?=some t):(tbE l)[k]?=some [.str t.name,.int .i64 t.kind,intsA t.cols,.int .i64 t.lo,.int .i64 t.hi,.int .i64 t.first]:=map_get h
theorem nmE_get {l:List ByteArray} {k:Nat} {s:ByteArray} (h:l[k]?=some s):(nmE l)[k]?=some [.str s]:=map_get (f:=fun s=>[.str s]) h
theorem tmE_get {l:List Tm} {k:Nat} {t:Tm} (h:l[k]?=some t):(tmE l)[k]?=some [.int .i64 t.cell,.int .i64 t.factor]:=map_get h
theorem rwE_get {l:List Rw} {k:Nat} {r:Rw} (h:l[k]?=some r):(rwE l)[k]?=some [.arr (tmE r.terms),.int .i64 r.bound]:=map_get h
theorem cnE_get {l:List Cn} {k:Nat} {c:Cn} (h:l[k]?=some c):(cnE l)[k]?=some [.int .i64 c.kind,.int .i64 c.fam,.arr (tmE c.row.terms),.int .i64 c.row.bound,.int .i64 c.first,.int .i64 c.size]:=map_get h
theorem opE_get {l:List Opn} {k:Nat} {o:Opn} (h:l[k]?=some o):(opE l)[k]?=some [.str o.name,.bool o.ord,intsA o.sorts]:=map_get h
theorem chE_get {l:List Chg} {k:Nat} {c:Chg} (h:l[k]?=some c):(chE l)[k]?=some [.int .i64 c.cell,.int .i64 c.add]:=map_get h
theorem udE_get {l:List Upd} {k:Nat} {u:Upd} (h:l[k]?=some u):(udE l)[k]?=some [.int .i64 u.kind,.int .i64 u.cell,.int .i64 u.value]:=map_get h
theorem acE_get {l:List Actn} {k:Nat} {a:Actn} (h:l[k]?=some a):(acE l)[k]?=some [.int .i64 a.op,intsA a.args,.arr (chE a.eff.delta),.arr (rwE a.eff.hold),.arr (udE a.eff.ups)]:=map_get h
theorem hdE_get {l:List Hde} {k:Nat} {h:Hde} (e:l[k]?=some h):(hdE l)[k]?=some [.int .i64 h.table,.int .i64 h.col,.int .i64 h.to]:=map_get e
theorem rgE_get {l:List (Int×Int)} {k:Nat} {r:Int×Int} (e:l[k]?=some r):(rgE l)[k]?=some [.int .i64 r.1,.int .i64 r.2]:=map_get (f:=fun r:Int×Int=>[.int .i64 r.1,.int .i64 r.2]) e
structure MdL (m:Md):Prop where
 sorts:m.sorts.length≤17592186044416
 tables:m.tables.length≤17592186044416
 cols:∀ t∈m.tables,t.cols.length≤17592186044416
 fams:m.fams.length≤17592186044416
 cons:m.cons.length≤17592186044416
 terms:∀ c∈m.cons,c.row.terms.length≤17592186044416
 ops:m.ops.length≤17592186044416
 osorts:∀ o∈m.ops,o.sorts.length≤17592186044416
 acts:m.acts.length≤17592186044416
 args:∀ a∈m.acts,a.args.length≤17592186044416
 delta:∀ a∈m.acts,a.eff.delta.length≤17592186044416
 hold:∀ a∈m.acts,a.eff.hold.length≤17592186044416
 hterms:∀ a∈m.acts,∀ r∈a.eff.hold,r.terms.length≤17592186044416
 ups:∀ a∈m.acts,a.eff.ups.length≤17592186044416
 hides:m.hides.length≤17592186044416
 ucell:∀ a∈m.acts,∀ u∈a.eff.ups,u.cell≤9223372036854775807
theorem shp_list {m:Nat} {xs:List AV} {T E:TypeId} {α:Type} {f:α→List AV} {R:α→Prop} (hT:Shp Tryz.prog (m+1) T xs→∃ es:List (List AV),xs=[.arr es]∧es.length≤17592186044416∧∀ c∈es,Shp Tryz.prog m E c) (hE:∀ c,Shp Tryz.prog m E c→∃ a,c=f a∧R a) (h:Shp Tryz.prog (m+1) T xs):∃ l:List α,xs=[.arr (l.map f)]∧l.length≤17592186044416∧∀ a∈l,R a:=by
 obtain ⟨es,rfl,hl,he⟩:=hT h
 obtain ⟨l,rfl,hb⟩:=list_of (f:=f) (R:=R) fun c hc=>hE c (he c hc)
 exact ⟨l,rfl,by simpa using hl,hb⟩
theorem shpStr {m:Nat} {xs:List AV} (h:Shp Tryz.prog (m+1) 9 xs):∃ s,xs=[.str s]:=by
 simp only [Shp,Tryz.underlying9] at h
 obtain ⟨s,h,_⟩:=h
 exact ⟨s,h⟩
theorem shp_intb {m:Nat} {xs:List AV} (h:Shp Tryz.prog (m+1) 3 xs):∃ k:Int,xs=[.int .i64 k]∧k≤9223372036854775807:=by
 simp only [Shp,Tryz.underlying3] at h
 obtain ⟨k,h,hw⟩:=h
 simp only [Lit.wf,Bool.and_eq_true,decide_eq_true_eq] at hw
 exact ⟨k,h,Int.le_trans hw.2 (by decide)⟩
theorem shp_range {m:Nat} {xs:List AV} (h:Shp Tryz.prog (m+2) 67 xs):∃ a b:Int,xs=[.int .i64 a,.int .i64 b]:=by
 rw [Shp] at h
 simp only [Tryz.underlying67,ShpF] at h
 obtain ⟨y0,_,rfl,h0,y1,_,rfl,h1,rfl⟩:=h
 obtain ⟨a,rfl⟩:=shp_int h0
 obtain ⟨b,rfl⟩:=shp_int h1
 exact ⟨a,b,rfl⟩
theorem shp_table {m:Nat} {xs:List AV} (h:Shp Tryz.prog (m+3) 69 xs):∃ t:Tb,xs=tbC t∧t.cols.length≤17592186044416:=by
 rw [Shp] at h
 simp only [Tryz.underlying69,ShpF] at h
 obtain ⟨y0,_,rfl,h0,y1,_,rfl,h1,y2,_,rfl,h2,y3,_,rfl,h3,y4,_,rfl,h4,rfl⟩:=h
 obtain ⟨s,rfl⟩:=shpStr h0
 obtain ⟨k,rfl⟩:=shp_int h1
 obtain ⟨c,rfl,hc⟩:=shp_ints h2
 obtain ⟨a,b,rfl⟩:=shp_range h3
 obtain ⟨f,rfl⟩:=shp_int h4
 exact ⟨⟨s,k,c,a,b,f⟩,rfl,hc⟩
theorem shp_tables {m:Nat} {xs:List AV} (h:Shp Tryz.prog (m+4) 23 xs):∃ l:List Tb,xs=[.arr (tbE l)]∧l.length≤17592186044416∧∀ t∈l,t.cols.length≤17592186044416:=
 shp_list (f:=tbC) (fun h=>by rw [Shp] at h;simp only [Tryz.underlying23] at h;exact h) (fun _=>shp_table) h
theorem shp_strs {m:Nat} {xs:List AV} (h:Shp Tryz.prog (m+2) 24 xs):∃ l:List ByteArray,xs=[.arr (nmE l)]∧l.length≤17592186044416:=by
 obtain ⟨l,h1,h2,_⟩:=shp_list (f:=fun s=>[.str s]) (R:=fun _:ByteArray=>True) (fun h=>by rw [Shp] at h;simp only [Tryz.underlying24] at h;exact h) (fun _ hc=>by obtain ⟨s,hs⟩:=shpStr hc;exact ⟨s,hs,trivial⟩) h
 exact ⟨l,h1,h2⟩
theorem shp_term {m:Nat} {xs:List AV} (h:Shp Tryz.prog (m+2) 178 xs):∃ t:Tm,xs=tmC t:=by
 rw [Shp] at h
 simp only [Tryz.underlying178,ShpF] at h
 obtain ⟨y0,_,rfl,h0,y1,_,rfl,h1,rfl⟩:=h
 obtain ⟨a,rfl⟩:=shp_int h0
 obtain ⟨b,rfl⟩:=shp_int h1
 exact ⟨⟨a,b⟩,rfl⟩
theorem shp_terms {m:Nat} {xs:List AV} (h:Shp Tryz.prog (m+3) 179 xs):∃ l:List Tm,xs=[.arr (tmE l)]∧l.length≤17592186044416:=by
 obtain ⟨l,h1,h2,_⟩:=shp_list (f:=tmC) (R:=fun _=>True) (fun h=>by rw [Shp] at h;simp only [Tryz.underlying179] at h;exact h) (fun _ hc=>by obtain ⟨s,hs⟩:=shp_term hc;exact ⟨s,hs,trivial⟩) h
 exact ⟨l,h1,h2⟩
theorem shp_row {m:Nat} {xs:List AV} (h:Shp Tryz.prog (m+4) 181 xs):∃ r:Rw,xs=rwC r∧r.terms.length≤17592186044416:=by
 rw [Shp] at h
 simp only [Tryz.underlying181,ShpF] at h
 obtain ⟨y0,_,rfl,h0,y1,_,rfl,h1,rfl⟩:=h
 obtain ⟨l,rfl,hl⟩:=shp_terms h0
 obtain ⟨b,rfl⟩:=shp_int h1
 exact ⟨⟨l,b⟩,rfl,hl⟩
theorem shp_con {m:Nat} {xs:List AV} (h:Shp Tryz.prog (m+5) 184 xs):∃ c:Cn,xs=cnC c∧c.row.terms.length≤17592186044416:=by
 rw [Shp] at h
 simp only [Tryz.underlying184,ShpF] at h
 obtain ⟨y0,_,rfl,h0,y1,_,rfl,h1,y2,_,rfl,h2,y3,_,rfl,h3,y4,_,rfl,h4,rfl⟩:=h
 obtain ⟨k,rfl⟩:=shp_int h0
 obtain ⟨f,rfl⟩:=shp_int h1
 obtain ⟨r,rfl,hr⟩:=shp_row h2
 obtain ⟨a,rfl⟩:=shp_int h3
 obtain ⟨b,rfl⟩:=shp_int h4
 exact ⟨⟨k,f,r,a,b⟩,rfl,hr⟩
theorem shp_cons {m:Nat} {xs:List AV} (h:Shp Tryz.prog (m+6) 25 xs):∃ l:List Cn,xs=[.arr (cnE l)]∧l.length≤17592186044416∧∀ c∈l,c.row.terms.length≤17592186044416:=
 shp_list (f:=cnC) (fun h=>by rw [Shp] at h;simp only [Tryz.underlying25] at h;exact h) (fun _=>shp_con) h
theorem shp_op {m:Nat} {xs:List AV} (h:Shp Tryz.prog (m+3) 135 xs):∃ o:Opn,xs=opC o∧o.sorts.length≤17592186044416:=by
 rw [Shp] at h
 simp only [Tryz.underlying135,ShpF] at h
 obtain ⟨y0,_,rfl,h0,y1,_,rfl,h1,y2,_,rfl,h2,rfl⟩:=h
 obtain ⟨s,rfl⟩:=shpStr h0
 obtain ⟨b,rfl⟩:=shp_bool h1
 obtain ⟨l,rfl,hl⟩:=shp_ints h2
 exact ⟨⟨s,b,l⟩,rfl,hl⟩
theorem shp_ops {m:Nat} {xs:List AV} (h:Shp Tryz.prog (m+4) 26 xs):∃ l:List Opn,xs=[.arr (opE l)]∧l.length≤17592186044416∧∀ o∈l,o.sorts.length≤17592186044416:=
 shp_list (f:=opC) (fun h=>by rw [Shp] at h;simp only [Tryz.underlying26] at h;exact h) (fun _=>shp_op) h
theorem shp_change {m:Nat} {xs:List AV} (h:Shp Tryz.prog (m+2) 92 xs):∃ t:Chg,xs=chC t:=by
 rw [Shp] at h
 simp only [Tryz.underlying92,ShpF] at h
 obtain ⟨y0,_,rfl,h0,y1,_,rfl,h1,rfl⟩:=h
 obtain ⟨a,rfl⟩:=shp_int h0
 obtain ⟨b,rfl⟩:=shp_int h1
 exact ⟨⟨a,b⟩,rfl⟩
theorem shp_changes {m:Nat} {xs:List AV} (h:Shp Tryz.prog (m+3) 57 xs):∃ l:List Chg,xs=[.arr (chE l)]∧l.length≤17592186044416:=by
 obtain ⟨l,h1,h2,_⟩:=shp_list (f:=chC) (R:=fun _=>True) (fun h=>by rw [Shp] at h;simp only [Tryz.underlying57] at h;exact h) (fun _ hc=>by obtain ⟨s,hs⟩:=shp_change hc;exact ⟨s,hs,trivial⟩) h
 exact ⟨l,h1,h2⟩
theorem shp_upd {m:Nat} {xs:List AV} (h:Shp Tryz.prog (m+2) 65 xs):∃ t:Upd,xs=udC t∧t.cell≤9223372036854775807:=by
 rw [Shp] at h
 simp only [Tryz.underlying65,ShpF] at h
 obtain ⟨y0,_,rfl,h0,y1,_,rfl,h1,y2,_,rfl,h2,rfl⟩:=h
 obtain ⟨a,rfl⟩:=shp_int h0
 obtain ⟨b,rfl,hb⟩:=shp_intb h1
 obtain ⟨c,rfl⟩:=shp_int h2
 exact ⟨⟨a,b,c⟩,rfl,hb⟩
theorem shp_upds {m:Nat} {xs:List AV} (h:Shp Tryz.prog (m+3) 59 xs):∃ l:List Upd,xs=[.arr (udE l)]∧l.length≤17592186044416∧∀ u∈l,u.cell≤9223372036854775807:=
 shp_list (f:=udC) (fun h=>by rw [Shp] at h;simp only [Tryz.underlying59] at h;exact h) (fun _=>shp_upd) h
theorem shp_rows {m:Nat} {xs:List AV} (h:Shp Tryz.prog (m+5) 58 xs):∃ l:List Rw,xs=[.arr (rwE l)]∧l.length≤17592186044416∧∀ r∈l,r.terms.length≤17592186044416:=
 shp_list (f:=rwC) (fun h=>by rw [Shp] at h;simp only [Tryz.underlying58] at h;exact h) (fun _=>shp_row) h
structure EfL (e:Eff):Prop where
 delta:e.delta.length≤17592186044416
 hold:e.hold.length≤17592186044416
 hterms:∀ r∈e.hold,r.terms.length≤17592186044416
 ups:e.ups.length≤17592186044416
 cell:∀ u∈e.ups,u.cell≤9223372036854775807
theorem shp_effect {m:Nat} {xs:List AV} (h:Shp Tryz.prog (m+6) 61 xs):∃ e:Eff,xs=efC e∧EfL e:=by
 rw [Shp] at h
 simp only [Tryz.underlying61,ShpF] at h
 obtain ⟨y0,_,rfl,h0,y1,_,rfl,h1,y2,_,rfl,h2,rfl⟩:=h
 obtain ⟨a,rfl,ha⟩:=shp_changes h0
 obtain ⟨b,rfl,hb,hb2⟩:=shp_rows h1
 obtain ⟨c,rfl,hc,hc2⟩:=shp_upds h2
 exact ⟨⟨a,b,c⟩,rfl,ha,hb,hb2,hc,hc2⟩
theorem shp_action {m:Nat} {xs:List AV} (h:Shp Tryz.prog (m+7) 63 xs):∃ a:Actn,xs=acC a∧(a.args.length≤17592186044416∧EfL a.eff):=by
 rw [Shp] at h
 simp only [Tryz.underlying63,ShpF] at h
 obtain ⟨y0,_,rfl,h0,y1,_,rfl,h1,y2,_,rfl,h2,rfl⟩:=h
 obtain ⟨a,rfl⟩:=shp_int h0
 obtain ⟨b,rfl,hb⟩:=shp_ints h1
 obtain ⟨c,rfl,hc⟩:=shp_effect h2
 exact ⟨⟨a,b,c⟩,rfl,hb,hc⟩
theorem shp_actions {m:Nat} {xs:List AV} (h:Shp Tryz.prog (m+8) 27 xs):∃ l:List Actn,xs=[.arr (acE l)]∧l.length≤17592186044416∧∀ a∈l,a.args.length≤17592186044416∧EfL a.eff:=
 shp_list (f:=acC) (fun h=>by rw [Shp] at h;simp only [Tryz.underlying27] at h;exact h) (fun _=>shp_action) h
theorem shp_hide {m:Nat} {xs:List AV} (h:Shp Tryz.prog (m+2) 190 xs):∃ t:Hde,xs=hdC t:=by
 rw [Shp] at h
 simp only [Tryz.underlying190,ShpF] at h
 obtain ⟨y0,_,rfl,h0,y1,_,rfl,h1,y2,_,rfl,h2,rfl⟩:=h
 obtain ⟨a,rfl⟩:=shp_int h0
 obtain ⟨b,rfl⟩:=shp_int h1
 obtain ⟨c,rfl⟩:=shp_int h2
 exact ⟨⟨a,b,c⟩,rfl⟩
theorem shp_hides {m:Nat} {xs:List AV} (h:Shp Tryz.prog (m+3) 28 xs):∃ l:List Hde,xs=[.arr (hdE l)]∧l.length≤17592186044416:=by
 obtain ⟨l,h1,h2,_⟩:=shp_list (f:=hdC) (R:=fun _=>True) (fun h=>by rw [Shp] at h;simp only [Tryz.underlying28] at h;exact h) (fun _ hc=>by obtain ⟨s,hs⟩:=shp_hide hc;exact ⟨s,hs,trivial⟩) h
 exact ⟨l,h1,h2⟩
theorem shp_model {m:Nat} {xs:List AV} (h:Shp Tryz.prog (m+9) 30 xs):∃ d:Md,xs=mdC d∧MdL d:=by
 rw [Shp] at h
 simp only [Tryz.underlying30,ShpF] at h
 obtain ⟨y0,_,rfl,h0,y1,_,rfl,h1,y2,_,rfl,h2,y3,_,rfl,h3,y4,_,rfl,h4,y5,_,rfl,h5,y6,_,rfl,h6,rfl⟩:=h
 obtain ⟨a,rfl,ha⟩:=shp_ints h0
 obtain ⟨b,rfl,hb,hb2⟩:=shp_tables h1
 obtain ⟨c,rfl,hc⟩:=shp_strs h2
 obtain ⟨d,rfl,hd,hd2⟩:=shp_cons h3
 obtain ⟨e,rfl,he,he2⟩:=shp_ops h4
 obtain ⟨f,rfl,hf,hf2⟩:=shp_actions h5
 obtain ⟨g,rfl,hg⟩:=shp_hides h6
 exact ⟨⟨a,b,c,d,e,f,g⟩,rfl,ha,hb,hb2,hc,hd,hd2,he,he2,hf,fun x hx=>(hf2 x hx).1,fun x hx=>(hf2 x hx).2.delta,fun x hx=>(hf2 x hx).2.hold,fun x hx=>(hf2 x hx).2.hterms,fun x hx=>(hf2 x hx).2.ups,hg,fun x hx=>(hf2 x hx).2.cell⟩
theorem arg_model {m:Nat} {x:AV} (h:Arg Tryz.prog (m+9) 30 x):∃ d:Md,x=mdA d∧MdL d:=by
 obtain ⟨xs,h1,h2⟩:=h
 obtain ⟨d,rfl,hd⟩:=shp_model h1
 simp only [Tryz.underlying30] at h2
 exact ⟨d,h2,hd⟩
end Go.Proofs.YtgbfedgghjcdcaaGreatDoor
