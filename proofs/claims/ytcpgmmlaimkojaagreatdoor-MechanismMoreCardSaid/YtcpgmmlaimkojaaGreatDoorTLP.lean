/- The code's plans: numbers that rise;members,as contracts. No condition. -/
import Derived.Test.YtcpgmmlaimkojaaGreatDoorTLB
import Derived.Test.YtcpgmmlaimkojaaGreatDoorTLD
import Derived.Test.YtcpgmmlaimkojaaGreatDoorTP
set_option linter.unusedSimpArgs false
set_option linter.unusedVariables false
set_option linter.unusedSectionVars false
namespace Go.Proofs.YtcpgmmlaimkojaaGreatDoor
open Go.RowKit
set_option maxRecDepth 100000
set_option maxHeartbeats 16000000
def risP {α:Type} (f:α→Int) (l:List α) (i:Nat) (x:α):Bool:=decide (i=0) || match l[i - 1]? with
 | some y=>decide (f y < f x)
 | none=>false
theorem ris_1 {α:Type} (f:α→Int) (l:List α):riseB f l=allG (risP f l) (0+1) (l.drop (0+1)):=by
 cases l with
 | nil=>rfl
 | cons x l=>rfl
theorem risP_s {α:Type} {f:α→Int} {l:List α} {p:Nat} {x y:α} (hy:l[p]?=some y):risP f l (p+1) x=decide (f y < f x):=by
 unfold risP
 rw [Nat.add_sub_cancel,hy]
 rfl
theorem risesc_c {C:List Esc} {f:Esc→Int} (hl:C.length≤140737488351232) (hp:∀ x∈C,Cl cfg 48 [.t (.agg (esC x))] [] (.t (.int .i64 (f x))) []):Cl cfg 47 [.t (.arr (esE C)),.t (.fn (.func 48) 0 [])] [] (.t (.bool (riseB f C))) []:=by
 have hlE:=esE_len C
 rw [ris_1]
 refine Cl.of_body rfl Tryz.func47 rfl rfl rfl ?_
 refine drvR ?_
 refine EvL.ind (fun p:Nat=>[(5,.t (.int .i64 ((p+1:Nat):Int)))]) (fun p=>(p=0∨p+1≤C.length)∧allG (risP f C) (0+1) (C.drop (0+1))=allG (risP f C) (p+1) (C.drop (p+1))) (fun p=>C.length - p) 0 rfl ⟨.inl rfl,rfl⟩ (fun p hq=>?_)
 obtain ⟨h1,h2⟩:=hq
 rw [h2]
 rcases Nat.lt_or_ge (p+1) C.length with h3|h3
 ·
  obtain ⟨x,hx⟩:=get_of_lt h3
  obtain ⟨y,hy⟩:=get_of_lt (xs:=C) (k:=p) (by omega)
  have hc:=esE_get hx
  have hd:=esE_get hy
  have hd':(esE C)[(((p+1:Nat):Int) - 1).toNat]?=some [.int .i64 y.con,.int .i64 y.s.e,.int .i64 y.s.f,.bool y.s.hold,.int .i64 y.s.idx,intsA y.s.st]:=by rw [show (((p+1:Nat):Int) - 1).toNat=p by omega];exact hd
  have hpx:=hp x (List.mem_of_getElem? hx)
  have hpy:=hp y (List.mem_of_getElem? hy)
  have hbad:=allG_bad (p:=risP f C) hx
  have hok:=allG_ok (p:=risP f C) hx
  rw [risP_s hy,decide_eq_true_eq] at hbad hok
  obtain ⟨a,ha⟩:∃ a,f x=a:=⟨_,rfl⟩
  obtain ⟨b,hb⟩:∃ b,f y=b:=⟨_,rfl⟩
  rw [ha] at hpx hbad hok
  rw [hb] at hpy hbad hok
  by_cases hlt:b < a
  ·
   refine drvR ?_
   exact ⟨p+1,rfl,rfl,⟨.inr (by omega),hok hlt⟩,by omega⟩
  ·
   rw [hbad hlt]
   exact drv
 ·
  rw [allG_end h3]
  exact drv
theorem rislck_c {C:List Lck} {f:Lck→Int} (hl:C.length≤140737488351232) (hp:∀ x∈C,Cl cfg 50 [.t (.agg (lkC x))] [] (.t (.int .i64 (f x))) []):Cl cfg 49 [.t (.arr (lkE C)),.t (.fn (.func 50) 0 [])] [] (.t (.bool (riseB f C))) []:=by
 have hlE:=lkE_len C
 rw [ris_1]
 refine Cl.of_body rfl Tryz.func49 rfl rfl rfl ?_
 refine drvR ?_
 refine EvL.ind (fun p:Nat=>[(5,.t (.int .i64 ((p+1:Nat):Int)))]) (fun p=>(p=0∨p+1≤C.length)∧allG (risP f C) (0+1) (C.drop (0+1))=allG (risP f C) (p+1) (C.drop (p+1))) (fun p=>C.length - p) 0 rfl ⟨.inl rfl,rfl⟩ (fun p hq=>?_)
 obtain ⟨h1,h2⟩:=hq
 rw [h2]
 rcases Nat.lt_or_ge (p+1) C.length with h3|h3
 ·
  obtain ⟨x,hx⟩:=get_of_lt h3
  obtain ⟨y,hy⟩:=get_of_lt (xs:=C) (k:=p) (by omega)
  have hc:=lkE_get hx
  have hd:=lkE_get hy
  have hd':(lkE C)[(((p+1:Nat):Int) - 1).toNat]?=some [.int .i64 y.a,.int .i64 y.b,.int .i64 y.pa,.int .i64 y.pb,.arr (mbE y.mem)]:=by rw [show (((p+1:Nat):Int) - 1).toNat=p by omega];exact hd
  have hpx:=hp x (List.mem_of_getElem? hx)
  have hpy:=hp y (List.mem_of_getElem? hy)
  have hbad:=allG_bad (p:=risP f C) hx
  have hok:=allG_ok (p:=risP f C) hx
  rw [risP_s hy,decide_eq_true_eq] at hbad hok
  obtain ⟨a,ha⟩:∃ a,f x=a:=⟨_,rfl⟩
  obtain ⟨b,hb⟩:∃ b,f y=b:=⟨_,rfl⟩
  rw [ha] at hpx hbad hok
  rw [hb] at hpy hbad hok
  by_cases hlt:b < a
  ·
   refine drvR ?_
   exact ⟨p+1,rfl,rfl,⟨.inr (by omega),hok hlt⟩,by omega⟩
  ·
   rw [hbad hlt]
   exact drv
 ·
  rw [allG_end h3]
  exact drv
theorem rismem_c {C:List Mem} {f:Mem→Int} (hl:C.length≤140737488351232) (hp:∀ x∈C,Cl cfg 93 [.t (.agg (mbC x))] [] (.t (.int .i64 (f x))) []):Cl cfg 92 [.t (.arr (mbE C)),.t (.fn (.func 93) 0 [])] [] (.t (.bool (riseB f C))) []:=by
 have hlE:=mbE_len C
 rw [ris_1]
 refine Cl.of_body rfl Tryz.func92 rfl rfl rfl ?_
 refine drvR ?_
 refine EvL.ind (fun p:Nat=>[(5,.t (.int .i64 ((p+1:Nat):Int)))]) (fun p=>(p=0∨p+1≤C.length)∧allG (risP f C) (0+1) (C.drop (0+1))=allG (risP f C) (p+1) (C.drop (p+1))) (fun p=>C.length - p) 0 rfl ⟨.inl rfl,rfl⟩ (fun p hq=>?_)
 obtain ⟨h1,h2⟩:=hq
 rw [h2]
 rcases Nat.lt_or_ge (p+1) C.length with h3|h3
 ·
  obtain ⟨x,hx⟩:=get_of_lt h3
  obtain ⟨y,hy⟩:=get_of_lt (xs:=C) (k:=p) (by omega)
  have hc:=mbE_get hx
  have hd:=mbE_get hy
  have hd':(mbE C)[(((p+1:Nat):Int) - 1).toNat]?=some [.int .i64 y.act,.int .i64 y.s.e,.int .i64 y.s.f,.bool y.s.hold,.int .i64 y.s.idx,intsA y.s.st]:=by rw [show (((p+1:Nat):Int) - 1).toNat=p by omega];exact hd
  have hpx:=hp x (List.mem_of_getElem? hx)
  have hpy:=hp y (List.mem_of_getElem? hy)
  have hbad:=allG_bad (p:=risP f C) hx
  have hok:=allG_ok (p:=risP f C) hx
  rw [risP_s hy,decide_eq_true_eq] at hbad hok
  obtain ⟨a,ha⟩:∃ a,f x=a:=⟨_,rfl⟩
  obtain ⟨b,hb⟩:∃ b,f y=b:=⟨_,rfl⟩
  rw [ha] at hpx hbad hok
  rw [hb] at hpy hbad hok
  by_cases hlt:b < a
  ·
   refine drvR ?_
   exact ⟨p+1,rfl,rfl,⟨.inr (by omega),hok hlt⟩,by omega⟩
  ·
   rw [hbad hlt]
   exact drv
 ·
  rw [allG_end h3]
  exact drv
theorem risint_c {C:List Int} {f:Int→Int} (hl:C.length≤140737488351232) (hp:∀ x∈C,Cl cfg 53 [.t (.int .i64 x)] [] (.t (.int .i64 (f x))) []):Cl cfg 52 [.t (intsA C),.t (.fn (.func 53) 0 [])] [] (.t (.bool (riseB f C))) []:=by
 have hlE:=intsE_len C
 rw [ris_1]
 refine Cl.of_body rfl Tryz.func52 rfl rfl rfl ?_
 refine drvR ?_
 refine EvL.ind (fun p:Nat=>[(5,.t (.int .i64 ((p+1:Nat):Int)))]) (fun p=>(p=0∨p+1≤C.length)∧allG (risP f C) (0+1) (C.drop (0+1))=allG (risP f C) (p+1) (C.drop (p+1))) (fun p=>C.length - p) 0 rfl ⟨.inl rfl,rfl⟩ (fun p hq=>?_)
 obtain ⟨h1,h2⟩:=hq
 rw [h2]
 rcases Nat.lt_or_ge (p+1) C.length with h3|h3
 ·
  obtain ⟨x,hx⟩:=get_of_lt h3
  obtain ⟨y,hy⟩:=get_of_lt (xs:=C) (k:=p) (by omega)
  have hc:=intsE_get hx
  have hd:=intsE_get hy
  have hd':(intsE C)[(((p+1:Nat):Int) - 1).toNat]?=some [.int .i64 y]:=by rw [show (((p+1:Nat):Int) - 1).toNat=p by omega];exact hd
  have hpx:=hp x (List.mem_of_getElem? hx)
  have hpy:=hp y (List.mem_of_getElem? hy)
  have hbad:=allG_bad (p:=risP f C) hx
  have hok:=allG_ok (p:=risP f C) hx
  rw [risP_s hy,decide_eq_true_eq] at hbad hok
  obtain ⟨a,ha⟩:∃ a,f x=a:=⟨_,rfl⟩
  obtain ⟨b,hb⟩:∃ b,f y=b:=⟨_,rfl⟩
  rw [ha] at hpx hbad hok
  rw [hb] at hpy hbad hok
  by_cases hlt:b < a
  ·
   refine drvR ?_
   exact ⟨p+1,rfl,rfl,⟨.inr (by omega),hok hlt⟩,by omega⟩
  ·
   rw [hbad hlt]
   exact drv
 ·
  rw [allG_end h3]
  exact drv
theorem mbC_eq (x:Mem):mbC x=[.int .i64 x.act,.int .i64 x.s.e,.int .i64 x.s.f,.bool x.s.hold,.int .i64 x.s.idx,intsA x.s.st]:=rfl
theorem esC_eq (x:Esc):esC x=[.int .i64 x.con,.int .i64 x.s.e,.int .i64 x.s.f,.bool x.s.hold,.int .i64 x.s.idx,intsA x.s.st]:=rfl
theorem lkC_eq (x:Lck):lkC x=[.int .i64 x.a,.int .i64 x.b,.int .i64 x.pa,.int .i64 x.pb,.arr (mbE x.mem)]:=rfl
theorem mdC_eq (m:Md):mdC m=[intsA m.sorts,.arr (tbE m.tables),.arr (nmE m.fams),.arr (cnE m.cons),.arr (opE m.ops),.arr (acE m.acts),.arr (hdE m.hides)]:=rfl
theorem plC_eq (p:Pln):plC p=[.arr (esE p.esc),.arr (lkE p.locks),.arr (mbE p.places),intsA p.need]:=rfl
theorem pact_c (x:Mem):Cl cfg 93 [.t (.agg (mbC x))] [] (.t (.int .i64 x.act)) []:=by
 rw [mbC_eq]
 refine Cl.of_body rfl Tryz.func93 rfl rfl rfl ?_
 exact drv
theorem pcon_c (x:Esc):Cl cfg 48 [.t (.agg (esC x))] [] (.t (.int .i64 x.con)) []:=by
 rw [esC_eq]
 refine Cl.of_body rfl Tryz.func48 rfl rfl rfl ?_
 exact drv
theorem plkn_c {x:Lck} (h:(0≤x.a∧x.a≤1000000)∧(0≤x.b∧x.b≤1000000)):Cl cfg 50 [.t (.agg (lkC x))] [] (.t (.int .i64 (lockN x))) []:=by
 unfold lockN
 rw [lkC_eq]
 refine Cl.of_body rfl Tryz.func50 rfl rfl rfl ?_
 exact drv
theorem pid_c (x:Int):Cl cfg 53 [.t (.int .i64 x)] [] (.t (.int .i64 (id x))) []:=by
 refine Cl.of_body rfl Tryz.func53 rfl rfl rfl ?_
 exact drv
theorem pord_c {m:Md} (hm:MdL m) (o:Int):Cl cfg 46 [.t (.int .i64 o),.t (.tp (mdC m))] [] (.t (.bool (ordB m o))) []:=by
 have hlO:=opE_len m.ops
 have hmo:=hm.ops
 unfold ordB
 rw [mdC_eq]
 refine Cl.of_body rfl Tryz.func46 rfl rfl rfl ?_
 by_cases h:0≤o∧o < m.ops.length
 ·
  obtain ⟨h0,h1⟩:=h
  obtain ⟨x,hx⟩:=get_of_lt (xs:=m.ops) (k:=o.toNat) (by omega)
  have hc:=opE_get hx
  have e:opnAt m o=x:=by unfold opnAt;rw [List.getD_eq_getElem?_getD,hx];rfl
  rw [e,decide_eq_true h0,decide_eq_true h1,Bool.true_and,Bool.true_and]
  obtain ⟨b,hb⟩:∃ b,x.ord=b:=⟨_,rfl⟩
  rw [hb] at hc ⊢
  cases b with
  | true=>
   exact drv
  | false=>
   exact drv
 ·
  have hno:(decide (0≤o) && decide (o < (m.ops.length:Int)))=false:=by
   rw [← Bool.not_eq_true,Bool.and_eq_true,decide_eq_true_eq,decide_eq_true_eq];exact h
  rw [hno,Bool.false_and]
  repeat' (first
|(with_reducible apply EvK.seq)
|((with_reducible apply EvK.text);(try case hm=>exact rfl))
|(with_reducible apply EvK.ret)
|((with_reducible apply EvO.spd) <;> intro hq)
|((with_reducible apply EvO.spd_yf);(case hp=>exact fao))
|(with_reducible apply EvO.nilT)
|((with_reducible apply EvO.gf);(case hW=>exact rfl))
|((with_reducible apply EvO.gt0);(case hW=>exact rfl);(case hx=>exact opq))
|((with_reducible apply EvO.u0);(case hx=>exact opq))
|fail)
  all_goals first
   | exact ⟨.inr rfl,rfl⟩
   | (exfalso;apply h;constructor <;> omega)
theorem plk1_c (L:Lck) (o:Int):Cl cfg 91 [.t (.int .i64 o),.t (.tp (lkC L))] [] (.t (.bool (decide (o=L.a) || decide (o=L.b)))) []:=by
 rw [lkC_eq]
 refine Cl.of_body rfl Tryz.func91 rfl rfl rfl ?_
 exact drv
theorem opAt_get {m:Md} {k:Int} {a:Actn} (h:m.acts[k.toNat]?=some a):opAt m k=a.op:=by unfold opAt;rw [List.getD_eq_getElem?_getD,h];rfl
theorem pmem1L_c {m:Md} {fit:Int→Bool} {cap:AV} {x:Mem} (hm:MdL m) (hf:inActs m x.act=true→Cl cfg 91 [.t (.int .i64 (opAt m x.act)),.t cap] [] (.t (.bool (fit (opAt m x.act)))) []):Cl cfg 94 [.t (.agg (mbC x)),.t (.tp (mdC m)),.t (.tp [.fn (.func 91) 0 [cap]])] [] (.t (.bool (!(inActs m x.act && fit (opAt m x.act))))) []:=by
 have hlA:=acE_len m.acts
 have hma:=hm.acts
 have hin:=inActs_iff (m:=m) (k:=x.act)
 obtain ⟨ia,hia⟩:∃ b,inActs m x.act=b:=⟨_,rfl⟩
 rw [hia] at hf hin ⊢
 rw [mbC_eq,mdC_eq]
 refine Cl.of_body rfl Tryz.func94 rfl rfl rfl ?_
 cases ia with
 | true=>
  obtain ⟨h0,h1⟩:=hin.1 rfl
  obtain ⟨a,ha⟩:=get_of_lt (xs:=m.acts) (k:=x.act.toNat) (by omega)
  have hc:=acE_get ha
  have hf:=hf rfl
  rw [opAt_get ha] at hf ⊢
  obtain ⟨b,hb⟩:∃ b,fit a.op=b:=⟨_,rfl⟩
  rw [hb] at hf ⊢
  exact drv
 | false=>
  have hno:¬ (0≤x.act∧x.act < m.acts.length):=fun h=>by have:=hin.2 h;cases this
  rw [Bool.false_and]
  repeat' (first
|(with_reducible apply EvK.seq)
|((with_reducible apply EvK.text);(try case hm=>exact rfl))
|((with_reducible apply EvK.drawn);(case hm=>exact rfl))
|(with_reducible apply EvK.ret)
|((with_reducible apply EvO.spd) <;> intro hq)
|((with_reducible apply EvO.spd_yt);(case hp=>exact fao))
|(with_reducible apply EvO.nilT)
|((with_reducible apply EvO.gf);(case hW=>exact rfl))
|((with_reducible apply EvO.gt0);(case hW=>exact rfl);(case hx=>exact opq))
|((with_reducible apply EvO.u0);(case hx=>exact opq))
|fail)
  all_goals first
   | exact ⟨.inr rfl,rfl⟩
   | (exfalso;apply hno;constructor <;> omega)
theorem pmemsL_c {m:Md} {fit:Int→Bool} {cap:AV} {C:List Mem} (hm:MdL m) (hl:C.length≤140737488351232) (hf:∀ x∈C,inActs m x.act=true→Cl cfg 91 [.t (.int .i64 (opAt m x.act)),.t cap] [] (.t (.bool (fit (opAt m x.act)))) []):Cl cfg 51 [.t (mdA m),.t (.arr (mbE C)),.t (.fn (.func 91) 0 [cap])] [] (.t (.bool (memsB m fit C))) []:=by
 have kr:=rismem_c (f:=Mem.act) hl (fun x _=>pact_c x)
 have kc:=conmemb_c (p:=fun x=>!(inActs m x.act && fit (opAt m x.act))) (c1:=.tp (mdC m)) (c2:=.tp [.fn (.func 91) 0 [cap]]) hl (fun x hx=>pmem1L_c hm (hf x hx))
 have e0:memsB m fit C=(riseB Mem.act C && !(C.any fun x=>!(inActs m x.act && fit (opAt m x.act)))):=by unfold memsB;rw [any_not]
 rw [e0]
 obtain ⟨r,hr⟩:∃ r,riseB Mem.act C=r:=⟨_,rfl⟩
 obtain ⟨b,hb⟩:∃ b,(C.any fun x=>!(inActs m x.act && fit (opAt m x.act)))=b:=⟨_,rfl⟩
 rw [hr] at kr ⊢
 rw [hb] at kc ⊢
 rw [mdC_eq] at kc
 rw [mdA_eq]
 refine Cl.of_body rfl Tryz.func51 rfl rfl rfl ?_
 cases r with
 | true=>
  exact drv
 | false=>
  exact drv
theorem pmem1V_c {m:Md} {fit:Int→Bool} {cap:AV} {x:Mem} (hm:MdL m) (hf:inActs m x.act=true→Cl cfg 46 [.t (.int .i64 (opAt m x.act)),.t cap] [] (.t (.bool (fit (opAt m x.act)))) []):Cl cfg 94 [.t (.agg (mbC x)),.t (.tp (mdC m)),.t (.tp [.fn (.func 46) 0 [cap]])] [] (.t (.bool (!(inActs m x.act && fit (opAt m x.act))))) []:=by
 have hlA:=acE_len m.acts
 have hma:=hm.acts
 have hin:=inActs_iff (m:=m) (k:=x.act)
 obtain ⟨ia,hia⟩:∃ b,inActs m x.act=b:=⟨_,rfl⟩
 rw [hia] at hf hin ⊢
 rw [mbC_eq,mdC_eq]
 refine Cl.of_body rfl Tryz.func94 rfl rfl rfl ?_
 cases ia with
 | true=>
  obtain ⟨h0,h1⟩:=hin.1 rfl
  obtain ⟨a,ha⟩:=get_of_lt (xs:=m.acts) (k:=x.act.toNat) (by omega)
  have hc:=acE_get ha
  have hf:=hf rfl
  rw [opAt_get ha] at hf ⊢
  obtain ⟨b,hb⟩:∃ b,fit a.op=b:=⟨_,rfl⟩
  rw [hb] at hf ⊢
  exact drv
 | false=>
  have hno:¬ (0≤x.act∧x.act < m.acts.length):=fun h=>by have:=hin.2 h;cases this
  rw [Bool.false_and]
  repeat' (first
|(with_reducible apply EvK.seq)
|((with_reducible apply EvK.text);(try case hm=>exact rfl))
|((with_reducible apply EvK.drawn);(case hm=>exact rfl))
|(with_reducible apply EvK.ret)
|((with_reducible apply EvO.spd) <;> intro hq)
|((with_reducible apply EvO.spd_yt);(case hp=>exact fao))
|(with_reducible apply EvO.nilT)
|((with_reducible apply EvO.gf);(case hW=>exact rfl))
|((with_reducible apply EvO.gt0);(case hW=>exact rfl);(case hx=>exact opq))
|((with_reducible apply EvO.u0);(case hx=>exact opq))
|fail)
  all_goals first
   | exact ⟨.inr rfl,rfl⟩
   | (exfalso;apply hno;constructor <;> omega)
theorem pmemsV_c {m:Md} {fit:Int→Bool} {cap:AV} {C:List Mem} (hm:MdL m) (hl:C.length≤140737488351232) (hf:∀ x∈C,inActs m x.act=true→Cl cfg 46 [.t (.int .i64 (opAt m x.act)),.t cap] [] (.t (.bool (fit (opAt m x.act)))) []):Cl cfg 51 [.t (mdA m),.t (.arr (mbE C)),.t (.fn (.func 46) 0 [cap])] [] (.t (.bool (memsB m fit C))) []:=by
 have kr:=rismem_c (f:=Mem.act) hl (fun x _=>pact_c x)
 have kc:=conmemb_c (p:=fun x=>!(inActs m x.act && fit (opAt m x.act))) (c1:=.tp (mdC m)) (c2:=.tp [.fn (.func 46) 0 [cap]]) hl (fun x hx=>pmem1V_c hm (hf x hx))
 have e0:memsB m fit C=(riseB Mem.act C && !(C.any fun x=>!(inActs m x.act && fit (opAt m x.act)))):=by unfold memsB;rw [any_not]
 rw [e0]
 obtain ⟨r,hr⟩:∃ r,riseB Mem.act C=r:=⟨_,rfl⟩
 obtain ⟨b,hb⟩:∃ b,(C.any fun x=>!(inActs m x.act && fit (opAt m x.act)))=b:=⟨_,rfl⟩
 rw [hr] at kr ⊢
 rw [hb] at kc ⊢
 rw [mdC_eq] at kc
 rw [mdA_eq]
 refine Cl.of_body rfl Tryz.func51 rfl rfl rfl ?_
 cases r with
 | true=>
  exact drv
 | false=>
  exact drv
end Go.Proofs.YtcpgmmlaimkojaaGreatDoor
namespace Go.Proofs.YtcpgmmlaimkojaaGreatDoor
open Go.RowKit
set_option maxRecDepth 100000
set_option maxHeartbeats 32000000
theorem opn_get {m:Md} {o:Int} {x:Opn} (h:m.ops[o.toNat]?=some x):opnAt m o=x:=by unfold opnAt;rw [List.getD_eq_getElem?_getD,h];rfl
theorem psort_c {m:Md} {o k:Int} (hm:MdL m) (h0:0≤o) (h1:o < m.ops.length):Cl cfg 67 [.t (mdA m),.t (.int .i64 o),.t (.int .i64 k)] [] (.t (.int .i64 (sortP m o k))) []:=by
 have hlO:=opE_len m.ops
 have hmo:=hm.ops
 obtain ⟨x,hx⟩:=get_of_lt (xs:=m.ops) (k:=o.toNat) (by omega)
 have hc:=opE_get hx
 have hxs:=hm.osorts x (List.mem_of_getElem? hx)
 have hls:=intsE_len x.sorts
 unfold sortP
 rw [opn_get hx]
 rw [mdA_eq]
 refine Cl.of_body rfl Tryz.func67 rfl rfl rfl ?_
 by_cases h:0≤k∧k < x.sorts.length
 ·
  rw [if_pos h]
  obtain ⟨k0,k1⟩:=h
  obtain ⟨s,hs⟩:=get_of_lt (xs:=x.sorts) (k:=k.toNat) (by omega)
  have hsc:=intsE_get hs
  rw [List.getD_eq_getElem?_getD,hs,Option.getD_some]
  exact drv
 ·
  rw [if_neg h]
  repeat' (first
|(with_reducible apply EvK.seq)
|((with_reducible apply EvK.text);(try case hm=>exact rfl))
|(with_reducible first|apply EvK.ret|apply thenK_r)
|((with_reducible apply EvK.cond_t);(case hc=>exact rfl))
|((with_reducible apply EvO.spd) <;> intro hq)
|((with_reducible apply EvO.spd_yt);(case hp=>exact fao))
|(with_reducible apply EvO.nilT)
|((with_reducible apply EvO.gf);(case hW=>exact rfl))
|((with_reducible apply EvO.gt0);(case hW=>exact rfl);(case hx=>exact opq))
|((with_reducible apply EvO.u0);(case hx=>exact opq))
|fail)
  all_goals first
   | exact ⟨.inr rfl,rfl⟩
   | (exfalso;apply h;constructor <;> omega)
theorem params_iff {m:Md} {L:Lck} (h:¬ (L.pa = -1∧L.pb = -1)):paramsB m L=true↔0≤sortP m L.a L.pa∧sortP m L.a L.pa=sortP m L.b L.pb∧(L.a=L.b→L.pa=L.pb):=by
 unfold paramsB
 have h1:(decide (L.pa = -1) && decide (L.pb = -1))=false:=by
  rw [← Bool.not_eq_true,Bool.and_eq_true,decide_eq_true_eq,decide_eq_true_eq];exact h
 rw [h1,Bool.false_or]
 simp only [Bool.and_eq_true,Bool.or_eq_true,Bool.not_eq_true',decide_eq_true_eq,decide_eq_false_iff_not]
 constructor
 ·rintro ⟨a,b,c⟩
  exact ⟨a,b,fun e=>c.resolve_left fun h=>h e⟩
 ·rintro ⟨a,b,c⟩
  refine ⟨a,b,?_⟩
  by_cases e:L.a=L.b
  ·exact .inr (c e)
  ·exact .inl e
theorem plock_c {m:Md} {L:Lck} (hm:MdL m) (hL:L.mem.length≤140737488351232):Cl cfg 45 [.t (mdA m),.t (.agg (lkC L))] [] (.t (.bool (lockB m L))) []:=by
 have km:=pmemsL_c (C:=L.mem) (fit:=fun o=>decide (o=L.a) || decide (o=L.b)) (cap:=.tp (lkC L)) hm hL (fun x _ _=>plk1_c L _)
 have hlO:=opE_len m.ops
 have hmo:=hm.ops
 obtain ⟨M,hM⟩:∃ b,memsB m (fun o=>decide (o=L.a) || decide (o=L.b)) L.mem=b:=⟨_,rfl⟩
 have e0:lockB m L=((decide (0≤L.a) && (decide (L.a≤L.b) && decide (L.b < m.ops.length))) && (paramsB m L && M)):=by unfold lockB;rw [hM]
 rw [hM] at km
 rw [e0]
 have k1:=fun h0 h1=>psort_c (o:=L.a) (k:=L.pa) hm h0 h1
 have k2:=fun h0 h1=>psort_c (o:=L.b) (k:=L.pb) hm h0 h1
 rw [mdA_eq] at km k1 k2 ⊢
 rw [lkC_eq] at km ⊢
 refine Cl.of_body rfl Tryz.func45 rfl rfl rfl ?_
 by_cases h:(0≤L.a∧L.a≤L.b)∧L.b < m.ops.length
 ·
  obtain ⟨⟨h0,h1⟩,h2⟩:=h
  rw [decide_eq_true h0,decide_eq_true h1,decide_eq_true h2,Bool.true_and,Bool.true_and,Bool.true_and]
  have k1:=k1 h0 (by omega)
  have k2:=k2 (by omega) h2
  by_cases hp:L.pa = -1∧L.pb = -1
  ·
   obtain ⟨hp1,hp2⟩:=hp
   have hpt:paramsB m L=true:=by unfold paramsB;rw [decide_eq_true hp1,decide_eq_true hp2];rfl
   rw [hpt,Bool.true_and]
   exact drv
  ·
   have hpi:=params_iff (m:=m) hp
   obtain ⟨S1,hS1⟩:∃ s,sortP m L.a L.pa=s:=⟨_,rfl⟩
   obtain ⟨S2,hS2⟩:∃ s,sortP m L.b L.pb=s:=⟨_,rfl⟩
   rw [hS1] at k1 hpi
   rw [hS2] at k2 hpi
   by_cases hq:0≤S1∧S1=S2∧(L.a=L.b→L.pa=L.pb)
   ·
    rw [hpi.2 hq,Bool.true_and]
    obtain ⟨q1,q2,q3⟩:=hq
    by_cases hab:L.a=L.b
    ·
     have q4:=q3 hab
     repeat' (first
|(with_reducible apply EvK.seq)
|((with_reducible apply EvK.text);(try case hm=>exact rfl))
|(with_reducible first|apply EvK.skip|apply EvK.ret|apply thenK_n)
|((with_reducible apply EvK.cond_t);(case hc=>exact rfl))
|((with_reducible apply EvK.cond_f);(case hc=>exact rfl))
|((with_reducible apply EvO.spd_f);(case hp=>exact fao))
|((with_reducible apply EvO.spn_t);(case hp=>exact fao))
|((with_reducible apply EvO.spd_yt);(case hp=>exact fao))
|((with_reducible apply EvO.spd_yf);(case hp=>exact fao))
|((with_reducible apply EvO.spn_yf);(case hp=>exact fao))
|(with_reducible apply EvO.nilT)
|((with_reducible apply EvO.gf);(case hW=>exact rfl))
|((with_reducible apply EvO.gt0);(case hW=>exact rfl);(case hx=>first
|(exact oqF k2)
|exact opq))
|((with_reducible apply EvO.u0);(case hx=>first
|(exact oqF k1)
|(exact oqF km)
|exact opq))
|fail)
     all_goals first
      | exact ⟨.inr rfl,rfl⟩
      | (exfalso;apply hp;constructor <;> omega)
    ·
     repeat' (first
|(with_reducible apply EvK.seq)
|((with_reducible apply EvK.text);(try case hm=>exact rfl))
|(with_reducible first|apply EvK.skip|apply EvK.ret|apply thenK_n)
|((with_reducible apply EvK.cond_t);(case hc=>exact rfl))
|((with_reducible apply EvK.cond_f);(case hc=>exact rfl))
|((with_reducible apply EvO.spd_f);(case hp=>exact fao))
|((with_reducible apply EvO.spn) <;> intro hq)
|((with_reducible apply EvO.spd_yf);(case hp=>exact fao))
|((with_reducible apply EvO.spn_yt);(case hp=>exact fao))
|((with_reducible apply EvO.spn_yf);(case hp=>exact fao))
|(with_reducible apply EvO.nilT)
|((with_reducible apply EvO.gf);(case hW=>exact rfl))
|((with_reducible apply EvO.gt0);(case hW=>exact rfl);(case hx=>first
|(exact oqF k2)
|exact opq))
|((with_reducible apply EvO.u0);(case hx=>first
|(exact oqF k1)
|(exact oqF km)
|exact opq))
|fail)
     all_goals first
      | exact ⟨.inr rfl,rfl⟩
      | (exfalso;apply hp;constructor <;> omega)
   ·
    have hpf:paramsB m L=false:=by rw [← Bool.not_eq_true,hpi];exact hq
    rw [hpf,Bool.false_and]
    repeat' (first
|(with_reducible apply EvK.seq)
|((with_reducible apply EvK.text);(try case hm=>exact rfl))
|(with_reducible first|apply EvK.skip|apply EvK.ret|apply thenK_n|apply thenK_r)
|((with_reducible apply EvK.cond_t);(case hc=>exact rfl))
|((with_reducible apply EvK.cond_f);(case hc=>exact rfl))
|((with_reducible apply EvO.spd_f);(case hp=>exact fao))
|((with_reducible apply EvO.spd) <;> intro hq)
|((with_reducible apply EvO.spn) <;> intro hq)
|((with_reducible apply EvO.spd_yt);(case hp=>exact fao))
|((with_reducible apply EvO.spd_yf);(case hp=>exact fao))
|((with_reducible apply EvO.spn_yt);(case hp=>exact fao))
|((with_reducible apply EvO.spn_y) <;> intro hq)
|(with_reducible apply EvO.nilT)
|((with_reducible apply EvO.gf);(case hW=>exact rfl))
|((with_reducible apply EvO.gt0);(case hW=>exact rfl);(case hx=>first
|(exact oqF k2)
|exact opq))
|((with_reducible apply EvO.u0);(case hx=>first
|(exact oqF k1)
|exact opq))
|fail)
    all_goals first
     | exact ⟨.inr rfl,rfl⟩
     | (exfalso;apply hp;constructor <;> omega)
     | (exfalso;apply hq;refine ⟨by omega,by omega,fun _=>by omega⟩)
 ·
  have hno:(decide (0≤L.a) && (decide (L.a≤L.b) && decide (L.b < (m.ops.length:Int))))=false:=by
   rw [← Bool.not_eq_true,Bool.and_eq_true,Bool.and_eq_true,decide_eq_true_eq,decide_eq_true_eq,decide_eq_true_eq]
   exact fun h'=>h ⟨⟨h'.1,h'.2.1⟩,h'.2.2⟩
  rw [hno,Bool.false_and]
  repeat' (first
|(with_reducible apply EvK.seq)
|((with_reducible apply EvK.text);(try case hm=>exact rfl))
|(with_reducible first|apply EvK.ret|apply thenK_r)
|((with_reducible apply EvK.cond_t);(case hc=>exact rfl))
|((with_reducible apply EvO.spd) <;> intro hq)
|((with_reducible apply EvO.spd_yt);(case hp=>exact fao))
|((with_reducible apply EvO.spd_y) <;> intro hq)
|(with_reducible apply EvO.nilT)
|((with_reducible apply EvO.gf);(case hW=>exact rfl))
|((with_reducible apply EvO.gt0);(case hW=>exact rfl);(case hx=>exact opq))
|((with_reducible apply EvO.u0);(case hx=>exact opq))
|fail)
  all_goals first
   | exact ⟨.inr rfl,rfl⟩
   | (exfalso;apply h;refine ⟨⟨?_,?_⟩,?_⟩ <;> omega)
theorem pval51_c {m:Md} {x:Mem} {o:Int} (hm:MdL m) (hi:inActs m x.act=true):Cl cfg 56 [.t (.agg (mbC x)),.t (.tp (mdC m)),.t (.tp [.int .i64 o])] [] (.t (.bool (decide (opAt m x.act=o)))) []:=by
 have hlA:=acE_len m.acts
 have hma:=hm.acts
 obtain ⟨h0,h1⟩:=inActs_iff.1 hi
 obtain ⟨a,ha⟩:=get_of_lt (xs:=m.acts) (k:=x.act.toNat) (by omega)
 have hc:=acE_get ha
 rw [opAt_get ha,mbC_eq,mdC_eq]
 refine Cl.of_body rfl Tryz.func56 rfl rfl rfl ?_
 by_cases he:a.op=o
 ·
  rw [decide_eq_true he]
  exact drv
 ·
  rw [decide_eq_false he]
  exact drv
theorem pval5_c {m:Md} {p:Pln} {o:Int} (hm:MdL m) (hl:p.places.length≤140737488351232) (hi:∀ x∈p.places,inActs m x.act=true):Cl cfg 54 [.t (.int .i64 o),.t (.tp [.fn (.func 46) 0 [.tp (mdC m)]]),.t (.tp (plC p)),.t (.tp (mdC m))] [] (.t (.bool (!(ordB m o && !(p.places.any fun x=>decide (opAt m x.act=o)))))) []:=by
 have ko:=pord_c hm o
 have kc:=conval51_c (C:=p.places) (p:=fun x=>decide (opAt m x.act=o)) (c1:=.tp (mdC m)) (c2:=.tp [.int .i64 o]) hl (fun x hx=>pval51_c hm (hi x hx))
 obtain ⟨a,ha⟩:∃ b,ordB m o=b:=⟨_,rfl⟩
 obtain ⟨b,hb⟩:∃ b,(p.places.any fun x=>decide (opAt m x.act=o))=b:=⟨_,rfl⟩
 rw [ha] at ko ⊢
 rw [hb] at kc ⊢
 rw [mdC_eq] at ko kc ⊢
 rw [plC_eq]
 refine Cl.of_body rfl Tryz.func54 rfl rfl rfl ?_
 cases a with
 | false=>
  exact drv
 | true=>
  repeat' (first
|(with_reducible apply EvK.seq)
|((with_reducible apply EvK.text);(try case hm=>exact rfl))
|(with_reducible first|apply EvK.ret|apply EvO.nilT)
|((with_reducible apply EvO.gt0);(case hW=>exact rfl);(case hx=>first
|(exact oqF kc)
|exact opq))
|((with_reducible apply EvO.u0);(case hx=>first
|(exact oqF ko)
|exact opq))
|fail)
  refine fin_b (.inr rfl) rfl ?_
  cases b <;> rfl
def escG (m:Md) (x:Esc):Bool:=(decide (0≤x.con) && decide (x.con < m.cons.length)) && decide ((m.cons.getD x.con.toNat zCn).kind=0)
theorem escG_iff {m:Md} {x:Esc}:escG m x=true↔(0≤x.con∧x.con < m.cons.length)∧(m.cons.getD x.con.toNat zCn).kind=0:=by
 unfold escG
 simp only [Bool.and_eq_true,decide_eq_true_eq]
theorem pvalid_c {m:Md} {p:Pln} (hm:MdL m) (hef:∀ a∈m.acts,EfB a.eff) (hop:m.ops.length≤4398046511104) (hp:PlL p):Cl cfg 12 [.t (mdA m),.t (plA p)] [] (.t (.bool (planB m p))) []:=by
 have kv:=mvalid_c hm hef hop
 have hlE:=esE_len p.esc
 have hlK:=lkE_len p.locks
 have hlP:=mbE_len p.places
 have hlN:=intsE_len p.need
 have hlC:=cnE_len m.cons
 have hmc:=hm.cons
 have h1e:=hp.esc
 have h1k:=hp.locks
 have h1p:=hp.places
 have h1n:=hp.need
 have kl:=fun (L:Lck) (h:L∈p.locks)=>plock_c (L:=L) hm (by have:=hp.mem L h;omega)
 have kR1:=risesc_c (C:=p.esc) (f:=Esc.con) (by omega) (fun x _=>pcon_c x)
 have kR3:=risint_c (C:=p.need) (f:=id) (by omega) (fun x _=>pid_c x)
 have kM:=pmemsV_c (C:=p.places) (fit:=ordB m) (cap:=.tp (mdC m)) hm (by omega) (fun x _ _=>pord_c hm _)
 obtain ⟨mv,hmv⟩:∃ b,modelB m=b:=⟨_,rfl⟩
 obtain ⟨R1,hR1⟩:∃ b,riseB Esc.con p.esc=b:=⟨_,rfl⟩
 obtain ⟨R2,hR2⟩:∃ b,riseB lockN p.locks=b:=⟨_,rfl⟩
 obtain ⟨M,hM⟩:∃ b,memsB m (ordB m) p.places=b:=⟨_,rfl⟩
 obtain ⟨R3,hR3⟩:∃ b,riseB id p.need=b:=⟨_,rfl⟩
 obtain ⟨N,hN⟩:∃ b,(p.need.any fun o=>!(ordB m o && !(p.places.any fun x=>decide (opAt m x.act=o))))=b:=⟨_,rfl⟩
 have e0:planB m p=((mv && decide (p.locks.length≤64)) && ((p.esc.drop 0).all (escG m) && ((p.locks.drop 0).all (lockB m) && (((R1 && R2) && (M && R3)) && !N)))):=by
  have e1:planB m p=((modelB m && decide (p.locks.length≤64)) && (((riseB Esc.con p.esc && p.esc.all (escG m)) && (p.locks.all (lockB m) && riseB lockN p.locks)) && (memsB m (ordB m) p.places && (riseB id p.need && p.need.all fun o=>ordB m o && !p.places.any fun x=>decide (opAt m x.act=o))))):=rfl
  rw [e1,any_not (fun o=>ordB m o && !p.places.any fun x=>decide (opAt m x.act=o)) p.need,hmv,hR1,hR2,hM,hR3,hN]
  show _=((mv && decide (p.locks.length≤64)) && (p.esc.all (escG m) && (p.locks.all (lockB m) && (((R1 && R2) && (M && R3)) && !N))))
  generalize decide (p.locks.length≤64)=d
  generalize p.esc.all (escG m)=d1
  generalize p.locks.all (lockB m)=d2
  cases mv <;> cases d <;> cases d1 <;> cases d2 <;> cases R1 <;> cases R2 <;> cases M <;> cases R3 <;> cases N <;> rfl
 rw [hmv] at kv
 rw [hR1] at kR1
 rw [hR3] at kR3
 rw [hM] at kM
 have kN:M=true→Cl cfg 32 [.t (intsA p.need),.t (.fn (.func 54) 0 [.tp [.fn (.func 46) 0 [.tp (mdC m)]],.tp (plC p),.tp (mdC m)])] [] (.t (.bool N)) []:=fun h=>by
  rw [← hN]
  refine conval5_c (C:=p.need) (by omega) (fun o _=>pval5_c hm (by omega) fun x hx=>?_)
  rw [← hM] at h
  unfold memsB at h
  rw [Bool.and_eq_true] at h
  have:=List.all_eq_true.1 h.2 x hx
  rw [Bool.and_eq_true] at this
  exact this.1
 have kR2:mv=true→(∀ L∈p.locks,lockB m L=true)→Cl cfg 49 [.t (.arr (lkE p.locks)),.t (.fn (.func 50) 0 [])] [] (.t (.bool R2)) []:=fun h hk=>by
  rw [← hR2]
  refine rislck_c (by omega) fun x hx=>plkn_c ?_
  have h1:=lock_iff.1 (hk x hx)
  have h8:=ops_len (hmv.trans h)
  have:=h1.a0;have:=h1.ab;have:=h1.b
  omega
 rw [e0]
 unfold plA
 rw [mdA_eq] at kv kl kM ⊢
 rw [mdC_eq] at kM kN
 rw [plC_eq] at kN ⊢
 refine Cl.of_body rfl Tryz.func12 rfl rfl rfl ?_
 cases mv with
 | false=>
  rw [Bool.false_and,Bool.false_and]
  exact drv
 | true=>
  by_cases h64:p.locks.length≤64
  ·
   rw [decide_eq_true h64,Bool.true_and,Bool.true_and]
   refine drvR ?_
   refine EvL.ind (fun q:Nat=>[(22,.t (.int .i64 (q:Int)))]) (fun q=>q≤p.esc.length∧(p.esc.drop 0).all (escG m)=(p.esc.drop q).all (escG m)) (fun q=>p.esc.length - q) 0 rfl ⟨by omega,rfl⟩ (fun q hq=>?_)
   obtain ⟨h1,h2⟩:=hq
   rw [h2]
   rcases Nat.lt_or_ge q p.esc.length with h3|h3
   ·
    obtain ⟨x,hx⟩:=get_of_lt h3
    have hc:=esE_get hx
    have hht:=all_hit (escG m) hx
    rw [hht]
    by_cases hg:0≤x.con∧x.con < m.cons.length
    ·
     obtain ⟨g1,g2⟩:=hg
     obtain ⟨c,hcn⟩:=get_of_lt (xs:=m.cons) (k:=x.con.toNat) (by omega)
     have hcc:=cnE_get hcn
     have hgi:=escG_iff (m:=m) (x:=x)
     rw [List.getD_eq_getElem?_getD,hcn,Option.getD_some] at hgi
     by_cases hk:c.kind=0
     ·
      rw [hgi.2 ⟨⟨g1,g2⟩,hk⟩,Bool.true_and]
      exact drv
     ·
      have hf:escG m x=false:=by rw [← Bool.not_eq_true,hgi];exact fun h=>hk h.2
      rw [hf,Bool.false_and,Bool.false_and]
      exact drv
    ·
     have hf:escG m x=false:=by rw [← Bool.not_eq_true,escG_iff];exact fun h=>hg h.1
     rw [hf,Bool.false_and,Bool.false_and]
     repeat' (first
|(with_reducible first|apply EvK.seq|apply EvK.block)
|((with_reducible apply EvK.text);(try case hm=>exact rfl))
|(with_reducible first|apply EvK.skip|apply EvK.ret|apply thenK_n|apply thenK_r|apply blockK_r)
|((with_reducible apply EvK.cond_t);(case hc=>exact rfl))
|((with_reducible apply EvO.spd_t);(case hp=>exact fao))
|((with_reducible apply EvO.spd) <;> intro hq)
|((with_reducible apply EvO.spd_yt);(case hp=>exact fao))
|(with_reducible apply EvO.nilT)
|((with_reducible apply EvO.gf);(case hW=>exact rfl))
|((with_reducible apply EvO.gt0);(case hW=>exact rfl);(case hx=>exact opq))
|((with_reducible apply EvO.u0);(case hx=>exact opq))
|fail)
     all_goals first
      | exact ⟨.inr rfl,rfl⟩
      | (exfalso;apply hg;constructor <;> omega)
   ·
    rw [alle _ h3,Bool.true_and]
    refine drvR ?_
    refine EvL.ind (fun q:Nat=>[(51,.t (.int .i64 (q:Int)))]) (fun q=>q≤p.locks.length∧(p.locks.drop 0).all (lockB m)=(p.locks.drop q).all (lockB m)∧(p.locks.take q).all (lockB m)=true) (fun q=>p.locks.length - q) 0 rfl ⟨by omega,rfl,by simp⟩ (fun q hq=>?_)
    obtain ⟨g1,g2,g4⟩:=hq
    rw [g2]
    rcases Nat.lt_or_ge q p.locks.length with g3|g3
    ·
     obtain ⟨L,hL⟩:=get_of_lt g3
     have hcL:=lkE_get hL
     have kL:=kl L (List.mem_of_getElem? hL)
     have hht:=all_hit (lockB m) hL
     have hmo:=fun hb=>all_more g4 hL hb
     rw [hht]
     obtain ⟨b,hb⟩:∃ b,lockB m L=b:=⟨_,rfl⟩
     rw [hb] at kL hmo ⊢
     rw [lkC_eq] at kL
     cases b with
     | false=>
      rw [Bool.false_and,Bool.false_and]
      exact drv
     | true=>
      rw [Bool.true_and]
      refine drvR ?_
      exact ⟨q+1,rfl,rfl,⟨by omega,rfl,hmo rfl⟩,by omega⟩
    ·
     have hall:=all_end g4 g3
     have kR2:=kR2 rfl (List.all_eq_true.1 hall)
     rw [alle _ g3,Bool.true_and]
     cases R1 with
     | false=>
      exact drv
     | true=>
      cases R2 with
      | false=>
       exact drv
      | true=>
       cases M with
       | false=>
        exact drv
       | true=>
        have kN:=kN rfl
        cases R3 with
        | false=>
         exact drv
        | true=>
         exact drv
  ·
   rw [decide_eq_false h64]
   exact drv
end Go.Proofs.YtcpgmmlaimkojaaGreatDoor
