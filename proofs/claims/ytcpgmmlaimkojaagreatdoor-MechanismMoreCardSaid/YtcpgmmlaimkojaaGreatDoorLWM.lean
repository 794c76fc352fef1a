/- Law 27: lists of a plan copied;an element of the copy deleted. No condition. -/
import Derived.Test.YtcpgmmlaimkojaaGreatDoorTM
set_option linter.unusedSimpArgs false
set_option linter.unusedVariables false
set_option linter.unusedSectionVars false
namespace Go.Proofs.YtcpgmmlaimkojaaGreatDoor
open Go.RowKit
set_option maxRecDepth 100000
set_option maxHeartbeats 32000000
theorem stepA {p q:Prop} (h:q) (k:Lft q→p:=by
 intro hq_
 with_reducible apply EvO.u
 (case hx=>((with_reducible apply OpR.apr);(case hs=>exact fun _=>rfl);(case ha|ht|hr|hx|hy|hn|hb=>exact rfl);(case hok=>assumption);(case hlen=>assumption);(case hv=>exact List.nil_append _);(case hk=>exact kfr);(case hf=>exact leq)))
 exact hq_.out):p:=k (.mk h)
theorem newsEs (l:List Esc):newsOk 6 (esE l)=true:=by
 unfold newsOk esE
 rw [List.all_map]
 exact List.all_eq_true.2 fun x _=>rfl
theorem newsMb (l:List Mem):newsOk 6 (mbE l)=true:=by
 unfold newsOk mbE
 rw [List.all_map]
 exact List.all_eq_true.2 fun x _=>rfl
theorem newsLk (l:List Lck):newsOk 5 (lkE l)=true:=by
 unfold newsOk lkE
 rw [List.all_map]
 exact List.all_eq_true.2 fun x _=>rfl
theorem map_erase {α β:Type} (g:α→β) (l:List α) (d:Nat):(l.map g).take d++(l.map g).drop (d+1)=(l.eraseIdx d).map g:=by
 rw [List.eraseIdx_eq_take_drop_succ,List.map_append,List.map_take,List.map_drop]
theorem oneOf {sz:Nat} {es:List (List AV)} (h:newsOk sz es=true):(es.all fun c=>c.all oneA)=true:=by
 unfold newsOk at h
 rw [List.all_eq_true] at h ⊢
 intro c hc
 have:=h c hc
 rw [Bool.and_eq_true] at this
 exact this.2
theorem delF_is {sz d:Nat} {es:List (List AV)} {tch:Bool} (h:newsOk sz es=true) (hd:d < es.length):delF sz [.ls 0,.t (.int .i64 (d:Int)),.t (.int .i64 ((d:Int)+1))] [.row false tch sz es]=some (.ls 0,[.row false true sz (es.take d++es.drop (d+1))]):=by
 show (match decide (0≤(d:Int)∧(d:Int) < (d:Int)+1∧(d:Int)+1≤es.length) && (Nat.beq sz sz && es.all fun c=>c.all oneA) with
  | true=>some (SV.ls 0,[Lb.row false true sz (es.take (d:Int).toNat++es.drop ((d:Int)+1).toNat)])
  | false=>none)=_
 rw [decide_eq_true ⟨by omega,by omega,by omega⟩,oneOf h,Nat.beq_refl,show ((d:Int)+1).toNat=d+1 by omega,show (d:Int).toNat=d by omega]
 rfl
theorem clone_esc {l:List Esc} (h0:l≠[]) (hl:l.length≤1000000):Cl cfg 35 [.t (.arr (esE l))] [] (.ls 0) [.row false false 6 (esE l)]:=by
 cases l with
 | nil=>exact absurd rfl h0
 | cons x l=>
  have hw:newsOk 6 (esC x::esE l)=true:=newsEs (x::l)
  have hlo:lenOk (([]:List (List AV)).length+(esC x::esE l).length) 64=true:=by
   have e:(esE l).length=l.length:=List.length_map _
   simp [lenOk,e]
   simp at hl
   omega
  show Cl cfg _ [.t (.arr (esC x::esE l))] [] (.ls 0) [.row false false 6 (esC x::esE l)]
  refine Cl.of_body rfl Tryz.func35 rfl rfl rfl ?_
  refine drvR ?_
  refine stepA ?_
  exact drv
theorem del_esc {l:List Esc} {d:Nat} {tch:Bool} (hd:d < l.length):Cl cfg 34 [.ls 0,.t (.int .i64 (d:Int)),.t (.int .i64 ((d:Int)+1))] [.row false tch 6 (esE l)] (.ls 0) [.row false true 6 (esE (l.eraseIdx d))]:=by
 refine ⟨1,?_⟩
 have e:callN cfg 1 34 [.ls 0,.t (.int .i64 (d:Int)),.t (.int .i64 ((d:Int)+1))] [.row false tch 6 (esE l)]=delF 6 [.ls 0,.t (.int .i64 (d:Int)),.t (.int .i64 ((d:Int)+1))] [.row false tch 6 (esE l)]:=rfl
 have h1:(esE l).length=l.length:=List.length_map _
 rw [e,delF_is (newsEs l) (by omega)]
 unfold esE
 rw [map_erase]
theorem clone_mem {l:List Mem} (h0:l≠[]) (hl:l.length≤1000000):Cl cfg 37 [.t (.arr (mbE l))] [] (.ls 0) [.row false false 6 (mbE l)]:=by
 cases l with
 | nil=>exact absurd rfl h0
 | cons x l=>
  have hw:newsOk 6 (mbC x::mbE l)=true:=newsMb (x::l)
  have hlo:lenOk (([]:List (List AV)).length+(mbC x::mbE l).length) 64=true:=by
   have e:(mbE l).length=l.length:=List.length_map _
   simp [lenOk,e]
   simp at hl
   omega
  show Cl cfg _ [.t (.arr (mbC x::mbE l))] [] (.ls 0) [.row false false 6 (mbC x::mbE l)]
  refine Cl.of_body rfl Tryz.func37 rfl rfl rfl ?_
  refine drvR ?_
  refine stepA ?_
  exact drv
theorem del_mem {l:List Mem} {d:Nat} {tch:Bool} (hd:d < l.length):Cl cfg 36 [.ls 0,.t (.int .i64 (d:Int)),.t (.int .i64 ((d:Int)+1))] [.row false tch 6 (mbE l)] (.ls 0) [.row false true 6 (mbE (l.eraseIdx d))]:=by
 refine ⟨1,?_⟩
 have e:callN cfg 1 36 [.ls 0,.t (.int .i64 (d:Int)),.t (.int .i64 ((d:Int)+1))] [.row false tch 6 (mbE l)]=delF 6 [.ls 0,.t (.int .i64 (d:Int)),.t (.int .i64 ((d:Int)+1))] [.row false tch 6 (mbE l)]:=rfl
 have h1:(mbE l).length=l.length:=List.length_map _
 rw [e,delF_is (newsMb l) (by omega)]
 unfold mbE
 rw [map_erase]
theorem clone_lck {l:List Lck} (h0:l≠[]) (hl:l.length≤1000000):Cl cfg 39 [.t (.arr (lkE l))] [] (.ls 0) [.row false false 5 (lkE l)]:=by
 cases l with
 | nil=>exact absurd rfl h0
 | cons x l=>
  have hw:newsOk 5 (lkC x::lkE l)=true:=newsLk (x::l)
  have hlo:lenOk (([]:List (List AV)).length+(lkC x::lkE l).length) 56=true:=by
   have e:(lkE l).length=l.length:=List.length_map _
   simp [lenOk,e]
   simp at hl
   omega
  show Cl cfg _ [.t (.arr (lkC x::lkE l))] [] (.ls 0) [.row false false 5 (lkC x::lkE l)]
  refine Cl.of_body rfl Tryz.func39 rfl rfl rfl ?_
  refine drvR ?_
  refine stepA ?_
  exact drv
theorem del_lck {l:List Lck} {d:Nat} {tch:Bool} (hd:d < l.length):Cl cfg 38 [.ls 0,.t (.int .i64 (d:Int)),.t (.int .i64 ((d:Int)+1))] [.row false tch 5 (lkE l)] (.ls 0) [.row false true 5 (lkE (l.eraseIdx d))]:=by
 refine ⟨1,?_⟩
 have e:callN cfg 1 38 [.ls 0,.t (.int .i64 (d:Int)),.t (.int .i64 ((d:Int)+1))] [.row false tch 5 (lkE l)]=delF 5 [.ls 0,.t (.int .i64 (d:Int)),.t (.int .i64 ((d:Int)+1))] [.row false tch 5 (lkE l)]:=rfl
 have h1:(lkE l).length=l.length:=List.length_map _
 rw [e,delF_is (newsLk l) (by omega)]
 unfold lkE
 rw [map_erase]
inductive Lnt (q:Prop):Prop where
 | mk (h:q)
theorem Lnt.out {q:Prop} (h:Lnt q):q:=by cases h with|mk h=>exact h
theorem stepQ {p q:Prop} (h:q) (k:Lft q→p:=by
 intro hq_
 with_reducible apply EvO.u
 (case hx=>((with_reducible apply OpR.callQ [3]);(case hdr|hcal|hav|hx|hh=>exact rfl);(case hs0=>kernel_rfl);(case hf=>kernel_rfl);(case hg=>exact rfl);(case hc=>kernel_rfl);(case hm|hb=>exact rfl);(case hcl=>assumption);(case hk|hq=>exact rfl);(case hv=>(conv=>lhs;whnf);try exact rfl);(case hl=>exact leq)))
 exact hq_.out):p:=k (.mk h)
theorem stepY {p q:Prop} (h:q) (k:Lft q→p:=by
 intro hq_
 with_reducible apply EvO.u0
 (case hx=>((with_reducible apply OpR.callY [3]);(case hcal|hav|hx|hh|hm=>exact rfl);(case hcl=>exact Lnt.out (by assumption));(case hr|hd=>exact rfl);(case hq=>kernel_rfl);(case hz=>exact leq);(case hn=>exact lnx);(case hv=>(conv=>lhs;whnf);try exact rfl);(case he=>exact xfr);(case hf=>exact leq)))
 exact hq_.out):p:=k (.mk h)
theorem PlL.less {p q:Pln} (h:PlL p) (hq:Less q p):PlL q where
 esc:=Nat.le_trans hq.esc.length_le h.esc
 locks:=Nat.le_trans hq.locks.length_le h.locks
 mem:=fun L hL=>h.mem L (hq.locks.subset hL)
 places:=Nat.le_trans hq.places.length_le h.places
 need:=by rw [hq.need];exact h.need
theorem imp_two {b c:Bool} (h:b=true→c=true):b=false∨(b=true∧c=true):=by
 cases b
 ·exact .inl rfl
 ·exact .inr ⟨rfl,h rfl⟩
end Go.Proofs.YtcpgmmlaimkojaaGreatDoor
