/- Law 32: updates of a cell: of a kind,seen by others;searches among them. No condition. -/
import Derived.Test.YtgbfedgghjcdcaaGreatDoorOC
import Derived.Test.YtgbfedgghjcdcaaGreatDoorTK
set_option linter.unusedSimpArgs false
set_option linter.unusedVariables false
set_option linter.unusedSectionVars false
namespace Go.Proofs.YtgbfedgghjcdcaaGreatDoor
open Go.RowKit
set_option maxRecDepth 100000
set_option maxHeartbeats 32000000
theorem wrC_eq (w:Wr):wrC w=[.int .i64 w.e.r,.int .i64 w.e.n,.int .i64 w.e.t,intsA w.e.past,.int .i64 w.e.k,.int .i64 w.e.a,.int .i64 w.e.gk,.int .i64 w.e.gi,.int .i64 w.e.ge,.int .i64 w.e.ga,.int .i64 w.e.to,.int .i64 w.e.pl,.int .i64 w.e.se,.int .i64 w.u.kind,.int .i64 w.u.cell,.int .i64 w.u.value]:=rfl
theorem OpR.ldp {g:Cfg} {d:Option (List Nat)} {i:Nat} {env:Env} {fr:Fr} {t n r j T:Nat} {y:Operand} {ro:Bool} {cs vs:List SV} {xs:List AV} (ht:sizeT g.P t=some (true,n)) (hy:rd env y=.lp r j) (hb:fr[r]?=some (.box ro T cs)) (hlt:Nat.blt (j+n) cs.length=true) (hv:(cs.drop j).take n=vs) (hx:Prs vs xs):OpR g d i env fr (.load t y) (.t (.agg xs)) fr []:=
 .ldt ht hy hb (by rw [Nat.blt_eq] at hlt;rw [Nat.ble_eq];omega) hv hx
theorem vk_c (w:Wr) (k:Int):Cl cfg 120 [.t (.agg (wrC w)),.t (.tp [.int .i64 k])] [] (.t (.bool (!decide (w.u.kind=k)))) []:=by
 rw [wrC_eq]
 refine Cl.of_body rfl Tryz.func120 rfl rfl rfl ?_
 repeat' (first
|(with_reducible apply EvK.seq)
|((with_reducible apply EvK.text);(try case hm=>exact rfl))
|(with_reducible apply EvK.ret)
|((with_reducible apply EvO.spn) <;> intro hq)
|(with_reducible apply EvO.nilT)
|((with_reducible apply EvO.u0);(case hx=>exact opq))
|fail)
 all_goals (refine fin_b (.inr rfl) rfl ?_;simp_all)
theorem sn_c (w x:Wr) (k:Int) (hx:x.e.past.length≤140737488351232):Cl cfg 164 [.t (.agg (wrC x)),.t (.tp [.int .i64 k]),.t (.tp (wrC w))] [] (.t (.bool (decide (x.u.kind=k) && hasS x.e.past w.e.r w.e.n))) []:=by
 have kb:=ebefore_c w.e x.e hx
 rw [evA_cells,evA_cells] at kb
 rw [wrC_eq,wrC_eq]
 obtain ⟨b,hb⟩:∃ b,hasS x.e.past w.e.r w.e.n=b:=⟨_,rfl⟩
 rw [hb] at kb ⊢
 refine Cl.of_body rfl Tryz.func164 rfl rfl rfl ?_
 repeat' (first
|(with_reducible apply EvK.seq)
|((with_reducible apply EvK.text);(try case hm=>exact rfl))
|(with_reducible apply EvK.ret)
|((with_reducible apply EvO.spd) <;> intro hq)
|(with_reducible apply EvO.nilT)
|((with_reducible apply EvO.gf);(case hW=>exact rfl))
|((with_reducible apply EvO.gt0);(case hW=>exact rfl);(case hx=>first
|((with_reducible apply OpR.ldp);(case hy=>exact rfl);(case ht=>exact sz1);(case hb|hlt|hv=>exact rfl);(case hx=>(repeat' (first|exact Prs.nil|(apply Prs.cons)))))
|(exact oqF kb)
|exact opq))
|((with_reducible apply EvO.u0);(case hx=>exact opq))
|fail)
 all_goals (refine fin_b (.inr rfl) rfl ?_;simp_all)
theorem idxK_c {l:List Wr} {p:Wr→Bool} {c:AV} (hl:l.length≤140737488351232) (hp:∀ x∈l,Cl cfg 120 [.t (.agg (wrC x)),.t c] [] (.t (.bool (p x))) []):Cl cfg 163 [.t (.arr (wrE l)),.t (.fn (.func 120) 0 [c])] [] (.t (.int .i64 (idxS p l 0))) []:=by
 have hlE:=wrE_len l
 refine Cl.of_body rfl Tryz.func163 rfl rfl rfl ?_
 repeat' (first
|(with_reducible first|apply EvK.seq|apply EvK.block)
|((with_reducible apply EvK.text);(try case hm=>exact rfl))
|(with_reducible apply EvO.nilT)
|((with_reducible apply EvO.u0);(case hx=>exact opq))
|fail)
 apply EvK.loopV
 case ho=>exact rfl
 case hp=>exact rfl
 case hl=>exact rfl
 case hs=>exact slt
 refine EvL.ind (fun q:Nat=>[(8,.t (.int .i64 (q:Int)))]) (fun q=>q≤l.length∧idxS p l 0=idxS p (l.drop q) q) (fun q=>l.length - q) 0 rfl (by simp) (fun q hq=>?_)
 obtain ⟨h1,h2⟩:=hq
 rw [h2]
 rcases Nat.lt_or_ge q l.length with h3|h3
 ·
  obtain ⟨e,he⟩:=get_of_lt h3
  have hc:=wrE_get he
  have hpn:=hp e (List.mem_of_getElem? he)
  rw [wrC_eq] at hpn
  rw [drop_at he,idxS_cons]
  obtain ⟨b,hb⟩:∃ b,p e=b:=⟨_,rfl⟩
  rw [hb] at hpn ⊢
  cases b with
  | true=>
   repeat' (first
|(with_reducible first|apply EvK.seq|apply EvK.block)
|((with_reducible apply EvK.text);(try case hm=>exact rfl))
|(with_reducible first|apply EvK.skip|apply EvK.ret|apply thenK_n|apply thenK_r|apply blockK_r)
|((with_reducible apply EvK.cond_t);(case hc=>exact rfl))
|((with_reducible apply EvO.spd_t);(case hp=>exact fao))
|(with_reducible apply EvO.nilT)
|((with_reducible apply EvO.u0);(case hx=>first
|(exact oqF hpn)
|exact opq))
|fail)
   exact ⟨.inr rfl,rfl⟩
  | false=>
   repeat' (first
|(with_reducible first|apply EvK.seq|apply EvK.block)
|((with_reducible apply EvK.text);(try case hm=>exact rfl))
|(with_reducible first|apply EvK.skip|apply thenK_n|apply blockK_n)
|((with_reducible apply EvK.cond_t);(case hc=>exact rfl))
|((with_reducible apply EvK.cond_f);(case hc=>exact rfl))
|((with_reducible apply EvO.spd_t);(case hp=>exact fao))
|(with_reducible apply EvO.nilT)
|((with_reducible apply EvO.u0);(case hx=>first
|(exact oqF hpn)
|exact opq))
|fail)
   exact ⟨q+1,rfl,rfl,⟨by omega,rfl⟩,by omega⟩
 ·
  rw [List.drop_of_length_le h3]
  repeat' (first
|(with_reducible apply EvK.seq)
|((with_reducible apply EvK.text);(try case hm=>exact rfl))
|(with_reducible first|apply EvK.exit|apply EvK.ret|apply thenK_n|apply thenK_e|apply blockK_h)
|((with_reducible apply EvK.cond_f);(case hc=>exact rfl))
|((with_reducible apply EvO.spd_f);(case hp=>exact fao))
|(with_reducible apply EvO.nilT)
|((with_reducible apply EvO.u0);(case hx=>exact opq))
|fail)
  exact ⟨.inr rfl,rfl⟩
theorem idxS_c {l:List Wr} {p:Wr→Bool} {c d:AV} (hl:l.length≤140737488351232) (hp:∀ x∈l,Cl cfg 164 [.t (.agg (wrC x)),.t c,.t d] [] (.t (.bool (p x))) []):Cl cfg 163 [.t (.arr (wrE l)),.t (.fn (.func 164) 0 [c,d])] [] (.t (.int .i64 (idxS p l 0))) []:=by
 have hlE:=wrE_len l
 refine Cl.of_body rfl Tryz.func163 rfl rfl rfl ?_
 repeat' (first
|(with_reducible first|apply EvK.seq|apply EvK.block)
|((with_reducible apply EvK.text);(try case hm=>exact rfl))
|(with_reducible apply EvO.nilT)
|((with_reducible apply EvO.u0);(case hx=>exact opq))
|fail)
 apply EvK.loopV
 case ho=>exact rfl
 case hp=>exact rfl
 case hl=>exact rfl
 case hs=>exact slt
 refine EvL.ind (fun q:Nat=>[(8,.t (.int .i64 (q:Int)))]) (fun q=>q≤l.length∧idxS p l 0=idxS p (l.drop q) q) (fun q=>l.length - q) 0 rfl (by simp) (fun q hq=>?_)
 obtain ⟨h1,h2⟩:=hq
 rw [h2]
 rcases Nat.lt_or_ge q l.length with h3|h3
 ·
  obtain ⟨e,he⟩:=get_of_lt h3
  have hc:=wrE_get he
  have hpn:=hp e (List.mem_of_getElem? he)
  rw [wrC_eq] at hpn
  rw [drop_at he,idxS_cons]
  obtain ⟨b,hb⟩:∃ b,p e=b:=⟨_,rfl⟩
  rw [hb] at hpn ⊢
  cases b with
  | true=>
   repeat' (first
|(with_reducible first|apply EvK.seq|apply EvK.block)
|((with_reducible apply EvK.text);(try case hm=>exact rfl))
|(with_reducible first|apply EvK.skip|apply EvK.ret|apply thenK_n|apply thenK_r|apply blockK_r)
|((with_reducible apply EvK.cond_t);(case hc=>exact rfl))
|((with_reducible apply EvO.spd_t);(case hp=>exact fao))
|(with_reducible apply EvO.nilT)
|((with_reducible apply EvO.u0);(case hx=>first
|(exact oqF hpn)
|exact opq))
|fail)
   exact ⟨.inr rfl,rfl⟩
  | false=>
   repeat' (first
|(with_reducible first|apply EvK.seq|apply EvK.block)
|((with_reducible apply EvK.text);(try case hm=>exact rfl))
|(with_reducible first|apply EvK.skip|apply thenK_n|apply blockK_n)
|((with_reducible apply EvK.cond_t);(case hc=>exact rfl))
|((with_reducible apply EvK.cond_f);(case hc=>exact rfl))
|((with_reducible apply EvO.spd_t);(case hp=>exact fao))
|(with_reducible apply EvO.nilT)
|((with_reducible apply EvO.u0);(case hx=>first
|(exact oqF hpn)
|exact opq))
|fail)
   exact ⟨q+1,rfl,rfl,⟨by omega,rfl⟩,by omega⟩
 ·
  rw [List.drop_of_length_le h3]
  repeat' (first
|(with_reducible apply EvK.seq)
|((with_reducible apply EvK.text);(try case hm=>exact rfl))
|(with_reducible first|apply EvK.exit|apply EvK.ret|apply thenK_n|apply thenK_e|apply blockK_h)
|((with_reducible apply EvK.cond_f);(case hc=>exact rfl))
|((with_reducible apply EvO.spd_f);(case hp=>exact fao))
|(with_reducible apply EvO.nilT)
|((with_reducible apply EvO.u0);(case hx=>exact opq))
|fail)
  exact ⟨.inr rfl,rfl⟩
theorem conS_c {l:List Wr} {p:Wr→Bool} {c d:AV} (hl:l.length≤140737488351232) (hp:∀ x∈l,Cl cfg 164 [.t (.agg (wrC x)),.t c,.t d] [] (.t (.bool (p x))) []):Cl cfg 123 [.t (.arr (wrE l)),.t (.fn (.func 164) 0 [c,d])] [] (.t (.bool (l.any p))) []:=by
 have hi:=idxS_c hl hp
 rw [← idxS_any p l 0 (by omega)]
 refine Cl.of_body rfl Tryz.func123 rfl rfl rfl ?_
 obtain ⟨n,hn⟩:∃ n,idxS p l 0=n:=⟨_,rfl⟩
 rw [hn] at hi ⊢
 repeat' (first
|(with_reducible apply EvK.seq)
|((with_reducible apply EvK.text);(try case hm=>exact rfl))
|(with_reducible apply EvK.ret)
|((with_reducible apply EvO.spd) <;> intro hq)
|(with_reducible apply EvO.nilT)
|((with_reducible apply EvO.u0);(case hx=>first
|(exact oqF hi)
|exact opq))
|fail)
 all_goals (refine fin_b (.inr rfl) rfl ?_;simp;try omega)
theorem idxA_c {l:List Wr} {p:Wr→Bool} {c:AV} (hl:l.length≤140737488351232) (hp:∀ x∈l,Cl cfg 124 [.t (.agg (wrC x)),.t c] [] (.t (.bool (p x))) []):Cl cfg 163 [.t (.arr (wrE l)),.t (.fn (.func 124) 0 [c])] [] (.t (.int .i64 (idxS p l 0))) []:=by
 have hlE:=wrE_len l
 refine Cl.of_body rfl Tryz.func163 rfl rfl rfl ?_
 repeat' (first
|(with_reducible first|apply EvK.seq|apply EvK.block)
|((with_reducible apply EvK.text);(try case hm=>exact rfl))
|(with_reducible apply EvO.nilT)
|((with_reducible apply EvO.u0);(case hx=>exact opq))
|fail)
 apply EvK.loopV
 case ho=>exact rfl
 case hp=>exact rfl
 case hl=>exact rfl
 case hs=>exact slt
 refine EvL.ind (fun q:Nat=>[(8,.t (.int .i64 (q:Int)))]) (fun q=>q≤l.length∧idxS p l 0=idxS p (l.drop q) q) (fun q=>l.length - q) 0 rfl (by simp) (fun q hq=>?_)
 obtain ⟨h1,h2⟩:=hq
 rw [h2]
 rcases Nat.lt_or_ge q l.length with h3|h3
 ·
  obtain ⟨e,he⟩:=get_of_lt h3
  have hc:=wrE_get he
  have hpn:=hp e (List.mem_of_getElem? he)
  rw [wrC_eq] at hpn
  rw [drop_at he,idxS_cons]
  obtain ⟨b,hb⟩:∃ b,p e=b:=⟨_,rfl⟩
  rw [hb] at hpn ⊢
  cases b with
  | true=>
   repeat' (first
|(with_reducible first|apply EvK.seq|apply EvK.block)
|((with_reducible apply EvK.text);(try case hm=>exact rfl))
|(with_reducible first|apply EvK.skip|apply EvK.ret|apply thenK_n|apply thenK_r|apply blockK_r)
|((with_reducible apply EvK.cond_t);(case hc=>exact rfl))
|((with_reducible apply EvO.spd_t);(case hp=>exact fao))
|(with_reducible apply EvO.nilT)
|((with_reducible apply EvO.u0);(case hx=>first
|(exact oqF hpn)
|exact opq))
|fail)
   exact ⟨.inr rfl,rfl⟩
  | false=>
   repeat' (first
|(with_reducible first|apply EvK.seq|apply EvK.block)
|((with_reducible apply EvK.text);(try case hm=>exact rfl))
|(with_reducible first|apply EvK.skip|apply thenK_n|apply blockK_n)
|((with_reducible apply EvK.cond_t);(case hc=>exact rfl))
|((with_reducible apply EvK.cond_f);(case hc=>exact rfl))
|((with_reducible apply EvO.spd_t);(case hp=>exact fao))
|(with_reducible apply EvO.nilT)
|((with_reducible apply EvO.u0);(case hx=>first
|(exact oqF hpn)
|exact opq))
|fail)
   exact ⟨q+1,rfl,rfl,⟨by omega,rfl⟩,by omega⟩
 ·
  rw [List.drop_of_length_le h3]
  repeat' (first
|(with_reducible apply EvK.seq)
|((with_reducible apply EvK.text);(try case hm=>exact rfl))
|(with_reducible first|apply EvK.exit|apply EvK.ret|apply thenK_n|apply thenK_e|apply blockK_h)
|((with_reducible apply EvK.cond_f);(case hc=>exact rfl))
|((with_reducible apply EvO.spd_f);(case hp=>exact fao))
|(with_reducible apply EvO.nilT)
|((with_reducible apply EvO.u0);(case hx=>exact opq))
|fail)
  exact ⟨.inr rfl,rfl⟩
theorem conA_c {l:List Wr} {p:Wr→Bool} {c:AV} (hl:l.length≤140737488351232) (hp:∀ x∈l,Cl cfg 124 [.t (.agg (wrC x)),.t c] [] (.t (.bool (p x))) []):Cl cfg 123 [.t (.arr (wrE l)),.t (.fn (.func 124) 0 [c])] [] (.t (.bool (l.any p))) []:=by
 have hi:=idxA_c hl hp
 rw [← idxS_any p l 0 (by omega)]
 refine Cl.of_body rfl Tryz.func123 rfl rfl rfl ?_
 obtain ⟨n,hn⟩:∃ n,idxS p l 0=n:=⟨_,rfl⟩
 rw [hn] at hi ⊢
 repeat' (first
|(with_reducible apply EvK.seq)
|((with_reducible apply EvK.text);(try case hm=>exact rfl))
|(with_reducible apply EvK.ret)
|((with_reducible apply EvO.spd) <;> intro hq)
|(with_reducible apply EvO.nilT)
|((with_reducible apply EvO.u0);(case hx=>first
|(exact oqF hi)
|exact opq))
|fail)
 all_goals (refine fin_b (.inr rfl) rfl ?_;simp;try omega)
theorem idxB_c {l:List Wr} {p:Wr→Bool} {c:AV} (hl:l.length≤140737488351232) (hp:∀ x∈l,Cl cfg 127 [.t (.agg (wrC x)),.t c] [] (.t (.bool (p x))) []):Cl cfg 163 [.t (.arr (wrE l)),.t (.fn (.func 127) 0 [c])] [] (.t (.int .i64 (idxS p l 0))) []:=by
 have hlE:=wrE_len l
 refine Cl.of_body rfl Tryz.func163 rfl rfl rfl ?_
 repeat' (first
|(with_reducible first|apply EvK.seq|apply EvK.block)
|((with_reducible apply EvK.text);(try case hm=>exact rfl))
|(with_reducible apply EvO.nilT)
|((with_reducible apply EvO.u0);(case hx=>exact opq))
|fail)
 apply EvK.loopV
 case ho=>exact rfl
 case hp=>exact rfl
 case hl=>exact rfl
 case hs=>exact slt
 refine EvL.ind (fun q:Nat=>[(8,.t (.int .i64 (q:Int)))]) (fun q=>q≤l.length∧idxS p l 0=idxS p (l.drop q) q) (fun q=>l.length - q) 0 rfl (by simp) (fun q hq=>?_)
 obtain ⟨h1,h2⟩:=hq
 rw [h2]
 rcases Nat.lt_or_ge q l.length with h3|h3
 ·
  obtain ⟨e,he⟩:=get_of_lt h3
  have hc:=wrE_get he
  have hpn:=hp e (List.mem_of_getElem? he)
  rw [wrC_eq] at hpn
  rw [drop_at he,idxS_cons]
  obtain ⟨b,hb⟩:∃ b,p e=b:=⟨_,rfl⟩
  rw [hb] at hpn ⊢
  cases b with
  | true=>
   repeat' (first
|(with_reducible first|apply EvK.seq|apply EvK.block)
|((with_reducible apply EvK.text);(try case hm=>exact rfl))
|(with_reducible first|apply EvK.skip|apply EvK.ret|apply thenK_n|apply thenK_r|apply blockK_r)
|((with_reducible apply EvK.cond_t);(case hc=>exact rfl))
|((with_reducible apply EvO.spd_t);(case hp=>exact fao))
|(with_reducible apply EvO.nilT)
|((with_reducible apply EvO.u0);(case hx=>first
|(exact oqF hpn)
|exact opq))
|fail)
   exact ⟨.inr rfl,rfl⟩
  | false=>
   repeat' (first
|(with_reducible first|apply EvK.seq|apply EvK.block)
|((with_reducible apply EvK.text);(try case hm=>exact rfl))
|(with_reducible first|apply EvK.skip|apply thenK_n|apply blockK_n)
|((with_reducible apply EvK.cond_t);(case hc=>exact rfl))
|((with_reducible apply EvK.cond_f);(case hc=>exact rfl))
|((with_reducible apply EvO.spd_t);(case hp=>exact fao))
|(with_reducible apply EvO.nilT)
|((with_reducible apply EvO.u0);(case hx=>first
|(exact oqF hpn)
|exact opq))
|fail)
   exact ⟨q+1,rfl,rfl,⟨by omega,rfl⟩,by omega⟩
 ·
  rw [List.drop_of_length_le h3]
  repeat' (first
|(with_reducible apply EvK.seq)
|((with_reducible apply EvK.text);(try case hm=>exact rfl))
|(with_reducible first|apply EvK.exit|apply EvK.ret|apply thenK_n|apply thenK_e|apply blockK_h)
|((with_reducible apply EvK.cond_f);(case hc=>exact rfl))
|((with_reducible apply EvO.spd_f);(case hp=>exact fao))
|(with_reducible apply EvO.nilT)
|((with_reducible apply EvO.u0);(case hx=>exact opq))
|fail)
  exact ⟨.inr rfl,rfl⟩
theorem conB_c {l:List Wr} {p:Wr→Bool} {c:AV} (hl:l.length≤140737488351232) (hp:∀ x∈l,Cl cfg 127 [.t (.agg (wrC x)),.t c] [] (.t (.bool (p x))) []):Cl cfg 123 [.t (.arr (wrE l)),.t (.fn (.func 127) 0 [c])] [] (.t (.bool (l.any p))) []:=by
 have hi:=idxB_c hl hp
 rw [← idxS_any p l 0 (by omega)]
 refine Cl.of_body rfl Tryz.func123 rfl rfl rfl ?_
 obtain ⟨n,hn⟩:∃ n,idxS p l 0=n:=⟨_,rfl⟩
 rw [hn] at hi ⊢
 repeat' (first
|(with_reducible apply EvK.seq)
|((with_reducible apply EvK.text);(try case hm=>exact rfl))
|(with_reducible apply EvK.ret)
|((with_reducible apply EvO.spd) <;> intro hq)
|(with_reducible apply EvO.nilT)
|((with_reducible apply EvO.u0);(case hx=>first
|(exact oqF hi)
|exact opq))
|fail)
 all_goals (refine fin_b (.inr rfl) rfl ?_;simp;try omega)
theorem seen_c {w:Wr} {l:List Wr} {k:Int} (hl:l.length≤140737488351232) (hp:∀ x∈l,x.e.past.length≤140737488351232):Cl cfg 125 [.t (.agg (wrC w)),.t (.arr (wrE l)),.t (.int .i64 k)] [] (.t (.bool (seenW w l k))) []:=by
 have kc:=conS_c (l:=l) (p:=fun x=>decide (x.u.kind=k) && hasS x.e.past w.e.r w.e.n) (c:=.tp [.int .i64 k]) (d:=.tp (wrC w)) hl fun x hx=>sn_c w x k (hp x hx)
 have e0:seenW w l k=l.any fun x=>decide (x.u.kind=k) && hasS x.e.past w.e.r w.e.n:=rfl
 rw [e0]
 rw [wrC_eq] at kc ⊢
 obtain ⟨b,hb⟩:∃ b,(l.any fun x=>decide (x.u.kind=k) && hasS x.e.past w.e.r w.e.n)=b:=⟨_,rfl⟩
 rw [hb] at kc ⊢
 refine Cl.of_body rfl Tryz.func125 rfl rfl rfl ?_
 repeat' (first
|(with_reducible apply EvK.seq)
|((with_reducible apply EvK.text);(try case hm=>exact rfl))
|(with_reducible first|apply EvK.ret|apply EvO.nilT)
|((with_reducible apply EvO.u0);(case hx=>first
|(exact oqF kc)
|exact opq))
|fail)
 exact ⟨.inr rfl,rfl⟩
theorem unA_c {w:Wr} {l:List Wr} (hl:l.length≤140737488351232) (hp:∀ x∈l,x.e.past.length≤140737488351232):Cl cfg 124 [.t (.agg (wrC w)),.t (.tp [.arr (wrE l)])] [] (.t (.bool (!seenW w l 1))) []:=by
 have ks:=seen_c (w:=w) (k:=1) hl hp
 rw [wrC_eq] at ks ⊢
 obtain ⟨b,hb⟩:∃ b,seenW w l 1=b:=⟨_,rfl⟩
 rw [hb] at ks ⊢
 refine Cl.of_body rfl Tryz.func124 rfl rfl rfl ?_
 repeat' (first
|(with_reducible apply EvK.seq)
|((with_reducible apply EvK.text);(try case hm=>exact rfl))
|(with_reducible first|apply EvK.ret|apply EvO.nilT)
|((with_reducible apply EvO.u0);(case hx=>first
|(exact oqF ks)
|exact opq))
|fail)
 exact ⟨.inr rfl,rfl⟩
theorem unB_c {w:Wr} {l:List Wr} (hl:l.length≤140737488351232) (hp:∀ x∈l,x.e.past.length≤140737488351232):Cl cfg 127 [.t (.agg (wrC w)),.t (.tp [.arr (wrE l)])] [] (.t (.bool (!seenW w l 0))) []:=by
 have ks:=seen_c (w:=w) (k:=0) hl hp
 rw [wrC_eq] at ks ⊢
 obtain ⟨b,hb⟩:∃ b,seenW w l 0=b:=⟨_,rfl⟩
 rw [hb] at ks ⊢
 refine Cl.of_body rfl Tryz.func127 rfl rfl rfl ?_
 repeat' (first
|(with_reducible apply EvK.seq)
|((with_reducible apply EvK.text);(try case hm=>exact rfl))
|(with_reducible first|apply EvK.ret|apply EvO.nilT)
|((with_reducible apply EvO.u0);(case hx=>first
|(exact oqF ks)
|exact opq))
|fail)
 exact ⟨.inr rfl,rfl⟩
end Go.Proofs.YtgbfedgghjcdcaaGreatDoor
namespace Go.Proofs.YtgbfedgghjcdcaaGreatDoor
open Go.RowKit
set_option maxRecDepth 100000
set_option maxHeartbeats 32000000
theorem idx_split {α:Type} (p:α→Bool):∀ (l:List α) (i:Int),(idxS p l i = -1∧∀ x∈l,p x=false)∨∃ (q:Nat) (x:α),idxS p l i=i+q∧l[q]?=some x∧p x=true∧∀ y∈l.take q,p y=false
 | [],i=>.inl ⟨rfl,by simp⟩
 | x::l,i=>by
  rw [idxS_cons]
  cases hp:p x with
  | true=>exact .inr ⟨0,x,by simp,rfl,hp,by simp⟩
  | false=>
   rcases idx_split p l (i+1) with ⟨h1,h2⟩|⟨q,y,h1,h2,h3,h4⟩
   ·refine .inl ⟨by simpa using h1,fun z hz=>?_⟩
    rcases List.mem_cons.1 hz with rfl|hz
    ·exact hp
    ·exact h2 z hz
   ·refine .inr ⟨q+1,y,by simp [h1];omega,h2,h3,fun z hz=>?_⟩
    rw [List.take_succ_cons] at hz
    rcases List.mem_cons.1 hz with rfl|hz
    ·exact hp
    ·exact h4 z hz
theorem ofK_all {l:List Wr} {k:Int} (h:∀ x∈l,(!decide (x.u.kind=k))=false):ofK l k=l:=by
 unfold ofK
 rw [List.filter_eq_self]
 intro x hx
 simpa using h x hx
theorem ofK_snoc {l:List Wr} {k:Int} {q:Nat} {w:Wr} (h:l[q]?=some w):ofK (l.take (q+1)) k=ofK (l.take q) k++if w.u.kind=k then [w] else []:=by
 rw [List.take_add_one,h]
 unfold ofK
 rw [Option.toList,List.filter_append]
 by_cases hk:w.u.kind=k <;> simp [hk]
def rowD (W:List Wr) (k:Int) (q:Nat):List (List AV):=wrE (ofK (W.take q) k++W.drop (ofK (W.take q) k).length)
def cntD (W:List Wr) (k:Int) (q:Nat):Nat:=(ofK (W.take q) k).length
theorem cntD_le (W:List Wr) (k:Int) (q:Nat):cntD W k q≤q:=by
 unfold cntD ofK
 exact Nat.le_trans (List.length_filter_le _ _) (by simp;omega)
theorem rowD_len {W:List Wr} {k:Int} {q:Nat} (h:q≤W.length):(rowD W k q).length=W.length:=by
 have:=cntD_le W k q
 unfold cntD at this
 unfold rowD
 rw [wrE_len,List.length_append,List.length_drop]
 omega
theorem rowD_get {W:List Wr} {k:Int} {q:Nat} {w:Wr} (h:W[q]?=some w):(rowD W k q)[q]?=some (wrC w):=by
 have:=cntD_le W k q
 unfold cntD at this
 refine map_get (f:=wrC) ?_
 rw [List.getElem?_append_right (by omega),List.getElem?_drop,← h]
 congr 1
 omega
theorem rowD_put {W:List Wr} {k:Int} {q:Nat} {w:Wr} (h:W[q]?=some w) (hk:w.u.kind=k):(rowD W k q).set (cntD W k q) (wrC w)=rowD W k (q+1):=by
 have hc:=cntD_le W k q
 have hlt:=lt_of_get h
 unfold cntD at hc ⊢
 unfold rowD
 rw [ofK_snoc h,if_pos hk]
 unfold wrE
 rw [← List.map_set]
 congr 1
 rw [List.set_append_right _ _ (Nat.le_refl _),Nat.sub_self,List.length_append,List.length_singleton,List.append_assoc]
 congr 1
 obtain ⟨y,hy⟩:=get_of_lt (xs:=W) (k:=(ofK (W.take q) k).length) (by omega)
 rw [drop_at hy]
 rfl
theorem cntD_yes {W:List Wr} {k:Int} {q:Nat} {w:Wr} (h:W[q]?=some w) (hk:w.u.kind=k):cntD W k (q+1)=cntD W k q+1:=by
 unfold cntD
 rw [ofK_snoc h,if_pos hk,List.length_append,List.length_singleton]
theorem rowD_no {W:List Wr} {k:Int} {q:Nat} {w:Wr} (h:W[q]?=some w) (hk:w.u.kind≠k):rowD W k (q+1)=rowD W k q∧cntD W k (q+1)=cntD W k q:=by
 unfold rowD cntD
 rw [ofK_snoc h,if_neg hk,List.append_nil]
 exact ⟨rfl,rfl⟩
theorem rowD_start {W:List Wr} {k:Int} {q:Nat} {w:Wr} (h:W[q]?=some w) (hk:(!decide (w.u.kind=k))=true) (hp:∀ y∈W.take q,(!decide (y.u.kind=k))=false):rowD W k (q+1)=wrE W∧cntD W k (q+1)=q:=by
 have hlt:=lt_of_get h
 have hk:w.u.kind≠k:=by simpa using hk
 have h0:=ofK_all hp
 have hl:(W.take q).length=q:=by simp;omega
 unfold rowD cntD
 rw [ofK_snoc h,if_neg hk,List.append_nil,h0,hl,List.take_append_drop]
 exact ⟨rfl,rfl⟩
theorem el7:elemT cfg.P 120=some (155,16):=by kernel_rfl
section
variable {g:Cfg} {d:Option (List Nat)} {i:Nat} {env:Env} {fr:Fr}
theorem OpR.clr {y:Operand} {tys:Array TypeId} {args:Array Operand} {t:Nat} {s x:SV} {fr1 fr':Fr} (hs:∀ C:CallF,step g C d i env fr (.call ⟨.builtin .clear,args,tys⟩)=evW g C (drOf d i) env fr (.call ⟨.builtin .clear,args,tys⟩)) (ha:args.toList=[y]) (ht:tys.toList=[t]) (hy:rd env y=s) (hm:clearE g.P fr t s=some (x,fr1,[])) (hf:LEq fr1 fr'):OpR g d i env fr (.call ⟨.builtin .clear,args,tys⟩) x fr' []:=.r fun C=>by
 obtain rfl:=hf.eq
 subst hy
 rw [hs]
 unfold evW
 simp only [ha,ht,hm]
theorem OpR.ixv {t e sz r a n:Nat} {x y:Operand} {k:IntKind} {q:Nat} {ro tch:Bool} {es:List (List AV)} (he:elemT g.P t=some (e,sz)) (hx:rd env x=.lv r sz a n) (hi:rd env y=.t (.int k (q:Int))) (hb:fr[r]?=some (.row ro tch sz es)) (hn:a+n≤es.length) (hq:q < n) :
  OpR g d i env fr (.indexAddr t x y) (.le r sz (a+q) 0) fr []:=.p rfl rfl (by
 have h1:inB (q:Int) n=true:=by
  unfold inB
  rw [Int.toNat_natCast,Bool.and_eq_true,Nat.blt_eq]
  exact ⟨decide_eq_true (by omega),hq⟩
 have h2:Nat.beq sz sz=true:=by simp
 have h3:lvOf fr r sz a n=some ((es.drop a).take n):=by
  unfold lvOf
  rw [hb]
  have h4:Nat.ble (a+n) es.length=true:=by rw [Nat.ble_eq];exact hn
  simp [h4]
 unfold evP indexAddrS
 simp only [he,hx,hi,h1,h2,h3,Bool.and_self,Int.toNat_natCast])
end
def zWr:List AV:=[.int .i64 0,.int .i64 0,.int .i64 0,.arr [],.int .i64 0,.int .i64 0,.int .i64 0,.int .i64 0,.int .i64 0,.int .i64 0,.int .i64 0,.int .i64 0,.int .i64 0,.int .i64 0,.int .i64 0,.int .i64 0]
theorem clrV (fr:Fr) (r a n:Nat):clearE cfg.P fr 120 (.lv r 16 a n)=clearRow fr zWr r 16 a n:=by kernel_rfl
theorem clrL (fr:Fr) (r:Nat):clearE cfg.P fr 120 (.ls r)=match fr[r]? with
 | some (.row _ _ _ es)=>clearRow fr zWr r 16 0 es.length
 | _=>none:=by kernel_rfl
theorem clr_row {fr:Fr} {tch:Bool} {es:List (List AV)} {zs:List AV} {sz a n r:Nat} (hb:fr[r]?=some (.row false tch sz es)) (h:a+n≤es.length):clearRow fr zs r sz a n=some (.dead,fr.set r (.row false tch sz (es.take a++List.replicate n zs++es.drop (a+n))),[]):=by
 unfold clearRow
 rw [hb]
 have h2:(Nat.beq sz sz && Nat.ble (a+n) es.length)=true:=by
  rw [Bool.and_eq_true,Nat.ble_eq]
  exact ⟨by simp,h⟩
 simp only [h2]
theorem del_c {W:List Wr} {k:Int} (hl:W.length≤1000):∃ r es,Cl cfg 118 [.ls 0,.t (.fn (.func 120) 0 [.tp [.int .i64 k]])] [.row false false 16 (wrE W)] r [.row false false 16 es]∧(r=.ls 0∧es=wrE (ofK W k)∨∃ i,r=.lv 0 16 0 i∧i≤es.length∧es.take i=wrE (ofK W k)):=by
 have ki:=idxK_c (l:=W) (p:=fun x=>!decide (x.u.kind=k)) (c:=.tp [.int .i64 k]) (by omega) fun x _=>vk_c x k
 have hlW:=wrE_len W
 rcases idx_split (fun x:Wr=>!decide (x.u.kind=k)) W 0 with ⟨h1,h2⟩|⟨q0,w0,h1,h2,h3,h4⟩
 ·
  rw [h1] at ki
  refine ⟨.ls 0,wrE W,?_,.inl ⟨rfl,by rw [ofK_all h2]⟩⟩
  refine Cl.of_body rfl Tryz.func118 rfl rfl rfl ?_
  repeat' (first
|(with_reducible apply EvK.seq)
|((with_reducible apply EvK.text);(try case hm=>exact rfl))
|(with_reducible first|apply EvK.ret|apply thenK_r)
|((with_reducible apply EvK.cond_t);(case hc=>exact rfl))
|((with_reducible apply EvO.spd_t);(case hp=>exact fao))
|(with_reducible apply EvO.nilT)
|((with_reducible apply EvO.u0);(case hx=>first
|(exact oqF ki)
|exact opq))
|fail)
  exact ⟨.inr rfl,rfl⟩
 ·
  rw [h1,Int.zero_add] at ki
  have hq0:=lt_of_get h2
  obtain ⟨s1,s2⟩:=rowD_start h2 h3 h4
  have hD:=rowD_len (W:=W) (k:=k) (Nat.le_refl W.length)
  have hcl:cntD W k W.length < W.length:=by
   have:=cntD_le W k W.length
   rcases Nat.lt_or_ge (cntD W k W.length) W.length with h|h
   ·exact h
   ·exfalso
    have he:cntD W k W.length=W.length:=by omega
    unfold cntD at he
    rw [List.take_length] at he
    have:=(List.length_filter_eq_length_iff (p:=fun w:Wr=>decide (w.u.kind=k)) (l:=W)).1 he w0 (List.mem_of_getElem? h2)
    rw [this] at h3
    cases h3
  have hfin:(rowD W k W.length).take (cntD W k W.length)=wrE (ofK W k):=by
   unfold rowD cntD
   rw [List.take_length]
   unfold wrE
   rw [← List.map_take,List.take_left']
   rfl
  refine ⟨.lv 0 16 0 (cntD W k W.length),(rowD W k W.length).take (cntD W k W.length)++List.replicate (W.length - cntD W k W.length) zWr++(rowD W k W.length).drop (cntD W k W.length+(W.length - cntD W k W.length)),?_,.inr ⟨_,rfl,?_,?_⟩⟩
  rotate_left
  ·simp
   omega
  ·rw [List.append_assoc,List.take_append_of_le_length (by simp;omega),List.take_take,Nat.min_self,hfin]
  refine Cl.of_body rfl Tryz.func118 rfl rfl rfl ?_
  repeat' (first
|(with_reducible first|apply EvK.seq|apply EvK.block)
|((with_reducible apply EvK.text);(try case hm=>exact rfl))
|(with_reducible first|apply EvK.skip|apply thenK_n)
|((with_reducible apply EvK.cond_f);(case hc=>exact rfl))
|((with_reducible apply EvO.spd_f);(case hp=>exact fao))
|(with_reducible apply EvO.nilT)
|((with_reducible apply EvO.u0);(case hx=>first
|(exact oqF ki)
|exact opq))
|fail)
  apply EvK.loopV
  case ho=>exact rfl
  case hp=>exact rfl
  case hl=>exact rfl
  case hs=>exact slt
  refine EvL.indF (fun q:Nat=>[(5,.t (.int .i64 (cntD W k q:Int))),(6,.t (.int .i64 (q:Int)))]) (fun q=>[.row false false 16 (rowD W k q)]) (fun q=>q≤W.length) (fun q=>W.length - q) (q0+1) (by rw [s2];rfl) (by rw [s1]) (by omega) (fun q hq=>?_)
  have hln:=rowD_len (k:=k) hq
  have hcq:=cntD_le W k q
  rcases Nat.lt_or_ge q W.length with g3|g3
  ·
   obtain ⟨w,hw⟩:=get_of_lt g3
   have hk':=rowD_get (k:=k) hw
   have kv:=vk_c w k
   have hyes:=cntD_yes (k:=k) hw
   have hput:=rowD_put (k:=k) hw
   have hno:=rowD_no (k:=k) hw
   rw [wrC_eq] at hk' kv hput
   obtain ⟨R,hR⟩:∃ R,rowD W k q=R:=⟨_,rfl⟩
   obtain ⟨c,hc⟩:∃ c,cntD W k q=c:=⟨_,rfl⟩
   rw [hR] at hk' hln hput hno ⊢
   rw [hc] at hcq hyes hput hno ⊢
   by_cases hkk:w.u.kind=k
   ·
    rw [decide_eq_true hkk] at kv
    have hput:=hput hkk
    have hyes:=hyes hkk
    obtain ⟨o,ho⟩:=get_of_lt (xs:=R) (k:=c) (by omega)
    have hol:o.length=16:=by
     have:o∈wrE (ofK (W.take q) k++W.drop (ofK (W.take q) k).length):=by
      have h:=List.mem_of_getElem? ho
      rw [← hR] at h
      exact h
     obtain ⟨w',_,rfl⟩:=List.mem_map.1 this
     rfl
    repeat' (first
|(with_reducible first|apply EvK.seq|apply EvK.block)
|((with_reducible apply EvK.text);(try case hm=>exact rfl))
|(with_reducible first|apply EvK.skip|apply thenK_n)
|((with_reducible apply EvK.cond_t);(case hc=>exact rfl))
|((with_reducible apply EvO.spd_t);(case hp=>exact fao))
|(with_reducible first|apply EvO.nilT|apply EvO.nilB)
|((with_reducible apply EvO.u0);(case hx=>first
|((with_reducible apply OpR.stq);(case hs=>exact fun _=>rfl);(case ht=>exact sz23);(case ha|hy=>exact rfl);(case hone=>kernel_rfl);(case hl|hb=>exact rfl);(case hk=>exact ho);(case ho=>exact hol);(case hv=>exact hput);(case hf=>exact leq))
|(exact oqF kv)
|exact opq))
|fail)
    exact ⟨q+1,by rw [hyes];rfl,rfl,by omega,by omega⟩
   ·
    rw [decide_eq_false hkk] at kv
    obtain ⟨n1,n2⟩:=hno hkk
    repeat' (first
|(with_reducible first|apply EvK.seq|apply EvK.block)
|((with_reducible apply EvK.text);(try case hm=>exact rfl))
|(with_reducible first|apply EvK.skip|apply thenK_n|apply blockK_n)
|((with_reducible apply EvK.cond_t);(case hc=>exact rfl))
|((with_reducible apply EvK.cond_f);(case hc=>exact rfl))
|((with_reducible apply EvO.spd_t);(case hp=>exact fao))
|(with_reducible apply EvO.nilT)
|((with_reducible apply EvO.u0);(case hx=>first
|(exact oqF kv)
|exact opq))
|fail)
    exact ⟨q+1,by rw [n2];rfl,by rw [n1];rfl,by omega,by omega⟩
  ·
   obtain rfl:q=W.length:=by omega
   obtain ⟨R,hR⟩:∃ R,rowD W k W.length=R:=⟨_,rfl⟩
   obtain ⟨c,hc⟩:∃ c,cntD W k W.length=c:=⟨_,rfl⟩
   rw [hR] at hln ⊢
   rw [hc] at hcl ⊢
   rw [← hln] at hcl ⊢
   have hvh:=view_hi (r:=0) (sz:=16) (n:=R.length) (q:=c) (k:=.i64) hcl
   rcases Nat.eq_zero_or_pos c with h0|h0
   ·
    subst h0
    have hvh2:viewS 0 16 0 (R.take 0++List.replicate R.length zWr++R.drop (0+R.length)).length (R.take 0++List.replicate R.length zWr++R.drop (0+R.length)).length none (some (.t (.int .i64 ((0:Nat):Int))))=some (.lv 0 16 0 0):=view_hi (by simp;omega)
    repeat' (first
|(with_reducible apply EvK.seq)
|((with_reducible apply EvK.text);(try case hm=>exact rfl))
|(with_reducible first|apply EvK.exit|apply EvK.ret|apply thenK_n|apply thenK_e|apply blockK_h)
|((with_reducible apply EvK.cond_f);(case hc=>exact rfl))
|((with_reducible apply EvO.spd_f);(case hp=>exact fao))
|(with_reducible apply EvO.nilT)
|((with_reducible apply EvO.u0);(case hx=>first
|((with_reducible apply OpR.slv);(case he=>first|(with_reducible exact el0)|(with_reducible exact el1)|(with_reducible exact el2)|(with_reducible exact el3)|(with_reducible exact el4)|(with_reducible exact el5)|(with_reducible exact el6)|(with_reducible exact el7)|exact rfl);(case hx|hl|hh|hb=>exact rfl);(case hv=>exact view_lo0))
|((with_reducible apply OpR.slv);(case he=>first|(with_reducible exact el0)|(with_reducible exact el1)|(with_reducible exact el2)|(with_reducible exact el3)|(with_reducible exact el4)|(with_reducible exact el5)|(with_reducible exact el6)|(with_reducible exact el7)|exact rfl);(case hx|hl|hh|hb=>exact rfl);(case hv=>exact hvh2))
|((with_reducible apply OpR.clr);(case hs=>exact fun _=>rfl);(case ha|ht|hy=>exact rfl);(case hm=>exact (clrL _ 0).trans (clr_row (tch:=false) (es:=R) (a:=0) (n:=R.length) rfl (by omega)));(case hf=>exact leq))
|exact opq))
|fail)
    exact ⟨.inr rfl,rfl⟩
   ·
    have hvl:=view_lo (r:=0) (sz:=16) (n:=R.length) (q:=c) (k:=.i64) h0 hcl
    have hvh2:viewS 0 16 0 (R.take c++List.replicate (R.length - c) zWr++R.drop (c+(R.length - c))).length (R.take c++List.replicate (R.length - c) zWr++R.drop (c+(R.length - c))).length none (some (.t (.int .i64 (c:Int))))=some (.lv 0 16 0 c):=view_hi (by simp;omega)
    repeat' (first
|(with_reducible apply EvK.seq)
|((with_reducible apply EvK.text);(try case hm=>exact rfl))
|(with_reducible first|apply EvK.exit|apply EvK.ret|apply thenK_n|apply thenK_e|apply blockK_h)
|((with_reducible apply EvK.cond_f);(case hc=>exact rfl))
|((with_reducible apply EvO.spd_f);(case hp=>exact fao))
|(with_reducible apply EvO.nilT)
|((with_reducible apply EvO.u0);(case hx=>first
|((with_reducible apply OpR.slv);(case he=>first|(with_reducible exact el0)|(with_reducible exact el1)|(with_reducible exact el2)|(with_reducible exact el3)|(with_reducible exact el4)|(with_reducible exact el5)|(with_reducible exact el6)|(with_reducible exact el7)|exact rfl);(case hx|hl|hh|hb=>exact rfl);(case hv=>exact hvl))
|((with_reducible apply OpR.slv);(case he=>first|(with_reducible exact el0)|(with_reducible exact el1)|(with_reducible exact el2)|(with_reducible exact el3)|(with_reducible exact el4)|(with_reducible exact el5)|(with_reducible exact el6)|(with_reducible exact el7)|exact rfl);(case hx|hl|hh|hb=>exact rfl);(case hv=>exact hvh2))
|((with_reducible apply OpR.clr);(case hs=>exact fun _=>rfl);(case ha|ht|hy=>exact rfl);(case hm=>exact (clrV _ 0 c (R.length - c)).trans (clr_row (tch:=false) (es:=R) rfl (by omega)));(case hf=>exact leq))
|exact opq))
|fail)
    exact ⟨.inr rfl,rfl⟩
theorem newsW (W:List Wr):newsOk 16 (wrE W)=true:=by
 unfold newsOk wrE
 rw [List.all_map]
 exact List.all_eq_true.2 fun w _=>rfl
theorem clone_w {W:List Wr} (hl:W.length≤1000) (h:W≠[]):Cl cfg 119 [.t (.arr (wrE W))] [] (.ls 0) [.row false false 16 (wrE W)]:=by
 cases W with
 | nil=>exact absurd rfl h
 | cons w W=>
  have h1:newsOk 16 (wrC w::wrE W)=true:=newsW (w::W)
  have h2:Nat.ble (wrE W).length 999999=true:=by
   rw [Nat.ble_eq,wrE_len]
   simp at hl
   omega
  have e:cloneG 16 (wrC w::wrE W)=match newsOk 16 (wrC w::wrE W) && Nat.ble (wrE W).length 999999 with
   | true=>some (.ls 0,[.row false false 16 (wrC w::wrE W)])
   | false=>none:=rfl
  rw [h1,h2] at e
  exact ⟨1,e⟩
theorem tre_lv {B:Lb} {es:List (List AV)} {i:Nat} (h:i≤es.length):treT true 0 (finO 0 (some (.lv 1 16 0 i)) [B,.row false false 16 es])=some (.t (.arr (es.take i)),[]):=by
 have e:lvOf [.row false false 16 es] 0 16 0 i=some (es.take i):=by
  have h2:Nat.ble (0+i) es.length=true:=by rw [Nat.ble_eq];omega
  show (match Nat.beq 16 16 && Nat.ble (0+i) es.length with|true=>some ((es.drop 0).take i)|false=>none)=_
  rw [h2]
  rfl
 have e1:finO 0 (some (.lv 1 16 0 i)) [B,.row false false 16 es]=some (.lv 0 16 0 i,[.row false false 16 es]):=by
  cases B <;> rfl
 rw [e1]
 show (match (match lvOf [.row false false 16 es] 0 16 0 i with|some es=>some (AV.arr es)|none=>none) with|some x=>some (SV.t x,([]:Fr))|none=>some (.lv 0 16 0 i,[.row false false 16 es]))=_
 rw [e]
theorem of_c {W:List Wr} {k:Int} (hl:W.length≤1000):Cl cfg 117 [.t (.arr (wrE W)),.t (.int .i64 k)] [] (.t (.arr (wrE (ofK W k)))) []:=by
 rcases List.eq_nil_or_concat W with h0|⟨W',w,h0⟩
 ·
  subst h0
  have kc:Cl cfg 119 [.t (.arr (wrE []))] [] (.t (.arr [])) []:=⟨1,rfl⟩
  have ki:Cl cfg 163 [.t (.arr []),.t (.fn (.func 120) 0 [.tp [.int .i64 k]])] [] (.t (.int .i64 (-1))) []:=idxK_c (l:=[]) (p:=fun x=>!decide (x.u.kind=k)) (c:=.tp [.int .i64 k]) (by simp) fun x _=>vk_c x k
  have kd:Cl cfg 118 [.t (.arr []),.t (.fn (.func 120) 0 [.tp [.int .i64 k]])] [] (.t (.arr [])) []:=by
   refine Cl.of_body rfl Tryz.func118 rfl rfl rfl ?_
   repeat' (first
|(with_reducible apply EvK.seq)
|((with_reducible apply EvK.text);(try case hm=>exact rfl))
|(with_reducible first|apply EvK.ret|apply thenK_r)
|((with_reducible apply EvK.cond_t);(case hc=>exact rfl))
|((with_reducible apply EvO.spd_t);(case hp=>exact fao))
|(with_reducible apply EvO.nilT)
|((with_reducible apply EvO.u0);(case hx=>first
|(exact oqF ki)
|exact opq))
|fail)
   exact ⟨.inr rfl,rfl⟩
  refine Cl.of_bodyT rfl Tryz.func117 rfl rfl rfl ?_
  repeat' (first
|(with_reducible apply EvK.seq)
|((with_reducible apply EvK.text);(try case hm=>exact rfl))
|(with_reducible first|apply EvK.ret|apply EvO.nilT)
|((with_reducible apply EvO.u0);(case hx=>first
|(exact oqC kd)
|(exact oqN kc)
|exact opq))
|fail)
  exact ⟨.inr rfl,rfl⟩
 ·
  have hne:W≠[]:=by rw [h0];simp
  have kc:=clone_w hl hne
  obtain ⟨r,es,kd,⟨rfl,rfl⟩|⟨i,rfl,h1,h2⟩⟩:=del_c (W:=W) (k:=k) hl
  ·
   refine Cl.of_bodyT rfl Tryz.func117 rfl rfl rfl ?_
   repeat' (first
|(with_reducible apply EvK.seq)
|((with_reducible apply EvK.text);(try case hm=>exact rfl))
|(with_reducible first|apply EvK.ret|apply EvO.nilT)
|((with_reducible apply EvO.u0);(case hx=>first
|(exact oqX kc)
|(exact oqU [1] kd)
|exact opq))
|fail)
   exact ⟨.inr rfl,rfl⟩
  ·
   rw [← h2]
   refine Cl.of_bodyT rfl Tryz.func117 rfl rfl rfl ?_
   repeat' (first
|(with_reducible apply EvK.seq)
|((with_reducible apply EvK.text);(try case hm=>exact rfl))
|(with_reducible first|apply EvK.ret|apply EvO.nilT)
|((with_reducible apply EvO.u0);(case hx=>first
|(exact oqX kc)
|(exact oqU [1] kd)
|exact opq))
|fail)
   exact ⟨.inr rfl,tre_lv h1⟩
end Go.Proofs.YtgbfedgghjcdcaaGreatDoor
namespace Go.Proofs.YtgbfedgghjcdcaaGreatDoor
open Go.RowKit
set_option maxRecDepth 100000
set_option maxHeartbeats 32000000
theorem bit_c (b:Bool):Cl cfg 122 [.t (.bool b)] [] (.tc (intsE (bitI b))) []:=by
 refine Cl.of_body rfl Tryz.func122 rfl rfl rfl ?_
 cases b with
 | true=>
  repeat' (first
|(with_reducible apply EvK.seq)
|((with_reducible apply EvK.text);(try case hm=>exact rfl))
|(with_reducible first|apply EvK.ret|apply thenK_r)
|((with_reducible apply EvK.cond_t);(case hc=>exact rfl))
|(with_reducible apply EvO.nilT)
|((with_reducible apply EvO.u0);(case hx=>exact opq))
|fail)
  exact ⟨.inr rfl,rfl⟩
 | false=>
  repeat' (first
|(with_reducible apply EvK.seq)
|((with_reducible apply EvK.text);(try case hm=>exact rfl))
|(with_reducible first|apply EvK.skip|apply EvK.ret|apply thenK_n)
|((with_reducible apply EvK.cond_f);(case hc=>exact rfl))
|(with_reducible apply EvO.nilT)
|((with_reducible apply EvO.u0);(case hx=>exact opq))
|fail)
  exact ⟨.inr rfl,rfl⟩
structure WrsL (W:List Wr):Prop where
 len:W.length≤1000
 past:∀ w∈W,w.e.past.length≤1000
theorem WrsL.pst {W:List Wr} (h:WrsL W):∀ w∈W,w.e.past.length≤140737488351232:=fun w hw=>Nat.le_trans (h.past w hw) (by omega)
theorem WrsL.of {W:List Wr} (h:WrsL W) (k:Int):(ofK W k).length≤1000:=Nat.le_trans (List.length_filter_le _ _) h.len
def ofF:AV:=.tp [.fn (.func 117) 0 []]
theorem val2_c {W:List Wr} (h:WrsL W):Cl cfg 121 [.t (.arr (wrE W)),.t ofF] [] (.t (intsA (bitI ((ofK W 0).any fun w=>!seenW w W 1)))) []:=by
 have ho:=of_c (k:=0) h.len
 have hof:=h.of 0
 have kc:=conA_c (l:=ofK W 0) (p:=fun w=>!seenW w W 1) (c:=.tp [.arr (wrE W)]) (by omega) fun w _=>unA_c (w:=w) (Nat.le_trans h.len (by omega)) h.pst
 obtain ⟨b,hb⟩:∃ b,((ofK W 0).any fun w=>!seenW w W 1)=b:=⟨_,rfl⟩
 rw [hb] at kc ⊢
 have kb:=bit_c b
 unfold ofF
 refine Cl.of_bodyT rfl Tryz.func121 rfl rfl rfl ?_
 repeat' (first
|(with_reducible apply EvK.seq)
|((with_reducible apply EvK.text);(try case hm=>exact rfl))
|(with_reducible first|apply EvK.ret|apply EvO.nilT)
|((with_reducible apply EvO.u0);(case hx=>first
|(exact oqN ho)
|(exact oqF kc)
|(exact oqN kb)
|exact opq))
|fail)
 exact ⟨.inr rfl,rfl⟩
theorem val3_c {W:List Wr} (h:WrsL W):Cl cfg 126 [.t (.arr (wrE W)),.t ofF] [] (.t (intsA (bitI (decide (ofK W 0≠[]) && !(ofK W 1).any fun w=>!seenW w W 0)))) []:=by
 have ho:=of_c (k:=0) h.len
 have ho1:=of_c (k:=1) h.len
 have hof:=h.of 0
 have hof1:=h.of 1
 have hlo:=wrE_len (ofK W 0)
 have kc:=conB_c (l:=ofK W 1) (p:=fun w=>!seenW w W 0) (c:=.tp [.arr (wrE W)]) (by omega) fun w _=>unB_c (w:=w) (Nat.le_trans h.len (by omega)) h.pst
 obtain ⟨b,hb⟩:∃ b,((ofK W 1).any fun w=>!seenW w W 0)=b:=⟨_,rfl⟩
 rw [hb] at kc ⊢
 have kb:=bit_c (decide (ofK W 0≠[]) && !b)
 have hne:decide (ofK W 0≠[])=decide (0 < (ofK W 0).length):=by
  cases ofK W 0 <;> simp
 rw [hne] at kb ⊢
 obtain ⟨O,hO⟩:∃ O,ofK W 0=O:=⟨_,rfl⟩
 rw [hO] at ho hof hlo kb ⊢
 by_cases hp:0 < O.length
 ·
  rw [decide_eq_true hp] at kb ⊢
  unfold ofF
  refine Cl.of_bodyT rfl Tryz.func126 rfl rfl rfl ?_
  repeat' (first
|(with_reducible apply EvK.seq)
|((with_reducible apply EvK.text);(try case hm=>exact rfl))
|(with_reducible apply EvK.ret)
|((with_reducible apply EvO.spd_t);(case hp=>exact fao))
|(with_reducible apply EvO.nilT)
|((with_reducible apply EvO.gt0);(case hW=>exact rfl);(case hx=>first
|(exact oqN ho1)
|(exact oqF kc)
|exact opq))
|((with_reducible apply EvO.u0);(case hx=>first
|(exact oqN ho)
|(exact oqN kb)
|exact opq))
|fail)
  exact ⟨.inr rfl,rfl⟩
 ·
  rw [decide_eq_false hp] at kb ⊢
  unfold ofF
  refine Cl.of_bodyT rfl Tryz.func126 rfl rfl rfl ?_
  repeat' (first
|(with_reducible apply EvK.seq)
|((with_reducible apply EvK.text);(try case hm=>exact rfl))
|(with_reducible apply EvK.ret)
|((with_reducible apply EvO.spd_f);(case hp=>exact fao))
|(with_reducible apply EvO.nilT)
|((with_reducible apply EvO.gf);(case hW=>exact rfl))
|((with_reducible apply EvO.u0);(case hx=>first
|(exact oqN ho)
|(exact oqN kb)
|exact opq))
|fail)
  exact ⟨.inr rfl,rfl⟩
theorem sgL (a b c d:Int):decide (0 < orS [sg a b,sg c d])=(decide (b < a) || (decide (b=a) && decide (d < c))):=by
 unfold orS sg
 rcases Int.lt_trichotomy a b with h|h|h
 ·simp [orS,h];omega
 ·subst h
  rcases Int.lt_trichotomy c d with h|h|h <;> simp [orS,h] <;> omega
 ·simp [orS,h];omega
theorem cmp4_c (a b:Wr):Cl cfg 130 [.t (.agg (wrC a)),.t (.agg (wrC b))] [] (.t (.int .i64 (orS [sg a.e.t b.e.t,sg a.e.r b.e.r]))) []:=by
 have k1:=comp_c a.e.t b.e.t
 have k2:=comp_c a.e.r b.e.r
 have k3:=or_c (l:=[sg a.e.t b.e.t,sg a.e.r b.e.r]) (by simp)
 rw [wrC_eq,wrC_eq]
 obtain ⟨x,hx⟩:∃ x,sg a.e.t b.e.t=x:=⟨_,rfl⟩
 obtain ⟨y,hy⟩:∃ y,sg a.e.r b.e.r=y:=⟨_,rfl⟩
 rw [hx] at k1 k3 ⊢
 rw [hy] at k2 k3 ⊢
 refine Cl.of_body rfl Tryz.func130 rfl rfl rfl ?_
 repeat' (first
|(with_reducible apply EvK.seq)
|((with_reducible apply EvK.text);(try case hm=>exact rfl))
|((with_reducible apply EvK.drawn);(case hm=>exact rfl))
|(with_reducible first|apply EvK.ret|apply EvO.nilT)
|((with_reducible apply EvO.u0);(case hx=>first
|(exact oqF k1)
|(exact oqF k2)
|(exact oqF k3)
|exact opq))
|fail)
 exact ⟨.inr rfl,rfl⟩
theorem maxW_snoc {w:Wr}:∀ {r:List Wr} {q:Nat} {x:Wr},r[q]?=some x→maxW w (r.take (q+1))=if laterW x (maxW w (r.take q)) then x else maxW w (r.take q)
 | [],q,x,h=>by simp at h
 | y::r,0,x,h=>by
  simp at h
  subst h
  rfl
 | y::r,q+1,x,h=>by
  rw [List.take_succ_cons,List.take_succ_cons,maxW,maxW]
  exact maxW_snoc (by simpa using h)
theorem maxW_c {w:Wr} {r:List Wr} (hl:r.length≤1000):Cl cfg 129 [.t (.arr (wrE (w::r))),.t (.fn (.func 130) 0 [])] [] (.t (.agg (wrC (maxW w r)))) []:=by
 have hlE:=wrE_len (w::r)
 have hln:(w::r).length=r.length+1:=rfl
 have hc0:(wrE (w::r))[0]?=some (wrC w):=rfl
 rw [wrC_eq] at hc0
 obtain ⟨E,hE⟩:∃ E,wrE (w::r)=E:=⟨_,rfl⟩
 have hget:∀ q x,r[q]?=some x→E[q+1]?=some (wrC x):=fun q x hx=>by
  rw [← hE]
  exact map_get (f:=wrC) (l:=w::r) (k:=q+1) hx
 rw [hE] at hlE hc0 ⊢
 rw [hln] at hlE
 refine Cl.of_body rfl Tryz.func129 rfl rfl rfl ?_
 repeat' (first
|(with_reducible first|apply EvK.seq|apply EvK.block)
|((with_reducible apply EvK.text);(try case hm=>exact rfl))
|(with_reducible first|apply EvK.skip|apply thenK_n)
|((with_reducible apply EvK.cond_f);(case hc=>exact rfl))
|((with_reducible apply EvO.spd_f);(case hp=>exact fao))
|(with_reducible apply EvO.nilT)
|((with_reducible apply EvO.u0);(case hx=>exact opq))
|fail)
 apply EvK.loopV
 case ho=>exact rfl
 case hp=>exact rfl
 case hl=>exact rfl
 case hs=>exact slt
 refine EvL.indF (fun q:Nat=>[(6,.t (.int .i64 ((q+1:Nat):Int)))]) (fun q=>[.box false 155 [.t (.int .i64 0),.t (.int .i64 0),.t (.int .i64 0),.nil,.t (.int .i64 0),.t (.int .i64 0),.t (.int .i64 0),.t (.int .i64 0),.t (.int .i64 0),.t (.int .i64 0),.t (.int .i64 0),.t (.int .i64 0),.t (.int .i64 0),.t (.int .i64 0),.t (.int .i64 0),.t (.int .i64 0)],.box false 155 ((wrC (maxW w (r.take q))).map .t)]) (fun q=>q≤r.length) (fun q=>r.length - q) 0 rfl rfl (by omega) (fun q hq=>?_)
 rcases Nat.lt_or_ge q r.length with h3|h3
 ·
  obtain ⟨x,hx⟩:=get_of_lt h3
  have hc:=hget q x hx
  have hm:=maxW_snoc (w:=w) hx
  obtain ⟨M,hM⟩:∃ M,maxW w (r.take q)=M:=⟨_,rfl⟩
  rw [hM] at hm ⊢
  have kc:=cmp4_c x M
  have hs:=sgL x.e.t M.e.t x.e.r M.e.r
  have hlw:laterW x M=(decide (M.e.t < x.e.t) || (decide (M.e.t=x.e.t) && decide (M.e.r < x.e.r))):=rfl
  rw [← hlw] at hs
  rw [wrC_eq] at hc
  rw [wrC_eq,wrC_eq] at kc
  obtain ⟨c,hcc⟩:∃ c,orS [sg x.e.t M.e.t,sg x.e.r M.e.r]=c:=⟨_,rfl⟩
  rw [hcc] at kc hs
  have e1:wrC M=[.int .i64 M.e.r,.int .i64 M.e.n,.int .i64 M.e.t,intsA M.e.past,.int .i64 M.e.k,.int .i64 M.e.a,.int .i64 M.e.gk,.int .i64 M.e.gi,.int .i64 M.e.ge,.int .i64 M.e.ga,.int .i64 M.e.to,.int .i64 M.e.pl,.int .i64 M.e.se,.int .i64 M.u.kind,.int .i64 M.u.cell,.int .i64 M.u.value]:=rfl
  rw [e1]
  by_cases hcp:0 < c
  ·
   rw [decide_eq_true hcp] at hs
   rw [← hs,if_pos rfl] at hm
   repeat' (first
|(with_reducible first|apply EvK.seq|apply EvK.block)
|((with_reducible apply EvK.text);(try case hm=>exact rfl))
|((with_reducible apply EvK.drawn);(case hm=>exact rfl))
|(with_reducible first|apply EvK.skip|apply thenK_n)
|((with_reducible apply EvK.cond_t);(case hc=>exact rfl))
|((with_reducible apply EvO.spd_t);(case hp=>exact fao))
|(with_reducible first|apply EvO.nilT|apply EvO.nilB)
|((with_reducible apply EvO.u0);(case hx=>first
|(exact oqF kc)
|exact opq))
|fail)
   exact ⟨q+1,rfl,by rw [hm];rfl,by omega,by omega⟩
  ·
   rw [decide_eq_false hcp] at hs
   rw [← hs,if_neg (by decide)] at hm
   repeat' (first
|(with_reducible first|apply EvK.seq|apply EvK.block)
|((with_reducible apply EvK.text);(try case hm=>exact rfl))
|((with_reducible apply EvK.drawn);(case hm=>exact rfl))
|(with_reducible first|apply EvK.skip|apply thenK_n|apply blockK_n)
|((with_reducible apply EvK.cond_t);(case hc=>exact rfl))
|((with_reducible apply EvK.cond_f);(case hc=>exact rfl))
|((with_reducible apply EvO.spd_t);(case hp=>exact fao))
|((with_reducible apply EvO.spd_f);(case hp=>exact fao))
|(with_reducible apply EvO.nilT)
|((with_reducible apply EvO.u0);(case hx=>first
|(exact oqF kc)
|exact opq))
|fail)
   exact ⟨q+1,rfl,by rw [hm];rfl,by omega,by omega⟩
 ·
  rw [List.take_of_length_le h3]
  repeat' (first
|(with_reducible apply EvK.seq)
|((with_reducible apply EvK.text);(try case hm=>exact rfl))
|(with_reducible first|apply EvK.exit|apply EvK.ret|apply thenK_n|apply thenK_e|apply blockK_h)
|((with_reducible apply EvK.cond_f);(case hc=>exact rfl))
|((with_reducible apply EvO.spd_f);(case hp=>exact fao))
|(with_reducible apply EvO.nilT)
|((with_reducible apply EvO.u0);(case hx=>exact opq))
|fail)
  exact ⟨.inr rfl,rfl⟩
theorem val4_c {W:List Wr} {n:Int} (h:WrsL W):Cl cfg 128 [.t (.arr (wrE W)),.t ofF,.t (.tp [.int .i64 n])] [] (.t (intsA (match ofK W 2 with|[]=>[n]|w::r=>[(maxW w r).u.value]))) []:=by
 have ho:=of_c (k:=2) h.len
 have hof:=h.of 2
 have hlo:=wrE_len (ofK W 2)
 obtain ⟨O,hO⟩:∃ O,ofK W 2=O:=⟨_,rfl⟩
 rw [hO] at ho hof hlo ⊢
 cases O with
 | nil=>
  have hz:([]:List Wr).length=0:=rfl
  unfold ofF
  refine Cl.of_bodyT rfl Tryz.func128 rfl rfl rfl ?_
  repeat' (first
|(with_reducible apply EvK.seq)
|((with_reducible apply EvK.text);(try case hm=>exact rfl))
|(with_reducible first|apply EvK.ret|apply thenK_r)
|((with_reducible apply EvK.cond_t);(case hc=>exact rfl))
|((with_reducible apply EvO.spd_t);(case hp=>exact fao))
|(with_reducible apply EvO.nilT)
|((with_reducible apply EvO.u0);(case hx=>first
|(exact oqN ho)
|exact opq))
|fail)
  exact ⟨.inr rfl,rfl⟩
 | cons w r=>
  have km:=maxW_c (w:=w) (r:=r) (by simp at hof;omega)
  have hln:(w::r).length=r.length+1:=rfl
  rw [hln] at hlo
  show Cl cfg _ _ [] (.t (intsA [(maxW w r).u.value])) []
  obtain ⟨M,hM⟩:∃ M,maxW w r=M:=⟨_,rfl⟩
  rw [hM] at km ⊢
  rw [wrC_eq M] at km
  obtain ⟨E,hE⟩:∃ E,wrE (w::r)=E:=⟨_,rfl⟩
  rw [hE] at km hlo ho
  unfold ofF
  refine Cl.of_bodyT rfl Tryz.func128 rfl rfl rfl ?_
  repeat' (first
|(with_reducible apply EvK.seq)
|((with_reducible apply EvK.text);(try case hm=>exact rfl))
|(with_reducible first|apply EvK.skip|apply EvK.ret|apply thenK_n)
|((with_reducible apply EvK.cond_f);(case hc=>exact rfl))
|((with_reducible apply EvO.spd_f);(case hp=>exact fao))
|(with_reducible apply EvO.nilT)
|((with_reducible apply EvO.u0);(case hx=>first
|(exact oqN ho)
|(exact oqN km)
|exact opq))
|fail)
  exact ⟨.inr rfl,rfl⟩
end Go.Proofs.YtgbfedgghjcdcaaGreatDoor
namespace Go.Proofs.YtgbfedgghjcdcaaGreatDoor
open Go.RowKit
set_option maxRecDepth 100000
set_option maxHeartbeats 32000000
theorem dedup_two:∀ (l:List Int) (x y:Int),dedupI (l++[x,y])=if x=y then dedupI (l++[x]) else dedupI (l++[x])++[y]
 | [],x,y=>by
  by_cases h:x=y <;> simp [dedupI,h]
 | [a],x,y=>by
  have:=dedup_two [] x y
  simp only [List.nil_append] at this
  show dedupI (a::x::[y])=if x=y then dedupI (a::[x]) else dedupI (a::[x])++[y]
  rw [dedupI,this]
  by_cases h:x=y <;> by_cases h2:a=x <;> simp [dedupI,h,h2]
 | a::b::l,x,y=>by
  have:=dedup_two (b::l) x y
  simp only [List.cons_append] at this ⊢
  rw [dedupI,dedupI,this]
  by_cases h:x=y <;> by_cases h2:a=b <;> simp [h,h2]
theorem dedup_step {S:List Int} {q:Nat} {x y:Int} (hx:S[q]?=some x) (hy:S[q+1]?=some y):dedupI (S.take (q+2))=if x=y then dedupI (S.take (q+1)) else dedupI (S.take (q+1))++[y]:=by
 have e1:S.take (q+1)=S.take q++[x]:=by rw [List.take_add_one,hx];rfl
 have e2:S.take (q+2)=S.take q++[x,y]:=by rw [List.take_add_one,hy,e1];simp
 rw [e2,e1]
 exact dedup_two _ x y
def dupN (S:List Int) (q:Nat):Nat:=(dedupI (S.take q)).length
def rowU (S:List Int) (q:Nat):List (List AV):=intsE (dedupI (S.take q)++S.drop (dupN S q))
theorem dupN_le {S:List Int}:∀ {q:Nat},q≤S.length→dupN S q≤q
 | 0,_=>by simp [dupN,dedupI]
 | 1,h=>by
  cases S with
  | nil=>simp at h
  | cons x S=>simp [dupN,dedupI]
 | q+2,h=>by
  obtain ⟨x,hx⟩:=get_of_lt (xs:=S) (k:=q) (by omega)
  obtain ⟨y,hy⟩:=get_of_lt (xs:=S) (k:=q+1) (by omega)
  have ih:=dupN_le (S:=S) (q:=q+1) (by omega)
  unfold dupN at ih ⊢
  rw [dedup_step hx hy]
  split
  ·omega
  ·rw [List.length_append,List.length_singleton];omega
theorem rowU_len {S:List Int} {q:Nat} (h:q≤S.length):(rowU S q).length=S.length:=by
 have:=dupN_le h
 unfold rowU
 rw [intsE_len,List.length_append,List.length_drop]
 unfold dupN at this ⊢
 omega
theorem rowU_get {S:List Int} {q k:Nat} {x:Int} (hq:q≤S.length) (hk:dupN S q≤k) (h:S[k]?=some x):(rowU S q)[k]?=some [.int .i64 x]:=by
 refine intsE_get ?_
 unfold dupN at hk
 rw [List.getElem?_append_right hk,List.getElem?_drop,← h]
 congr 1
 unfold dupN
 omega
theorem rowU_yes {S:List Int} {q:Nat} {y:Int} (h:dedupI (S.take (q+1))=dedupI (S.take q)++[y]) (hc:dupN S q < S.length):(rowU S q).set (dupN S q) [.int .i64 y]=rowU S (q+1)∧dupN S (q+1)=dupN S q+1:=by
 unfold rowU dupN at *
 rw [h]
 obtain ⟨x,hx⟩:=get_of_lt hc
 refine ⟨?_,by rw [List.length_append,List.length_singleton]⟩
 have e:[AV.int .i64 y]=(fun n:Int=>[AV.int .i64 n]) y:=rfl
 unfold intsE
 rw [e,← List.map_set]
 congr 1
 rw [List.set_append_right _ _ (Nat.le_refl _),Nat.sub_self,List.length_append,List.length_singleton,List.append_assoc,drop_at hx]
 rfl
theorem rowU_no {S:List Int} {q:Nat} (h:dedupI (S.take (q+1))=dedupI (S.take q)):rowU S (q+1)=rowU S q∧dupN S (q+1)=dupN S q:=by
 unfold rowU dupN
 rw [h]
 exact ⟨rfl,rfl⟩
section
variable {g:Cfg} {d:Option (List Nat)} {i:Nat} {env:Env} {fr:Fr}
theorem OpR.ixvm {t e sz r a n:Nat} {x y:Operand} {k:IntKind} {m:Int} {ro tch:Bool} {es:List (List AV)} (he:elemT g.P t=some (e,sz)) (hx:rd env x=.lv r sz a n) (hi:rd env y=.t (.int k m)) (hb:fr[r]?=some (.row ro tch sz es)) (hn:a+n≤es.length) (h0:0≤m) (hq:m.toNat < n) :
  OpR g d i env fr (.indexAddr t x y) (.le r sz (a+m.toNat) 0) fr []:=by
 have hm:m=((m.toNat:Nat):Int):=by omega
 have:=OpR.ixv (d:=d) (i:=i) (y:=y) (k:=k) (q:=m.toNat) he hx (by rw [← hm];exact hi) hb hn hq
 exact this
theorem OpR.lenv {y:Operand} {tys:Array TypeId} {t r sz a n:Nat} {args:Array Operand} {ro tch:Bool} {es:List (List AV)} (ha:args.toList=[y]) (hy:rd env y=.lv r sz a n) (ht:tys[0]?=some t) (hs:isSlT g.P t=true) (hb:fr[r]?=some (.row ro tch sz es)) (hn:a+n≤es.length):OpR g d i env fr (.call ⟨.builtin .len,args,tys⟩) (.t (.int .i64 (n:Int))) fr []:=
 .len (es:=(es.drop a).take n) ha (by rw [hy];exact lvOf_get hb hn rfl) ht hs (by rw [List.length_take,List.length_drop];omega)
end
theorem clrI (fr:Fr) (r a n:Nat):clearE cfg.P fr 22 (.lv r 1 a n)=clearRow fr [.int .i64 0] r 1 a n:=by kernel_rfl
theorem compact_c {S:List Int} (hl:S.length≤1000):∃ r es,Cl cfg 133 [.ls 0] [.row false false 1 (intsE S)] r [.row false false 1 es]∧(r=.ls 0∧es=intsE (dedupI S)∨∃ i,r=.lv 0 1 0 i∧i≤es.length∧es.take i=intsE (dedupI S)):=by
 have hlS:=intsE_len S
 have first:(∀ q,1≤q→q < S.length→S[q]?≠S[q - 1]?)∨∃ q,1≤q∧q < S.length∧S[q]?=S[q - 1]?∧∀ p,1≤p→p < q→S[p]?≠S[p - 1]?:=by
  apply Classical.byContradiction
  intro hn
  have hn1:¬ ∀ q,1≤q→q < S.length→S[q]?≠S[q - 1]?:=fun h=>hn (.inl h)
  have hn2:∀ n q,q≤n→1≤q→q < S.length→S[q]?≠S[q - 1]?:=fun n=>by
   induction n with
   | zero=>intro q h1 h2;omega
   | succ n ih=>
    intro q h1 h2 h3 he
    rcases Nat.lt_or_ge n q with h4|h4
    ·exact hn (.inr ⟨q,h2,h3,he,fun p hp1 hp2=>ih p (by omega) hp1 (by omega)⟩)
    ·exact ih q h4 h2 h3 he
  exact hn1 fun q=>hn2 q q (Nat.le_refl _)
 have same:∀ q,q≤S.length→(∀ p,1≤p→p < q→S[p]?≠S[p - 1]?)→dedupI (S.take q)=S.take q:=fun q=>by
  induction q with
  | zero=>intro _ _;simp [dedupI]
  | succ q ih=>
   intro h1 h2
   cases q with
   | zero=>
    cases S with
    | nil=>rfl
    | cons x S=>simp [dedupI]
   | succ q=>
    obtain ⟨x,hx⟩:=get_of_lt (xs:=S) (k:=q) (by omega)
    obtain ⟨y,hy⟩:=get_of_lt (xs:=S) (k:=q+1) (by omega)
    have hxy:x≠y:=fun e=>h2 (q+1) (by omega) (by omega) (by rw [hy,Nat.add_sub_cancel,hx,e])
    rw [dedup_step hx hy,if_neg hxy,ih (by omega) fun p h3 h4=>h2 p h3 (by omega)]
    conv=>rhs;rw [List.take_add_one,hy]
    rfl
 have pair:∀ q,1≤q→q < S.length→∃ x y,S[q - 1]?=some x∧S[q]?=some y:=fun q h1 h2=>by
  obtain ⟨x,hx⟩:=get_of_lt (xs:=S) (k:=q - 1) (by omega)
  obtain ⟨y,hy⟩:=get_of_lt (xs:=S) (k:=q) h2
  exact ⟨x,y,hx,hy⟩
 have hnat:∀ q:Nat,1≤q→((q:Int) - 1).toNat=q - 1:=fun q h=>by omega
 rcases first with hno|⟨d,d1,d2,d3,d4⟩
 ·
  refine ⟨.ls 0,intsE S,?_,.inl ⟨rfl,by have:=same S.length (Nat.le_refl _) hno;rw [List.take_length] at this;rw [this]⟩⟩
  refine Cl.of_body rfl Tryz.func133 rfl rfl rfl ?_
  rcases Nat.lt_or_ge S.length 2 with h2|h2
  ·
   repeat' (first
|(with_reducible apply EvK.seq)
|((with_reducible apply EvK.text);(try case hm=>exact rfl))
|(with_reducible first|apply EvK.ret|apply thenK_r)
|((with_reducible apply EvK.cond_t);(case hc=>exact rfl))
|((with_reducible apply EvO.spd_t);(case hp=>exact fao))
|(with_reducible apply EvO.nilT)
|((with_reducible apply EvO.u0);(case hx=>exact opq))
|fail)
   exact ⟨.inr rfl,rfl⟩
  ·
   repeat' (first
|(with_reducible first|apply EvK.seq|apply EvK.block)
|((with_reducible apply EvK.text);(try case hm=>exact rfl))
|(with_reducible first|apply EvK.skip|apply thenK_n)
|((with_reducible apply EvK.cond_f);(case hc=>exact rfl))
|((with_reducible apply EvO.spd_f);(case hp=>exact fao))
|(with_reducible apply EvO.nilT)
|((with_reducible apply EvO.u0);(case hx=>exact opq))
|fail)
   apply EvK.loopV
   case ho=>exact rfl
   case hp=>exact rfl
   case hl=>exact rfl
   case hs=>exact slt
   refine EvL.indF (fun q:Nat=>[(3,.t (.int .i64 (q:Int)))]) (fun q=>[.row false false 1 (intsE S)]) (fun q=>1≤q∧q≤S.length) (fun q=>S.length - q) 1 rfl rfl (by omega) (fun q hq=>?_)
   obtain ⟨q1,q2⟩:=hq
   rcases Nat.lt_or_ge q S.length with h3|h3
   ·
    obtain ⟨x,y,hx,hy⟩:=pair q q1 h3
    have hc:=intsE_get hy
    have hd:=intsE_get hx
    rw [← hnat q q1] at hd
    have hxy:¬ y=x:=fun e=>hno q q1 h3 (by rw [hx,hy,e])
    repeat' (first
|(with_reducible first|apply EvK.seq|apply EvK.block)
|((with_reducible apply EvK.text);(try case hm=>exact rfl))
|((with_reducible apply EvK.drawn);(case hm=>exact rfl))
|(with_reducible first|apply EvK.skip|apply thenK_n|apply blockK_n)
|((with_reducible apply EvK.cond_t);(case hc=>exact rfl))
|((with_reducible apply EvK.cond_f);(case hc=>exact rfl))
|((with_reducible apply EvO.spd_t);(case hp=>exact fao))
|((with_reducible apply EvO.spd_f);(case hp=>exact fao))
|(with_reducible apply EvO.nilT)
|((with_reducible apply EvO.u0);(case hx=>exact opq))
|fail)
    exact ⟨q+1,rfl,rfl,by omega,by omega⟩
   ·
    repeat' (first
|(with_reducible apply EvK.seq)
|((with_reducible apply EvK.text);(try case hm=>exact rfl))
|(with_reducible first|apply EvK.exit|apply EvK.ret|apply thenK_n|apply thenK_e|apply blockK_h)
|((with_reducible apply EvK.cond_f);(case hc=>exact rfl))
|((with_reducible apply EvO.spd_f);(case hp=>exact fao))
|(with_reducible apply EvO.nilT)
|((with_reducible apply EvO.u0);(case hx=>exact opq))
|fail)
    exact ⟨.inr rfl,rfl⟩
 ·
  have hd0:=same d (by omega) d4
  have hld:(S.take d).length=d:=by simp;omega
  obtain ⟨x0,y0,hx0,hy0⟩:=pair d d1 d2
  have hxy0:x0=y0:=by
   rw [hx0,hy0] at d3
   exact (Option.some.inj d3).symm
  have hstep0:dedupI (S.take (d+1))=S.take d:=by
   obtain ⟨p,rfl⟩:∃ p,d=p+1:=⟨d - 1,by omega⟩
   have:=dedup_step (q:=p) (by simpa using hx0) hy0
   rw [this,if_pos hxy0,hd0]
  have hn0:dupN S (d+1)=d:=by unfold dupN;rw [hstep0,hld]
  have hr0:rowU S (d+1)=intsE S:=by unfold rowU;rw [hn0,hstep0,List.take_append_drop]
  have hlt:∀ q,d+1≤q→q≤S.length→dupN S q+1≤q:=fun q=>by
   induction q with
   | zero=>intro h;omega
   | succ q ih=>
    intro h1 h2
    rcases Nat.lt_or_ge d q with h3|h3
    ·have ih:=ih (by omega) (by omega)
     obtain ⟨p,rfl⟩:∃ p,q=p+1:=⟨q - 1,by omega⟩
     obtain ⟨x,hx⟩:=get_of_lt (xs:=S) (k:=p) (by omega)
     obtain ⟨y,hy⟩:=get_of_lt (xs:=S) (k:=p+1) (by omega)
     unfold dupN at ih ⊢
     rw [dedup_step hx hy]
     split
     ·omega
     ·rw [List.length_append,List.length_singleton];omega
    ·obtain rfl:q=d:=by omega
     omega
  have hge:∀ q,d+1≤q→q≤S.length→d≤dupN S q:=fun q=>by
   induction q with
   | zero=>intro h;omega
   | succ q ih=>
    intro h1 h2
    rcases Nat.lt_or_ge d q with h3|h3
    ·have ih:=ih (by omega) (by omega)
     obtain ⟨p,rfl⟩:∃ p,q=p+1:=⟨q - 1,by omega⟩
     obtain ⟨x,hx⟩:=get_of_lt (xs:=S) (k:=p) (by omega)
     obtain ⟨y,hy⟩:=get_of_lt (xs:=S) (k:=p+1) (by omega)
     unfold dupN at ih ⊢
     rw [dedup_step hx hy]
     split
     ·omega
     ·rw [List.length_append,List.length_singleton];omega
    ·obtain rfl:q=d:=by omega
     omega
  have hcn:=hlt S.length (by omega) (Nat.le_refl _)
  have hcd:=hge S.length (by omega) (Nat.le_refl _)
  have hD:=rowU_len (S:=S) (Nat.le_refl _)
  have hfin:(rowU S S.length).take (dupN S S.length)=intsE (dedupI S):=by
   unfold rowU dupN
   rw [List.take_length]
   unfold intsE
   rw [← List.map_take,List.take_left']
   rfl
  refine ⟨.lv 0 1 0 (dupN S S.length),(rowU S S.length).take (dupN S S.length)++List.replicate (S.length - dupN S S.length) [.int .i64 0]++(rowU S S.length).drop (dupN S S.length+(S.length - dupN S S.length)),?_,.inr ⟨_,rfl,?_,?_⟩⟩
  rotate_left
  ·simp
   omega
  ·rw [List.append_assoc,List.take_append_of_le_length (by simp;omega),List.take_take,Nat.min_self,hfin]
  refine Cl.of_body rfl Tryz.func133 rfl rfl rfl ?_
  repeat' (first
|(with_reducible first|apply EvK.seq|apply EvK.block)
|((with_reducible apply EvK.text);(try case hm=>exact rfl))
|(with_reducible first|apply EvK.skip|apply thenK_n)
|((with_reducible apply EvK.cond_f);(case hc=>exact rfl))
|((with_reducible apply EvO.spd_f);(case hp=>exact fao))
|(with_reducible apply EvO.nilT)
|((with_reducible apply EvO.u0);(case hx=>exact opq))
|fail)
  apply EvK.loopV
  case ho=>exact rfl
  case hp=>exact rfl
  case hl=>exact rfl
  case hs=>exact slt
  refine EvL.indF (fun q:Nat=>[(3,.t (.int .i64 (q:Int)))]) (fun q=>[.row false false 1 (intsE S)]) (fun q=>1≤q∧q≤d) (fun q=>S.length - q) 1 rfl rfl (by omega) (fun q hq=>?_)
  obtain ⟨q1,q2⟩:=hq
  obtain ⟨x,y,hx,hy⟩:=pair q q1 (by omega)
  have hc:=intsE_get hy
  have hd:=intsE_get hx
  rw [← hnat q q1] at hd
  rcases Nat.lt_or_ge q d with h3|h3
  ·
   have hxy:¬ y=x:=fun e=>d4 q q1 h3 (by rw [hx,hy,e])
   repeat' (first
|(with_reducible first|apply EvK.seq|apply EvK.block)
|((with_reducible apply EvK.text);(try case hm=>exact rfl))
|((with_reducible apply EvK.drawn);(case hm=>exact rfl))
|(with_reducible first|apply EvK.skip|apply thenK_n|apply blockK_n)
|((with_reducible apply EvK.cond_t);(case hc=>exact rfl))
|((with_reducible apply EvK.cond_f);(case hc=>exact rfl))
|((with_reducible apply EvO.spd_t);(case hp=>exact fao))
|((with_reducible apply EvO.spd_f);(case hp=>exact fao))
|(with_reducible apply EvO.nilT)
|((with_reducible apply EvO.u0);(case hx=>exact opq))
|fail)
   exact ⟨q+1,rfl,rfl,by omega,by omega⟩
  ·
   obtain rfl:q=d:=by omega
   have hxy:y=x:=by
    rw [hx,hy] at d3
    exact Option.some.inj d3
   have hvl:=view_lo (r:=0) (sz:=1) (n:=(intsE S).length) (q:=q) (k:=.i64) (by omega) (by omega)
   have hlv:∀ es:List (List AV),es.length=S.length→slOf [.row false false 1 es] (.lv 0 1 q ((intsE S).length - q))=some ((es.drop q).take ((intsE S).length - q)):=fun es he=>lvOf_get rfl (by omega) rfl
   repeat' (first
|(with_reducible first|apply EvK.seq|apply EvK.block)
|((with_reducible apply EvK.text);(try case hm=>exact rfl))
|((with_reducible apply EvK.drawn);(case hm=>exact rfl))
|(with_reducible first|apply EvK.skip|apply thenK_n)
|((with_reducible apply EvK.cond_t);(case hc=>exact rfl))
|((with_reducible apply EvO.spd_t);(case hp=>exact fao))
|(with_reducible apply EvO.nilT)
|((with_reducible apply EvO.u0);(case hx=>first
|((with_reducible apply OpR.slv);(case he=>first|(with_reducible exact el0)|(with_reducible exact el1)|(with_reducible exact el2)|(with_reducible exact el3)|(with_reducible exact el4)|(with_reducible exact el5)|(with_reducible exact el6)|(with_reducible exact el7)|exact rfl);(case hx|hl|hh|hb=>exact rfl);(case hv=>exact hvl))
|exact opq))
|fail)
   apply EvK.loopV
   case ho=>exact rfl
   case hp=>exact rfl
   case hl=>exact rfl
   case hs=>exact slt
   refine EvL.indF (fun a:Nat=>[(3,.t (.int .i64 (dupN S (q+a):Int))),(5,.t (.int .i64 (a:Int)))]) (fun a=>[.row false false 1 (rowU S (q+a))]) (fun a=>1≤a∧q+a≤S.length) (fun a=>S.length - a) 1 (by rw [hn0];rfl) (by rw [hr0]) (by omega) (fun a ha=>?_)
   obtain ⟨a1,a2⟩:=ha
   have g1:=hlt (q+a) (by omega) a2
   have g2:=hge (q+a) (by omega) a2
   have hln:=rowU_len a2
   have hlv:=hlv _ hln
   have hll:(((rowU S (q+a)).drop q).take ((intsE S).length - q)).length=(intsE S).length - q:=by simp;omega
   rcases Nat.lt_or_ge (q+a) S.length with g3|g3
   ·
    obtain ⟨x,y,hx,hy⟩:=pair (q+a) (by omega) g3
    have hc:=rowU_get (q:=q+a) (k:=q+a) a2 (by omega) hy
    have hd:=rowU_get (q:=q+a) (k:=q+a - 1) a2 (by omega) hx
    have hst:dedupI (S.take (q+(a+1)))=if x=y then dedupI (S.take (q+a)) else dedupI (S.take (q+a))++[y]:=by
     obtain ⟨p,hp⟩:∃ p,q+a=p+1:=⟨q+a - 1,by omega⟩
     rw [hp] at hx hy ⊢
     rw [show q+(a+1)=p+2 by omega]
     exact dedup_step hx hy
    have e1:q+((a:Int) - 1).toNat=q+a - 1:=by omega
    rw [← e1] at hd
    have hst':q+(a+1)=q+a+1:=by omega
    rw [hst'] at hst
    have hyes:=fun h=>rowU_yes (S:=S) (q:=q+a) (y:=y) h (by omega)
    have hno:=rowU_no (S:=S) (q:=q+a)
    rw [← hst'] at hyes hno
    have hst2:dedupI (S.take (q+(a+1)))=if x=y then dedupI (S.take (q+a)) else dedupI (S.take (q+a))++[y]:=by rw [hst'];exact hst
    obtain ⟨R,hR⟩:∃ R,rowU S (q+a)=R:=⟨_,rfl⟩
    obtain ⟨c,hcc⟩:∃ c,dupN S (q+a)=c:=⟨_,rfl⟩
    rw [hR] at hc hd hln hyes hno ⊢
    rw [hcc] at g1 g2 hyes hno ⊢
    by_cases hxy:y=x
    ·
     rw [if_pos hxy.symm] at hst2
     obtain ⟨n1,n2⟩:=hno hst2
     repeat' (first
|(with_reducible first|apply EvK.seq|apply EvK.block)
|((with_reducible apply EvK.text);(try case hm=>exact rfl))
|((with_reducible apply EvK.drawn);(case hm=>exact rfl))
|(with_reducible first|apply EvK.skip|apply thenK_n|apply blockK_n)
|((with_reducible apply EvK.cond_t);(case hc=>exact rfl))
|((with_reducible apply EvK.cond_f);(case hc=>exact rfl))
|((with_reducible apply EvO.spd_t);(case hp=>exact fao))
|((with_reducible apply EvO.spn_f);(case hp=>exact fao))
|(with_reducible apply EvO.nilT)
|((with_reducible apply EvO.u0);(case hx=>first
|((with_reducible apply OpR.lenv);(case ha|hy|ht|hs|hb=>exact rfl);(case hn=>omega))
|((with_reducible apply OpR.ixv);(case he=>first|(with_reducible exact el0)|(with_reducible exact el1)|(with_reducible exact el2)|(with_reducible exact el3)|(with_reducible exact el4)|(with_reducible exact el5)|(with_reducible exact el6)|(with_reducible exact el7)|exact rfl);(case hx|hi|hb=>exact rfl);(case hn=>omega);(case hq=>omega))
|((with_reducible apply OpR.ixvm);(case he=>first|(with_reducible exact el0)|(with_reducible exact el1)|(with_reducible exact el2)|(with_reducible exact el3)|(with_reducible exact el4)|(with_reducible exact el5)|(with_reducible exact el6)|(with_reducible exact el7)|exact rfl);(case hx|hi|hb=>exact rfl);(case hn=>omega);(case h0=>omega);(case hq=>omega))
|exact opq))
|fail)
     exact ⟨a+1,by rw [n2];rfl,by rw [n1];rfl,by omega,by omega⟩
    ·
     rw [if_neg (fun e=>hxy e.symm)] at hst2
     obtain ⟨n1,n2⟩:=hyes hst2
     obtain ⟨o,ho⟩:=get_of_lt (xs:=R) (k:=c) (by omega)
     have hol:o.length=1:=by
      have h:=List.mem_of_getElem? ho
      rw [← hR] at h
      unfold rowU intsE at h
      obtain ⟨z,_,rfl⟩:=List.mem_map.1 h
      rfl
     obtain ⟨o1,rfl⟩:∃ o1,o=[o1]:=by
      match o,hol with
      | [o1],_=>exact ⟨o1,rfl⟩
     repeat' (first
|(with_reducible first|apply EvK.seq|apply EvK.block)
|((with_reducible apply EvK.text);(try case hm=>exact rfl))
|((with_reducible apply EvK.drawn);(case hm=>exact rfl))
|(with_reducible first|apply EvK.skip|apply thenK_n)
|((with_reducible apply EvK.cond_t);(case hc=>exact rfl))
|((with_reducible apply EvO.spd_t);(case hp=>exact fao))
|((with_reducible apply EvO.spn_t);(case hp=>exact fao))
|(with_reducible first|apply EvO.nilT|apply EvO.nilB)
|((with_reducible apply EvO.u0);(case hx=>first
|((with_reducible apply OpR.lenv);(case ha|hy|ht|hs|hb=>exact rfl);(case hn=>omega))
|((with_reducible apply OpR.ixv);(case he=>first|(with_reducible exact el0)|(with_reducible exact el1)|(with_reducible exact el2)|(with_reducible exact el3)|(with_reducible exact el4)|(with_reducible exact el5)|(with_reducible exact el6)|(with_reducible exact el7)|exact rfl);(case hx|hi|hb=>exact rfl);(case hn=>omega);(case hq=>omega))
|((with_reducible apply OpR.ixvm);(case he=>first|(with_reducible exact el0)|(with_reducible exact el1)|(with_reducible exact el2)|(with_reducible exact el3)|(with_reducible exact el4)|(with_reducible exact el5)|(with_reducible exact el6)|(with_reducible exact el7)|exact rfl);(case hx|hi|hb=>exact rfl);(case hn=>omega);(case h0=>omega);(case hq=>omega))
|((with_reducible apply OpR.sti);(case hs=>exact fun _=>rfl);(case ha|hy|ht|hone=>exact rfl);(case hn=>kernel_rfl);(case hb=>exact rfl);(case hk=>exact ho);(case hj=>exact rfl);(case hv=>exact n1);(case hf=>exact leq))
|exact opq))
|fail)
     exact ⟨a+1,by rw [n2];rfl,rfl,by omega,by omega⟩
   ·
    have hqa:q+a=S.length:=by omega
    rw [hqa] at hln ⊢
    obtain ⟨R,hR⟩:∃ R,rowU S S.length=R:=⟨_,rfl⟩
    obtain ⟨c,hcc⟩:∃ c,dupN S S.length=c:=⟨_,rfl⟩
    rw [hR] at hln ⊢
    rw [hcc] at hcn hcd ⊢
    rw [← hln] at hcn ⊢
    have hvl2:=view_lo (r:=0) (sz:=1) (n:=R.length) (q:=c) (k:=.i64) (by omega) (by omega)
    have hvh2:viewS 0 1 0 (R.take c++List.replicate (R.length - c) ([.int .i64 0]:List AV)++R.drop (c+(R.length - c))).length (R.take c++List.replicate (R.length - c) ([.int .i64 0]:List AV)++R.drop (c+(R.length - c))).length none (some (.t (.int .i64 (c:Int))))=some (.lv 0 1 0 c):=view_hi (by simp;omega)
    repeat' (first
|(with_reducible apply EvK.seq)
|((with_reducible apply EvK.text);(try case hm=>exact rfl))
|(with_reducible first|apply EvK.exit|apply EvK.ret|apply thenK_n|apply thenK_e|apply thenK_r|apply blockK_r|apply blockK_h)
|((with_reducible apply EvK.cond_f);(case hc=>exact rfl))
|((with_reducible apply EvO.spd_f);(case hp=>exact fao))
|(with_reducible apply EvO.nilT)
|((with_reducible apply EvO.u0);(case hx=>first
|((with_reducible apply OpR.lenv);(case ha|hy|ht|hs|hb=>exact rfl);(case hn=>omega))
|((with_reducible apply OpR.slv);(case he=>first|(with_reducible exact el0)|(with_reducible exact el1)|(with_reducible exact el2)|(with_reducible exact el3)|(with_reducible exact el4)|(with_reducible exact el5)|(with_reducible exact el6)|(with_reducible exact el7)|exact rfl);(case hx|hl|hh|hb=>exact rfl);(case hv=>exact hvl2))
|((with_reducible apply OpR.slv);(case he=>first|(with_reducible exact el0)|(with_reducible exact el1)|(with_reducible exact el2)|(with_reducible exact el3)|(with_reducible exact el4)|(with_reducible exact el5)|(with_reducible exact el6)|(with_reducible exact el7)|exact rfl);(case hx|hl|hh|hb=>exact rfl);(case hv=>exact hvh2))
|((with_reducible apply OpR.clr);(case hs=>exact fun _=>rfl);(case ha|ht|hy=>exact rfl);(case hm=>exact (clrI _ 0 c (R.length - c)).trans (clr_row (tch:=false) (es:=R) rfl (by omega)));(case hf=>exact leq))
|exact opq))
|fail)
    exact ⟨.inr rfl,rfl⟩
theorem intsOf_E:∀ l:List Int,intsOf (intsE l)=some l
 | []=>rfl
 | n::l=>by
  show (match intOf [.int .i64 n],intsOf (intsE l) with|some n,some l=>some (n::l)|_,_=>none)=_
  rw [intsOf_E l]
  rfl
theorem sort_c (l:List Int):Cl cfg 132 [.ls 0] [.row false false 1 (intsE l)] (.tup []) [.row false false 1 (intsE (sortI l))]:=by
 refine ⟨1,?_⟩
 have e:callN cfg 1 132 [.ls 0] [.row false false 1 (intsE l)]=match (match intsOf (intsE l) with|some l=>some (Lb.row false false 1 (intCs (l.mergeSort fun x y=>decide (x≤y))))|none=>none) with
  | some b'=>some (.tup [],[b'])
  | none=>none:=rfl
 rw [e,intsOf_E]
 rfl
theorem live_snoc {W:List Wr} {O:List Wr} {q:Nat} {w:Wr} (h:O[q]?=some w):(((O.take (q+1)).filter fun w=>!seenW w W 2).map (·.u.value))=((O.take q).filter fun w=>!seenW w W 2).map (·.u.value)++if seenW w W 2 then [] else [w.u.value]:=by
 rw [List.take_add_one,h,Option.toList,List.filter_append,List.map_append]
 cases hs:seenW w W 2 <;> simp [hs]
theorem tre_lv0 {tch:Bool} {es:List (List AV)} {i:Nat} (h:i≤es.length):treT true 0 (finO 0 (some (.lv 0 1 0 i)) [.row false tch 1 es])=some (.t (.arr (es.take i)),[]):=by
 have e:lvOf [.row false false 1 es] 0 1 0 i=some (es.take i):=by
  have h2:Nat.ble (0+i) es.length=true:=by rw [Nat.ble_eq];omega
  show (match Nat.beq 1 1 && Nat.ble (0+i) es.length with|true=>some ((es.drop 0).take i)|false=>none)=_
  rw [h2]
  rfl
 have e1:finO 0 (some (.lv 0 1 0 i)) [.row false tch 1 es]=some (.lv 0 1 0 i,[.row false false 1 es]):=by cases tch <;> rfl
 rw [e1]
 show (match (match lvOf [.row false false 1 es] 0 1 0 i with|some es=>some (AV.arr es)|none=>none) with|some x=>some (SV.t x,([]:Fr))|none=>some (.lv 0 1 0 i,[.row false false 1 es]))=_
 rw [e]
theorem val5_c {W:List Wr} {n:Int} (h:WrsL W):Cl cfg 131 [.t (.arr (wrE W)),.t ofF,.t (.tp [.int .i64 n])] [] (.t (intsA (if liveV W=[] then [n] else dedupI (sortI (liveV W))))) []:=by
 have ho:=of_c (k:=2) h.len
 have hof:=h.of 2
 have hlo:=wrE_len (ofK W 2)
 have ks:=fun w=>seen_c (w:=w) (k:=2) (Nat.le_trans h.len (by omega)) h.pst
 have hlive:liveV W=((ofK W 2).filter fun w=>!seenW w W 2).map (·.u.value):=rfl
 rw [hlive]
 obtain ⟨O,hO⟩:∃ O,ofK W 2=O:=⟨_,rfl⟩
 rw [hO] at ho hof hlo ⊢
 unfold ofF
 refine Cl.of_bodyT rfl Tryz.func131 rfl rfl rfl ?_
 repeat' (first
|(with_reducible first|apply EvK.seq|apply EvK.block)
|((with_reducible apply EvK.text);(try case hm=>exact rfl))
|(with_reducible apply EvO.nilT)
|((with_reducible apply EvO.u0);(case hx=>first
|(exact oqN ho)
|exact opq))
|fail)
 apply EvK.loopV
 case ho=>exact rfl
 case hp=>exact rfl
 case hl=>exact rfl
 case hs=>exact slt
 refine EvL.indF (fun x:Nat×Bool=>[(5,.ls 0),(12,.t (.int .i64 (x.1:Int)))]) (fun x=>[.row false x.2 1 (intsE (((O.take x.1).filter fun w=>!seenW w W 2).map (·.u.value)))]) (fun x=>x.1≤O.length) (fun x=>O.length - x.1) (0,false) rfl rfl (by simp) (fun x hx=>?_)
 obtain ⟨q,tch⟩:=x
 dsimp only at hx ⊢
 rcases Nat.lt_or_ge q O.length with h3|h3
 ·
  obtain ⟨w,hw⟩:=get_of_lt h3
  have hc:=wrE_get hw
  have kw:=ks w
  rw [wrC_eq] at kw
  have hsn:=live_snoc (W:=W) hw
  have hll:((((O.take q).filter fun w=>!seenW w W 2).map (·.u.value))).length≤1000:=by
   rw [List.length_map]
   refine Nat.le_trans (List.length_filter_le _ _) ?_
   simp
   omega
  obtain ⟨X,hX⟩:∃ X,((O.take q).filter fun w=>!seenW w W 2).map (·.u.value)=X:=⟨_,rfl⟩
  rw [hX] at hsn hll ⊢
  have hlX:lenOk ((intsE X).length+1) 8=true:=by rw [intsE_len];simp [lenOk];omega
  have hap:intsE X++[[.int .i64 w.u.value]]=intsE (X++[w.u.value]):=by simp [intsE]
  obtain ⟨b,hb⟩:∃ b,seenW w W 2=b:=⟨_,rfl⟩
  rw [hb] at kw hsn
  cases b with
  | true=>
   rw [if_pos rfl,List.append_nil] at hsn
   repeat' (first
|(with_reducible first|apply EvK.seq|apply EvK.block)
|((with_reducible apply EvK.text);(try case hm=>exact rfl))
|(with_reducible first|apply EvK.skip|apply thenK_n|apply blockK_n)
|((with_reducible apply EvK.cond_t);(case hc=>exact rfl))
|((with_reducible apply EvK.cond_f);(case hc=>exact rfl))
|((with_reducible apply EvO.spd_t);(case hp=>exact fao))
|(with_reducible apply EvO.nilT)
|((with_reducible apply EvO.u0);(case hx=>first
|(exact oqF kw)
|exact opq))
|fail)
   exact ⟨(q+1,tch),rfl,by dsimp only;rw [hsn];rfl,by dsimp only;omega,by dsimp only;omega⟩
  | false=>
   rw [if_neg (by decide)] at hsn
   rw [← hsn] at hap
   repeat' (first
|(with_reducible first|apply EvK.seq|apply EvK.block)
|((with_reducible apply EvK.text);(try case hm=>exact rfl))
|(with_reducible first|apply EvK.skip|apply thenK_n)
|((with_reducible apply EvK.cond_t);(case hc=>exact rfl))
|((with_reducible apply EvO.spd_t);(case hp=>exact fao))
|(with_reducible first|apply EvO.nilT|apply EvO.nilB)
|((with_reducible apply EvO.u);(case hx=>((with_reducible apply OpR.apr);(case hs=>exact fun _=>rfl);(case ha|ht=>exact rfl);(case hr=>first|(with_reducible exact rw0)|(with_reducible exact rw1)|(with_reducible exact rw2)|(with_reducible exact rw3)|(with_reducible exact rw4)|exact rfl);(case hx|hy|hn|hb|hok=>exact rfl);(case hlen=>exact hlX);(case hv=>exact hap);(case hk=>exact kfr);(case hf=>exact leq))))
|((with_reducible apply EvO.u0);(case hx=>first
|(exact oqF kw)
|exact opq))
|fail)
   exact ⟨(q+1,true),rfl,rfl,by dsimp only;omega,by dsimp only;omega⟩
 ·
  rw [List.take_of_length_le h3]
  obtain ⟨X,hX⟩:∃ X,(O.filter fun w=>!seenW w W 2).map (·.u.value)=X:=⟨_,rfl⟩
  rw [hX]
  have hlX:=intsE_len X
  have hXl:X.length≤1000:=by
   rw [← hX,List.length_map]
   exact Nat.le_trans (List.length_filter_le _ _) (by omega)
  cases X with
  | nil=>
   have hz:([]:List Int).length=0:=rfl
   rw [if_pos rfl]
   repeat' (first
|(with_reducible apply EvK.seq)
|((with_reducible apply EvK.text);(try case hm=>exact rfl))
|(with_reducible first|apply EvK.exit|apply EvK.ret|apply thenK_n|apply thenK_e|apply thenK_r|apply blockK_h)
|((with_reducible apply EvK.cond_t);(case hc=>exact rfl))
|((with_reducible apply EvK.cond_f);(case hc=>exact rfl))
|((with_reducible apply EvO.spd_t);(case hp=>exact fao))
|((with_reducible apply EvO.spd_f);(case hp=>exact fao))
|(with_reducible apply EvO.nilT)
|((with_reducible apply EvO.u0);(case hx=>exact opq))
|fail)
   exact ⟨.inr rfl,rfl⟩
  | cons x X=>
   rw [if_neg (by simp)]
   have hz:(x::X).length=X.length+1:=rfl
   obtain ⟨Y,hY⟩:∃ Y,x::X=Y:=⟨_,rfl⟩
   rw [hY] at hlX hXl hz ⊢
   have ksr:=sort_c Y
   obtain ⟨r,es,kc,⟨rfl,rfl⟩|⟨i,rfl,h1,h2⟩⟩:=compact_c (S:=sortI Y) (by rw [show (sortI Y).length=Y.length from List.length_mergeSort _];exact hXl)
   ·
    cases tch
    ·
     repeat' (first
|(with_reducible apply EvK.seq)
|((with_reducible apply EvK.text);(try case hm=>exact rfl))
|(with_reducible first|apply EvK.skip|apply EvK.exit|apply EvK.ret|apply thenK_n|apply thenK_e|apply blockK_h)
|((with_reducible apply EvK.cond_f);(case hc=>exact rfl))
|((with_reducible apply EvO.spd_f);(case hp=>exact fao))
|(with_reducible apply EvO.nilT)
|((with_reducible apply EvO.u0);(case hx=>first
|(exact oqQ [0] ksr)
|(exact oqQ [0] kc)
|exact opq))
|fail)
     exact ⟨.inr rfl,rfl⟩
    ·
     repeat' (first
|(with_reducible apply EvK.seq)
|((with_reducible apply EvK.text);(try case hm=>exact rfl))
|(with_reducible first|apply EvK.skip|apply EvK.exit|apply EvK.ret|apply thenK_n|apply thenK_e|apply blockK_h)
|((with_reducible apply EvK.cond_f);(case hc=>exact rfl))
|((with_reducible apply EvO.spd_f);(case hp=>exact fao))
|(with_reducible apply EvO.nilT)
|((with_reducible apply EvO.u0);(case hx=>first
|(exact oqQ [0] ksr)
|(exact oqQ [0] kc)
|exact opq))
|fail)
     exact ⟨.inr rfl,rfl⟩
   ·
    have hi:intsA (dedupI (sortI Y))=.arr (es.take i):=by rw [h2];rfl
    rw [hi]
    cases tch
    ·
     repeat' (first
|(with_reducible apply EvK.seq)
|((with_reducible apply EvK.text);(try case hm=>exact rfl))
|(with_reducible first|apply EvK.skip|apply EvK.exit|apply EvK.ret|apply thenK_n|apply thenK_e|apply blockK_h)
|((with_reducible apply EvK.cond_f);(case hc=>exact rfl))
|((with_reducible apply EvO.spd_f);(case hp=>exact fao))
|(with_reducible apply EvO.nilT)
|((with_reducible apply EvO.u0);(case hx=>first
|(exact oqQ [0] ksr)
|(exact oqQ [0] kc)
|exact opq))
|fail)
     exact ⟨.inr rfl,tre_lv0 h1⟩
    ·
     repeat' (first
|(with_reducible apply EvK.seq)
|((with_reducible apply EvK.text);(try case hm=>exact rfl))
|(with_reducible first|apply EvK.skip|apply EvK.exit|apply EvK.ret|apply thenK_n|apply thenK_e|apply blockK_h)
|((with_reducible apply EvK.cond_f);(case hc=>exact rfl))
|((with_reducible apply EvO.spd_f);(case hp=>exact fao))
|(with_reducible apply EvO.nilT)
|((with_reducible apply EvO.u0);(case hx=>first
|(exact oqQ [0] ksr)
|(exact oqQ [0] kc)
|exact opq))
|fail)
     exact ⟨.inr rfl,tre_lv0 h1⟩
end Go.Proofs.YtgbfedgghjcdcaaGreatDoor
