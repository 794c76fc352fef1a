/- The reference's ranges,and the table and the tuple of a cell,as contracts. No condition. -/
import Derived.Test.YtgbfedgghjcdcaaGreatDoorME
import Derived.Test.YtgbfedgghjcdcaaGreatDoorTS
import Derived.Test.YtgbfedgghjcdcaaGreatDoorTD
set_option linter.unusedSimpArgs false
set_option linter.unusedVariables false
set_option linter.unusedSectionVars false
namespace Go.Proofs.YtgbfedgghjcdcaaGreatDoor
open Go.RowKit
set_option maxRecDepth 100000
set_option maxHeartbeats 16000000
theorem rgE_app (l m:List (Int×Int)):rgE l++rgE m=rgE (l++m):=by unfold rgE;rw [List.map_append]
theorem lenR {n:Nat} (h:n≤4000):lenOk n 16=true:=by simp [lenOk];omega
def rngP (S:List Int) (L:List Tb) (s:Bool) (q k:Nat) (t:Tb):List (Int×Int):=(L.take q).flatMap (rngsT S s)++List.replicate k (t.lo,t.hi)
theorem rngP_snoc {S:List Int} {L:List Tb} {s:Bool} {q k:Nat} {t:Tb}:rngP S L s q k t++[(t.lo,t.hi)]=rngP S L s q (k+1) t:=by
 unfold rngP
 rw [repl_snoc,List.append_assoc]
theorem rngP_end {S:List Int} {L:List Tb} {s:Bool} {q k:Nat} {t:Tb} (ht:L[q]?=some t) (hs:strictK t.kind=s) (hk:(numberS S t.cols).toNat=k):rngP S L s q k t=(L.take (q+1)).flatMap (rngsT S s):=by
 unfold rngP
 rw [flat_snoc ht]
 unfold rngsT
 rw [if_pos hs,hk]
theorem rngP_no {S:List Int} {L:List Tb} {s:Bool} {q:Nat} {t:Tb} (ht:L[q]?=some t) (hs:strictK t.kind≠s):(L.take q).flatMap (rngsT S s)=(L.take (q+1)).flatMap (rngsT S s):=by
 rw [flat_snoc ht]
 unfold rngsT
 rw [if_neg hs,List.append_nil]
theorem rrngs_c {S:List Int} {L:List Tb} (s:Bool) (hS:S.length≤140737488351232) (hL:L.length≤140737488351232) (hC:∀ t∈L,t.cols.length≤140737488351232):Cl cfg 172 [.t (intsA S),.t (.arr (tbE L)),.t (.bool s)] [] (.ls 0) [.row false false 2 (rgE (rngs S L s))]:=by
 have kv:=rlay_c hS hL hC
 have hlS:=intsE_len S
 have hlL:=tbE_len L
 cases hv:layB S L with
 | false=>
  have hr:rngs S L s=[]:=by unfold rngs;rw [hv];rfl
  rw [hv] at kv
  rw [hr]
  refine Cl.of_body rfl Tryz.func172 rfl rfl rfl ?_
  repeat' (first
|(with_reducible apply EvK.seq)
|((with_reducible apply EvK.text);(try case hm=>exact rfl))
|(with_reducible first|apply EvK.ret|apply thenK_r)
|((with_reducible apply EvK.cond_t);(case hc=>exact rfl))
|(with_reducible apply EvO.nilT)
|((with_reducible apply EvO.u0);(case hx=>first
|(exact oqF kv)
|exact opq))
|fail)
  exact ⟨.inr rfl,rfl⟩
 | true=>
  have hr:rngs S L s=L.flatMap (rngsT S s):=by unfold rngs;rw [hv];rfl
  have hfew:=lay_few hv
  rw [hv] at kv
  rw [hr]
  refine Cl.of_body rfl Tryz.func172 rfl rfl rfl ?_
  repeat' (first
|(with_reducible first|apply EvK.seq|apply EvK.block)
|((with_reducible apply EvK.text);(try case hm=>exact rfl))
|(with_reducible first|apply EvK.skip|apply thenK_n)
|((with_reducible apply EvK.cond_f);(case hc=>exact rfl))
|(with_reducible apply EvO.nilT)
|((with_reducible apply EvO.u0);(case hx=>first
|(exact oqF kv)
|exact opq))
|fail)
  apply EvK.loopV
  case ho=>exact rfl
  case hp=>exact rfl
  case hl=>exact rfl
  case hs=>exact slt
  refine EvL.indF (fun x:Nat×Bool=>[(7,.ls 0),(8,.t (.int .i64 (x.1:Int)))]) (fun x=>[.row false x.2 2 (rgE ((L.take x.1).flatMap (rngsT S s)))]) (fun x=>x.1≤L.length) (fun x=>L.length - x.1) (0,false) rfl rfl (by simp) (fun x hq=>?_)
  obtain ⟨q,tch⟩:=x
  dsimp only at hq ⊢
  rcases Nat.lt_or_ge q L.length with h3|h3
  ·
   obtain ⟨t,ht⟩:=get_of_lt h3
   have hc:=tbE_get ht
   have kN:=rnumber_c (S:=S) (C:=t.cols) hS (hC t (List.mem_of_getElem? ht))
   have kst:=rstrict_c t.kind
   have hbN:=numberS_bnd S t.cols
   have hle:=rngsT_le S s (L.take q)
   have hql:(L.take q).length≤12:=by simp;omega
   by_cases hs:strictK t.kind=s
   ·
    rw [hs] at kst
    obtain ⟨N,hN⟩:∃ N,(numberS S t.cols).toNat=N:=⟨_,rfl⟩
    have hN':numberS S t.cols=(N:Int):=by omega
    have hend:=rngP_end ht hs hN
    rw [hN'] at kN hbN
    have h0:(L.take q).flatMap (rngsT S s)=rngP S L s q 0 t:=by unfold rngP;simp
    rw [h0]
    have hlP:∀ k,(rngP S L s q k t).length≤2592+k:=fun k=>by unfold rngP;rw [List.length_append,List.length_replicate];omega
    repeat' (first
|(with_reducible first|apply EvK.seq|apply EvK.block)
|((with_reducible apply EvK.text);(try case hm=>exact rfl))
|(with_reducible first|apply EvK.skip|apply thenK_n)
|((with_reducible apply EvK.cond_t);(case hc=>exact rfl))
|((with_reducible apply EvO.spd_t);(case hp=>exact fao))
|(with_reducible apply EvO.nilT)
|((with_reducible apply EvO.u0);(case hx=>exact opq))
|fail)
    apply EvK.loopV
    case ho=>exact rfl
    case hp=>exact rfl
    case hl=>exact rfl
    case hs=>exact slt
    refine EvL.indF (fun x:Nat×Bool=>[(7,.ls 0),(9,.t (.int .i64 (x.1:Int)))]) (fun x=>[.row false x.2 2 (rgE (rngP S L s q x.1 t))]) (fun x=>x.1≤N) (fun x=>N - x.1) (0,tch) rfl rfl (by simp) (fun x hk=>?_)
    obtain ⟨k,tch2⟩:=x
    dsimp only at hk ⊢
    rcases Nat.lt_or_ge k N with h4|h4
    ·
     have hsn:rgE (rngP S L s q k t)++[[.int .i64 t.lo,.int .i64 t.hi]]=rgE (rngP S L s q (k+1) t):=by rw [← rngP_snoc];exact rgE_app _ [(t.lo,t.hi)]
     have hlX:lenOk ((rgE (rngP S L s q k t)).length+1) 16=true:=by
      have:=hlP k
      rw [rgE_len]
      exact lenR (by omega)
     cases s <;>
     repeat' (first
|(with_reducible first|apply EvK.seq|apply EvK.block)
|((with_reducible apply EvK.text);(try case hm=>exact rfl))
|(with_reducible first|apply EvK.skip|apply thenK_n)
|((with_reducible apply EvK.cond_t);(case hc=>exact rfl))
|((with_reducible apply EvO.spd_yt);(case hp=>exact fao))
|(with_reducible first|apply EvO.nilT|apply EvO.nilB)
|((with_reducible apply EvO.u);(case hx=>((with_reducible apply OpR.apr);(case hs=>exact fun _=>rfl);(case ha|ht=>exact rfl);(case hr=>first|(with_reducible exact rw0)|(with_reducible exact rw1)|(with_reducible exact rw2)|(with_reducible exact rw3)|(with_reducible exact rw4)|exact rfl);(case hx|hy|hn|hb|hok=>exact rfl);(case hlen=>exact hlX);(case hv=>exact hsn);(case hk=>exact kfr);(case hf=>exact leq))))
|((with_reducible apply EvO.gt0);(case hW=>exact rfl);(case hx=>first
|(exact oqF kN)
|exact opq))
|((with_reducible apply EvO.u0);(case hx=>first
|(exact oqF kst)
|exact opq))
|fail)
     all_goals exact ⟨(k+1,true),rfl,rfl,by dsimp only;omega,by dsimp only;omega⟩
    ·
     obtain rfl:k=N:=by omega
     rw [hend]
     cases s <;>
     repeat' (first
|(with_reducible apply EvK.seq)
|((with_reducible apply EvK.text);(try case hm=>exact rfl))
|(with_reducible first|apply EvK.exit|apply thenK_n|apply thenK_e|apply blockK_n|apply blockK_h)
|((with_reducible apply EvK.cond_f);(case hc=>exact rfl))
|((with_reducible apply EvO.spd_yf);(case hp=>exact fao))
|(with_reducible apply EvO.nilT)
|((with_reducible apply EvO.gt0);(case hW=>exact rfl);(case hx=>first
|(exact oqF kN)
|exact opq))
|((with_reducible apply EvO.u0);(case hx=>first
|(exact oqF kst)
|exact opq))
|fail)
     all_goals exact ⟨(q+1,tch2),rfl,rfl,by dsimp only;omega,by dsimp only;omega⟩
   ·
    have hst:strictK t.kind=!s:=by cases s <;> simp_all
    rw [hst] at kst
    rw [rngP_no ht hs]
    repeat' (first
|(with_reducible first|apply EvK.seq|apply EvK.block)
|((with_reducible apply EvK.text);(try case hm=>exact rfl))
|(with_reducible first|apply EvK.skip|apply thenK_n)
|((with_reducible apply EvK.cond_t);(case hc=>exact rfl))
|((with_reducible apply EvO.spd_t);(case hp=>exact fao))
|(with_reducible apply EvO.nilT)
|((with_reducible apply EvO.u0);(case hx=>exact opq))
|fail)
    apply EvK.loopV
    case ho=>exact rfl
    case hp=>exact rfl
    case hl=>exact rfl
    case hs=>exact slt
    refine EvL.step ?_
    cases s <;>
    repeat' (first
|(with_reducible apply EvK.seq)
|((with_reducible apply EvK.text);(try case hm=>exact rfl))
|(with_reducible first|apply EvK.exit|apply thenK_n|apply thenK_e|apply blockK_n|apply blockK_h)
|((with_reducible apply EvK.cond_f);(case hc=>exact rfl))
|(with_reducible apply EvO.nilT)
|((with_reducible apply EvO.gf);(case hW=>exact rfl))
|((with_reducible apply EvO.u0);(case hx=>first
|(exact oqF kst)
|exact opq))
|fail)
    all_goals exact ⟨(q+1,tch),rfl,rfl,by dsimp only;omega,by dsimp only;omega⟩
  ·
   rw [List.take_of_length_le h3]
   repeat' (first
|(with_reducible apply EvK.seq)
|((with_reducible apply EvK.text);(try case hm=>exact rfl))
|(with_reducible first|apply EvK.exit|apply EvK.ret|apply thenK_n|apply thenK_e|apply blockK_h)
|((with_reducible apply EvK.cond_f);(case hc=>exact rfl))
|((with_reducible apply EvO.spd_f);(case hp=>exact fao))
|(with_reducible apply EvO.nilT)
|((with_reducible apply EvO.u0);(case hx=>exact opq))
|fail)
   exact ⟨.inr rfl,rfl⟩
end Go.Proofs.YtgbfedgghjcdcaaGreatDoor
