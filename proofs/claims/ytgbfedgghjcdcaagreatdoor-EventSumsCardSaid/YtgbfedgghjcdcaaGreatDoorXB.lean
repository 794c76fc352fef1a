/- slices.Backward over []api.Update: what its value yields. Condition: elements of one length. -/
import Derived.Test.YtgbfedgghjcdcaaGreatDoorVLR
import Derived.Test.YtgbfedgghjcdcaaGreatDoorTD
import Derived.Test.YtgbfedgghjcdcaaGreatDoorTC
set_option linter.unusedSimpArgs false
set_option linter.unusedVariables false
set_option linter.unusedSectionVars false
namespace Go.Proofs.YtgbfedgghjcdcaaGreatDoor
open Go.RowKit
def bwd (es:List (List AV)):Nat→List (List AV)
 | 0=>[]
 | q+1=>[.int .i64 (q:Int),.agg (es[q]?.getD [])]::bwd es q
def bwT (l:Nat) (es:List (List AV)) (q:Int):Env:=mkEnv [(0,.t (.fn (.yield l) 0 [])),(1,.t (.tp [.arr es])),(3,.t (.int .i64 q))]
theorem bw_known:Known Tryz.prog 167:=⟨_,Tryz.func167,by kernel_rfl,rfl⟩
theorem bw_wf {γ:Glob}:Wf (bare Tryz.prog) γ:=bare_wf (by kernel_rfl)
theorem inv_yield {A:Nat→Prop} {w:World} {f:Fn} {n:Nat} {cs:List AV} {v:Value} (h:VR A w (.fn f n cs) v) (hn:n=0) (hc:cs=[]):v=.func f #[] #[]:=by
 cases h with
 | fn _ _ fs us hl hr=>
  subst hc
  have h1:fs=#[]:=Array.eq_empty_of_size_eq_zero hn
  subst h1
  have h2:us=#[]:=Array.eq_empty_of_size_eq_zero (by simpa using hl)
  subst h2
  rfl
theorem sr_tree {A:Nat→Prop} {L:Ls} {w:World} {x:AV} {v:Value} (h:SR A L w (.t x) v):VR A w x v:=by cases h with|t _ _ h=>exact h
theorem not_op {P:Program} {o:Oper} {x:Operand} {t:TypeId} {a:Act} {w:World} {b:Bool} {m:Nat} {K:Act→World→Prop} {Q:Exit→Act→World→Prop} (ho:o.op=.unOp .not t x) (hx:a.eval x=.bool b) (h:K (a.put o.dst (.bool (!b))) w):o.wpIn (Fw none) m P a w K Q:=
 OpTo.wpIn (R:=fun v w'=>v=.bool (!b)∧w'=w) (by unfold OpTo execOp;rw [ho];simp only [hx];exact ⟨rfl,rfl⟩) fun v w' h'=>by obtain ⟨rfl,rfl⟩:=h';exact h
theorem back_seq {γ:Glob} {es:List (List AV)} {v:Value} (hes:es.length≤140737488351232) (hsz:∀ c∈es,c.length=3):ISeq γ Tryz.prog 167 #[v] (Cap [.tp [.arr es]] #[v]) (bwd es es.length) true:=by
 refine ⟨bw_known,fun l J Jx A W hJ hX hK _ hY h0 m=>callsIn_of_wp Tryz.func167 rfl trivial ?_ rfl⟩
 have hW:Wf (bare Tryz.prog) γ:=bw_wf
 have hcap:∀ {r A X},J r A X→VR A X (.tp [.arr es]) v:=fun h=>(hK _ _ _ h).2 _ _ ⟨0,rfl,rfl⟩
 have hT:∀ {r A X} {q:Int} {tm:Array Value},J r A X→tm.getD 0 undef=.func (.yield l) #[] #[]→tm.getD 1 undef=v→tm.getD 3 undef=.int .i64 q→TreesAt A X (bwT l es q) tm:=fun {r A X q tm} h h0 h1 h3=>by
  have hM:∀ b,A b→MA A [] (fun _=>none) b:=fun b hb=>⟨hb,fun ⟨i,_,_,h,_⟩=>by cases h⟩
  refine mkEnv_ok (tm:=fun t=>tm.getD t undef) _ fun p hp=>?_
  simp only [List.mem_cons,List.not_mem_nil,or_false] at hp
  rcases hp with rfl|rfl|rfl
  ·show SR _ _ _ _ (tm.getD 0 undef);rw [h0];exact .t _ _ (.fn (.yield l) [] #[] #[] rfl fun j x u hx=>by simp at hx)
  ·show SR _ _ _ _ (tm.getD 1 undef);rw [h1];exact .t _ _ (VR.on (Nat.le_refl _) (fun b _ hb=>⟨hM b hb,rfl⟩) (hcap h))
  ·show SR _ _ _ _ (tm.getD 3 undef);rw [h3];exact .t _ _ (.int _ _)
 have hst:∀ {q:Int} {a:Act} {X:World} {A:Nat→Prop} {r:List (List AV)},J r A X→Kpt [(0,.func (.yield l) #[] #[]),(1,v)] a→a.tmps.getD 3 undef=.int .i64 q→TreesAt A X (bwT l es q) a.tmps:=fun h hk h3=>hT h (hk.2 (0,_) (by simp)) (hk.2 (1,v) (by simp)) h3
 have hM0:∀ (tm:Array Value),tm.getD 0 undef=.func (.yield l) #[] #[]→tm.getD 1 undef=v→TreesAt A W (mkEnv [(0,.t (.fn (.yield l) 0 [])),(1,.t (.tp [.arr es]))]) tm:=fun tm h1 h2=>by
  have hM:∀ b,A b→MA A [] (fun _=>none) b:=fun b hb=>⟨hb,fun ⟨i,_,_,h,_⟩=>by cases h⟩
  refine mkEnv_ok (tm:=fun t=>tm.getD t undef) _ fun p hp=>?_
  simp only [List.mem_cons,List.not_mem_nil,or_false] at hp
  rcases hp with rfl|rfl
  ·show SR _ _ _ _ (tm.getD 0 undef);rw [h1];exact .t _ _ (.fn (.yield l) [] #[] #[] rfl fun j x u hx=>by simp at hx)
  ·show SR _ _ _ _ (tm.getD 1 undef);rw [h2];exact .t _ _ (VR.on (Nat.le_refl _) (fun b _ hb=>⟨hM b hb,rfl⟩) (hcap h0))
 refine wpIn_seq ?_
 refine it_region (n:=19) (kp:=[(0,.func (.yield l) #[] #[]),(1,v)]) hW (EvO.u0 (x:=.t (.arr es)) (OpR.r fun _=>by kernel_rfl) (EvO.u0 (OpR.len (es:=es) rfl rfl rfl (by kernel_rfl) rfl) (EvO.u0 (OpR.sub (m:=(es.length:Int)) (n:=1) rfl rfl (by omega)) (EvO.u0 (OpR.asg rfl) (EvO.nil ⟨rfl,rfl⟩))))) rfl (hK _ _ _ h0).1 (by simp) ⟨rfl,(by intro p hp;simp only [List.mem_cons,List.not_mem_nil,or_false] at hp;rcases hp with rfl|rfl <;> simp [Array.getD_eq_getD_getElem?,Array.getElem?_append])⟩ (by simp) (hM0 _ (by simp [Array.getD_eq_getD_getElem?,Array.getElem?_append]) (by simp [Array.getD_eq_getD_getElem?,Array.getElem?_append])) fun a1 X1 hd1 hn1 hb1 hV1=>?_
 have h3:a1.tmps.getD 3 undef=.int .i64 ((es.length:Int) - 1):=inv_int (hV1 3)
 show Code.wpIn _ _ _ _ _ _ _
 refine wpIn_block ?_
 refine wpIn_loop_ghost (fun q a X=>q≤es.length∧Kpt [(0,.func (.yield l) #[] #[]),(1,v)] a∧a.tmps.size=19∧a.tmps.getD 3 undef=.int .i64 ((q:Int) - 1)∧∃ A,J (bwd es q) A X) es.length ⟨Nat.le_refl _,hd1,hn1,h3,A,hJ _ _ _ _ h0 hb1⟩ ?_
 rintro q a X ⟨hq,hkp,hn,h3,A,hj⟩
 repeat refine wpIn_seq ?_
 refine it_region (n:=19) (kp:=[(0,.func (.yield l) #[] #[]),(1,v),(3,.int .i64 ((q:Int) - 1))]) hW (EvO.u0 (OpR.mv rfl) (EvO.u0 (OpR.bin rfl rfl rfl) (EvO.nil ⟨rfl,rfl⟩))) rfl (hK _ _ _ hj).1 (by simp) ⟨hkp.1,(by intro p hp;simp only [List.mem_cons,List.not_mem_nil,or_false] at hp;rcases hp with rfl|rfl|rfl;all_goals first|exact h3|exact hkp.2 (0,_) (by simp)|exact hkp.2 (1,v) (by simp))⟩ hn (hst hj hkp h3) fun a2 X2 hd2 hn2 hb2 hV2=>?_
 have h8:=inv_bool (b:=decide (((q:Int) - 1)≥0)) (hV2 8)
 show Code.wpIn _ _ _ _ _ _ _
 refine wpIn_cond_split h8 (fun hc=>?_) (fun hc=>?_)
 ·have hq1:=of_decide_eq_true hc
  obtain ⟨k,rfl⟩:∃ k,q=k+1:=⟨q - 1,by omega⟩
  have hk3:(((k+1:Nat):Int) - 1)=(k:Int):=by omega
  have h3':a2.tmps.getD 3 undef=.int .i64 (k:Int):=by rw [← hk3];exact hd2.2 (3,_) (by simp)
  have hkp2:Kpt [(0,.func (.yield l) #[] #[]),(1,v)] a2:=⟨hd2.1,(by intro p hp;simp only [List.mem_cons,List.not_mem_nil,or_false] at hp;rcases hp with rfl|rfl;all_goals first|exact hd2.2 (0,_) (by simp)|exact hd2.2 (1,v) (by simp))⟩
  have hj2:=hJ _ _ _ _ hj hb2
  obtain ⟨c0,c1,c2,hel⟩:∃ c0 c1 c2,es[k]?=some [c0,c1,c2]:=by
   have hlt:k < es.length:=by omega
   have:=hsz es[k] (List.getElem_mem hlt)
   rw [List.getElem?_eq_getElem hlt]
   match hx:es[k],this with
   | [c0,c1,c2],_=>exact ⟨c0,c1,c2,rfl⟩
  refine wpIn_skip ?_
  show Code.wpIn _ _ _ _ _ _ _
  refine wpIn_seq ?_
  refine wpIn_block ?_
  refine wpIn_seq ?_
  refine it_yield (n:=19) (kp:=[(0,.func (.yield l) #[] #[]),(1,v),(3,.int .i64 (k:Int))]) hW 6 (EvO.u0 (OpR.mv rfl) (EvO.u0 (OpR.mv rfl) (EvO.u0 (x:=.t (.arr es)) (fr':=[]) (OpR.r fun _=>by kernel_rfl) (EvO.u0 (OpR.mv rfl) (EvO.u0 (OpR.ix (e:=65) (sz:=3) (by kernel_rfl) rfl rfl hel rfl) (EvO.u0 (x:=.t (.agg [c0,c1,c2])) (fr':=[]) (OpR.r fun _=>by kernel_rfl) (EvO.nil ⟨rfl,rfl⟩))))))) rfl rfl (hK _ _ _ hj2).1 (by simp) ⟨hkp2.1,(by intro p hp;simp only [List.mem_cons,List.not_mem_nil,or_false] at hp;rcases hp with rfl|rfl|rfl;all_goals first|exact h3'|exact hkp2.2 (0,_) (by simp)|exact hkp2.2 (1,v) (by simp))⟩ hn2 (hst hj2 hkp2 h3') fun a4 X4 hd4 hn4 hb4 hV4=>?_
  have hj4:=hJ _ _ _ _ hj2 hb4
  have hb:bwd es (k+1)=[.int .i64 (k:Int),.agg [c0,c1,c2]]::bwd es k:=by
   show [AV.int .i64 (k:Int),AV.agg (es[k]?.getD [])]::bwd es k=_
   rw [hel];rfl
  rw [hb] at hj4
  have e11:a4.eval (.tmp 11)=.func (.yield l) #[] #[]:=inv_yield (sr_tree (x:=.fn (.yield l) 0 []) (hV4 11)) rfl rfl
  have e12:VR A X4 (.int .i64 (k:Int)) (a4.eval (.tmp 12)):=VR.on (Nat.le_refl _) (fun b _ hm=>⟨hm.1,rfl⟩) (sr_tree (x:=.int .i64 (k:Int)) (hV4 12))
  have e16:VR A X4 (.agg [c0,c1,c2]) (a4.eval (.tmp 16)):=VR.on (Nat.le_refl _) (fun b _ hm=>⟨hm.1,rfl⟩) (sr_tree (x:=.agg [c0,c1,c2]) (hV4 16))
  show wpListIn _ _ _ _ _ (_::_::[]) _ _
  unfold wpListIn
  rw [if_pos (by simp [Region.wanted])]
  refine yield_op rfl e11 (fun m=>hY _ _ _ _ _ hj4 (by simp) (fun j x u hx hu=>?_) m) fun e Y hr=>?_
  ·match j,hx,hu with
   | 0,hx,hu=>cases hx;simp at hu;rw [← hu];exact e12
   | 1,hx,hu=>cases hx;simp at hu;rw [← hu];exact e16
  ·have kp5:∀ b c:Bool,Kpt [(0,.func (.yield l) #[] #[]),(1,v),(3,.int .i64 (k:Int))] ((a4.put (some 17) (.bool b)).put (some 18) (.bool c)):=fun b c=>(hd4.put (by intro p hp;simp only [List.mem_cons,List.not_mem_nil,or_false] at hp;rcases hp with rfl|rfl|rfl <;> simp)).put (by intro p hp;simp only [List.mem_cons,List.not_mem_nil,or_false] at hp;rcases hp with rfl|rfl|rfl <;> simp)
   have sz5:∀ b c:Bool,((a4.put (some 17) (.bool b)).put (some 18) (.bool c)).tmps.size=19:=fun b c=>by rw [put_size,put_size,hn4]
   have e17:∀ b:Bool,(a4.put (some 17) (.bool b)).eval (.tmp 17)=.bool b:=fun b=>put_at (by omega)
   have e18:∀ b c:Bool,((a4.put (some 17) (.bool b)).put (some 18) (.bool c)).eval (.tmp 18)=.bool c:=fun b c=>put_at (by rw [put_size];omega)
   rcases hr with ⟨rfl,A',hj'⟩|⟨rfl,hx'⟩
   ·refine ⟨_,rfl,?_⟩
    unfold wpListIn
    rw [if_pos (by simp [Region.wanted])]
    refine not_op rfl (e17 true) ?_
    show Code.wpIn _ _ _ _ _ _ _
    refine wpIn_cond_split (e18 true false) (fun h=>by cases h) (fun _=>?_)
    refine wpIn_skip ?_
    show Code.wpIn _ _ _ _ _ _ _
    refine it_region (n:=19) (kp:=[(0,.func (.yield l) #[] #[]),(1,v)]) hW (EvO.u0 (OpR.mv rfl) (EvO.u0 (OpR.sub (m:=(k:Int)) (n:=1) rfl rfl (by omega)) (EvO.u0 (OpR.asg rfl) (EvO.nil ⟨rfl,rfl⟩)))) rfl (hK _ _ _ hj').1 (by simp) ⟨(kp5 true false).1,(by intro p hp;exact (kp5 true false).2 p (by simp only [List.mem_cons,List.not_mem_nil,or_false] at hp ⊢;rcases hp with rfl|rfl <;> simp))⟩ (sz5 true false) (hT hj' ((kp5 true false).2 (0,.func (.yield l) #[] #[]) (by simp)) ((kp5 true false).2 (1,v) (by simp)) ((kp5 true false).2 (3,.int .i64 (k:Int)) (by simp))) fun a6 X6 hd6 hn6 hb6 hV6=>?_
    exact ⟨k,by omega,by omega,hd6,hn6,inv_int (hV6 3),A',hJ _ _ _ _ hj' hb6⟩
   ·refine ⟨_,rfl,?_⟩
    unfold wpListIn
    rw [if_pos (by simp [Region.wanted])]
    refine not_op rfl (e17 false) ?_
    show Code.wpIn _ _ _ _ _ _ _
    refine wpIn_cond_split (e18 false true) (fun _=>?_) (fun h=>by cases h)
    refine wpIn_ret ?_
    exact ⟨(kp5 false true).1,_,results_none rfl _ _ _,⟨_,rfl⟩,.inr hx'⟩
 ·have hq1:=of_decide_eq_false hc
  obtain rfl:q=0:=by omega
  refine wpIn_exit ?_
  exact ⟨hd2.1,_,results_none rfl _ _ _,⟨_,rfl⟩,.inl ⟨rfl,A,hJ _ _ _ _ hj hb2⟩⟩
def seqT (f:Nat) (xs:List AV):Option (List (List AV)×Bool):=match Nat.beq f 167,xs with
 | true,[.tp [.arr es]]=>match (es.all fun c=>Nat.beq c.length 3) && Nat.ble es.length 140737488351232 with
  | true=>some (bwd es es.length,true)
  | false=>none
 | _,_=>none
theorem seqT_ok {γ:Glob} (gf:Nat) (xs:List AV) (yss:List (List AV)) (wh:Bool) (h:seqT gf xs=some (yss,wh)) (lb:Array Value) (hl:lb.size=xs.length):ISeq γ Tryz.prog gf lb (Cap xs lb) yss wh:=by
 unfold seqT at h
 split at h
 ·rename_i es hf
  have hf:gf=167:=by simpa using hf
  subst hf
  split at h
  ·rename_i hc
   rw [Bool.and_eq_true,Nat.ble_eq] at hc
   cases h
   have hs:lb.size=1:=hl
   have e:lb=#[lb[0]]:=by
    apply Array.ext
    ·simp [hs]
    ·intro i h1 h2
     have:i=0:=by simp at h2;omega
     subst this
     rfl
   rw [e]
   exact back_seq hc.2 fun c hm=>by simpa using List.all_eq_true.1 hc.1 c hm
  ·cases h
 ·cases h
end Go.Proofs.YtgbfedgghjcdcaaGreatDoor
