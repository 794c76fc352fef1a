/- The reference's guard of small models and events,as a contract. No condition. -/
import Derived.Test.YtgbfedgghjcdcaaGreatDoorNH
import Derived.Test.YtgbfedgghjcdcaaGreatDoorTKC
set_option linter.unusedSimpArgs false
set_option linter.unusedVariables false
set_option linter.unusedSectionVars false
namespace Go.Proofs.YtgbfedgghjcdcaaGreatDoor
open Go.RowKit
set_option maxRecDepth 100000
set_option maxHeartbeats 32000000
def chIn (n:Int) (c:Chg):Bool:=decide (0≤c.cell) && decide (c.cell < n)
def upIn (n:Int) (u:Upd):Bool:=decide (0≤u.cell) && decide (u.cell < n)
def effFew (s g:Int) (a:Actn):Bool:=((decide (a.eff.delta.length≤20) && decide (a.eff.hold.length≤8)) && decide (a.eff.ups.length≤20)) && (a.eff.delta.all (chIn s) && a.eff.ups.all (upIn g))
def pastFew (e:Ev):Bool:=decide (e.past.length≤8)
def lensFew (m:Md) (l:List Ev):Prop:=m.sorts.length≤4∧m.tables.length≤12∧m.cons.length≤80∧m.ops.length≤8∧m.acts.length≤30∧l.length≤60
instance (m:Md) (l:List Ev):Decidable (lensFew m l):=by unfold lensFew;infer_instance
def fewMB (m:Md) (l:List Ev):Bool:=decide (lensFew m l) && (modelB m && (m.acts.all (effFew (cntOf m.sorts true m.tables) (mrgL m.sorts m.tables).length) && (l.all pastFew && (decide (cntOf m.sorts true m.tables≤40) && decide ((mrgL m.sorts m.tables).length≤20)))))
theorem model_lay {m:Md} (h:modelB m=true):layB m.sorts m.tables=true:=by
 unfold modelB at h
 simp only [Bool.and_eq_true] at h
 exact h.1.1.1
theorem few_c {m:Md} {l:List Ev} (hm:MdL m) (hef:∀ a∈m.acts,EfB a.eff) (hl:l.length≤140737488351232) (hp:∀ e∈l,e.past.length≤140737488351232):Cl cfg 11 [.t (mdA m),.t (.arr (evsE l))] [] (.t (.bool (fewMB m l))) []:=by
 have hlS:=intsE_len m.sorts
 have hlL:=tbE_len m.tables
 have hlC:=cnE_len m.cons
 have hlO:=opE_len m.ops
 have hlA:=acE_len m.acts
 have hlE:=evsE_len l
 by_cases h0:lensFew m l
 ·
  have h0':=h0
  obtain ⟨a1,a2,a3,a4,a5,a6⟩:=h0'
  have kv:=rmvalid_c hm hef (by omega)
  cases hv:modelB m with
  | false=>
   have e0:fewMB m l=false:=by unfold fewMB;rw [hv,decide_eq_true h0];rfl
   rw [hv] at kv
   rw [mdA_eq] at kv ⊢
   rw [e0]
   refine Cl.of_body rfl Tryz.func11 rfl rfl rfl ?_
   repeat' (first
|(with_reducible apply EvK.seq)
|((with_reducible apply EvK.text);(try case hm=>exact rfl))
|(with_reducible first|apply EvK.ret|apply thenK_r)
|((with_reducible apply EvK.cond_t);(case hc=>exact rfl))
|((with_reducible apply EvO.spd_f);(case hp=>exact fao))
|((with_reducible apply EvO.spd_yf);(case hp=>exact fao))
|(with_reducible apply EvO.nilT)
|((with_reducible apply EvO.gt0);(case hW=>exact rfl);(case hx=>first
|(exact oqF kv)
|exact opq))
|((with_reducible apply EvO.u0);(case hx=>exact opq))
|fail)
   exact ⟨.inr rfl,rfl⟩
  | true=>
   have hlay:=model_lay hv
   have hsd:=lay_sound hlay
   have k1:=rstrictn_c hm hlay
   have k2:=rmerged_c hm hlay
   have hcb:=lay_cnt hlay
   have hgl:=mrgL_len m.sorts m.tables
   have hs0:=cnt_bnd (S:=m.sorts) true m.tables
   obtain ⟨s,hs⟩:∃ s,cntOf m.sorts true m.tables=s:=⟨_,rfl⟩
   obtain ⟨G,hG⟩:∃ G,mrgL m.sorts m.tables=G:=⟨_,rfl⟩
   have hlG:=tbE_len G
   obtain ⟨Y1,hY1⟩:∃ Y,l.all pastFew=Y:=⟨_,rfl⟩
   obtain ⟨Y2,hY2⟩:∃ Y,(decide (s≤40) && decide (G.length≤20))=Y:=⟨_,rfl⟩
   have e0:fewMB m l=((m.acts.drop 0).all (effFew s G.length) && (Y1 && Y2)):=by unfold fewMB;rw [hv,decide_eq_true h0,hs,hG,hY1,hY2];rfl
   rw [hv] at kv
   rw [hs] at k1 hcb hs0
   rw [hG] at k2 hgl
   rw [mdA_eq] at kv k1 k2 ⊢
   rw [e0]
   refine Cl.of_body rfl Tryz.func11 rfl rfl rfl ?_
   repeat' (first
|(with_reducible first|apply EvK.seq|apply EvK.block)
|((with_reducible apply EvK.text);(try case hm=>exact rfl))
|(with_reducible first|apply EvK.skip|apply thenK_n)
|((with_reducible apply EvK.cond_f);(case hc=>exact rfl))
|((with_reducible apply EvO.spd_f);(case hp=>exact fao))
|((with_reducible apply EvO.spd_yf);(case hp=>exact fao))
|(with_reducible apply EvO.nilT)
|((with_reducible apply EvO.gt0);(case hW=>exact rfl);(case hx=>first
|(exact oqF kv)
|exact opq))
|((with_reducible apply EvO.u0);(case hx=>exact opq))
|fail)
   apply EvK.loopV
   case ho=>exact rfl
   case hp=>exact rfl
   case hl=>exact rfl
   case hs=>exact slt
   refine EvL.ind (fun q:Nat=>[(5,.t (.int .i64 (q:Int)))]) (fun q=>q≤m.sorts.length) (fun q=>m.sorts.length - q) 0 rfl (by omega) (fun q hq=>?_)
   rcases Nat.lt_or_ge q m.sorts.length with h3|h3
   ·
    obtain ⟨n,hn⟩:=get_of_lt h3
    have hc:=intsE_get hn
    obtain ⟨n1,n2⟩:=sound_at hsd hn
    repeat' (first
|(with_reducible first|apply EvK.seq|apply EvK.block)
|((with_reducible apply EvK.text);(try case hm=>exact rfl))
|(with_reducible first|apply EvK.skip|apply thenK_n|apply blockK_n)
|((with_reducible apply EvK.cond_t);(case hc=>exact rfl))
|((with_reducible apply EvK.cond_f);(case hc=>exact rfl))
|((with_reducible apply EvO.spd_t);(case hp=>exact fao))
|((with_reducible apply EvO.spd_f);(case hp=>exact fao))
|((with_reducible apply EvO.spd_yf);(case hp=>exact fao))
|(with_reducible apply EvO.nilT)
|((with_reducible apply EvO.gt0);(case hW=>exact rfl);(case hx=>exact opq))
|((with_reducible apply EvO.u0);(case hx=>exact opq))
|fail)
    exact ⟨q+1,rfl,rfl,by omega,by omega⟩
   ·
    repeat' (first
|(with_reducible first|apply EvK.seq|apply EvK.block)
|((with_reducible apply EvK.text);(try case hm=>exact rfl))
|(with_reducible first|apply EvK.exit|apply thenK_n|apply thenK_e|apply blockK_h)
|((with_reducible apply EvK.cond_f);(case hc=>exact rfl))
|((with_reducible apply EvO.spd_f);(case hp=>exact fao))
|(with_reducible apply EvO.nilT)
|((with_reducible apply EvO.u0);(case hx=>exact opq))
|fail)
    apply EvK.loopV
    case ho=>exact rfl
    case hp=>exact rfl
    case hl=>exact rfl
    case hs=>exact slt
    refine EvL.ind (fun q:Nat=>[(6,.t (.int .i64 (q:Int)))]) (fun q=>q≤m.tables.length) (fun q=>m.tables.length - q) 0 rfl (by omega) (fun q hq=>?_)
    rcases Nat.lt_or_ge q m.tables.length with g3|g3
    ·
     obtain ⟨t,ht⟩:=get_of_lt g3
     have hc:=tbE_get ht
     have hlt:=intsE_len t.cols
     obtain ⟨c1,c2,c3⟩:=lay_cols hlay ht
     obtain ⟨r1,r2,r3⟩:=lay_rng hlay ht
     have hkd:0≤t.kind∧t.kind≤5:=by
      have h1:=lay_tab hlay ht
      simp only [tabOk,Bool.and_eq_true,decide_eq_true_eq] at h1
      exact h1.2.2.1
     obtain ⟨k3,k4⟩:=hkd
     repeat' (first
|(with_reducible first|apply EvK.seq|apply EvK.block)
|((with_reducible apply EvK.text);(try case hm=>exact rfl))
|((with_reducible apply EvK.drawn);(case hm=>exact rfl))
|(with_reducible first|apply EvK.skip|apply thenK_n|apply blockK_n)
|((with_reducible apply EvK.cond_t);(case hc=>exact rfl))
|((with_reducible apply EvK.cond_f);(case hc=>exact rfl))
|((with_reducible apply EvO.spd_t);(case hp=>exact fao))
|((with_reducible apply EvO.spd_f);(case hp=>exact fao))
|((with_reducible apply EvO.spd_yf);(case hp=>exact fao))
|(with_reducible apply EvO.nilT)
|((with_reducible apply EvO.gt0);(case hW=>exact rfl);(case hx=>exact opq))
|((with_reducible apply EvO.u0);(case hx=>exact opq))
|fail)
     exact ⟨q+1,rfl,rfl,by omega,by omega⟩
    ·
     repeat' (first
|(with_reducible first|apply EvK.seq|apply EvK.block)
|((with_reducible apply EvK.text);(try case hm=>exact rfl))
|((with_reducible apply EvK.drawn);(case hm=>exact rfl))
|(with_reducible first|apply EvK.exit|apply thenK_n|apply thenK_e|apply blockK_h)
|((with_reducible apply EvK.cond_f);(case hc=>exact rfl))
|((with_reducible apply EvO.spd_f);(case hp=>exact fao))
|(with_reducible apply EvO.nilT)
|((with_reducible apply EvO.u0);(case hx=>first
|(exact oqF k1)
|(exact oqC k2)
|exact opq))
|fail)
     apply EvK.loopV
     case ho=>exact rfl
     case hp=>exact rfl
     case hl=>exact rfl
     case hs=>exact slt
     refine EvL.ind (fun q:Nat=>[(9,.t (.int .i64 (q:Int)))]) (fun q=>q≤m.acts.length∧(m.acts.drop 0).all (effFew s G.length)=(m.acts.drop q).all (effFew s G.length)) (fun q=>m.acts.length - q) 0 rfl ⟨by omega,rfl⟩ (fun q hq=>?_)
     obtain ⟨p1,p2⟩:=hq
     rw [p2]
     rcases Nat.lt_or_ge q m.acts.length with p3|p3
     ·
      obtain ⟨a,ha⟩:=get_of_lt p3
      have hac:=acE_get ha
      have hlD:=chE_len a.eff.delta
      have hlH:=rwE_len a.eff.hold
      have hlU:=udE_len a.eff.ups
      have hht:=all_hit (effFew s G.length) ha
      rw [hht]
      obtain ⟨Z,hZ⟩:∃ Z,(m.acts.drop (q+1)).all (effFew s G.length)=Z:=⟨_,rfl⟩
      rw [hZ]
      by_cases hlens:a.eff.delta.length≤20∧a.eff.hold.length≤8∧a.eff.ups.length≤20
      ·
       obtain ⟨l1,l2,l3⟩:=hlens
       obtain ⟨X,hX⟩:∃ X,a.eff.ups.all (upIn G.length)=X:=⟨_,rfl⟩
       have e1:effFew s G.length a=((a.eff.delta.drop 0).all (chIn s) && X):=by unfold effFew;rw [hX,decide_eq_true l1,decide_eq_true l2,decide_eq_true l3];rfl
       rw [e1]
       repeat' (first
|(with_reducible first|apply EvK.seq|apply EvK.block)
|((with_reducible apply EvK.text);(try case hm=>exact rfl))
|(with_reducible first|apply EvK.skip|apply thenK_n)
|((with_reducible apply EvK.cond_t);(case hc=>exact rfl))
|((with_reducible apply EvK.cond_f);(case hc=>exact rfl))
|((with_reducible apply EvO.spd_t);(case hp=>exact fao))
|((with_reducible apply EvO.spd_f);(case hp=>exact fao))
|((with_reducible apply EvO.spd_yf);(case hp=>exact fao))
|(with_reducible apply EvO.nilT)
|((with_reducible apply EvO.gt0);(case hW=>exact rfl);(case hx=>exact opq))
|((with_reducible apply EvO.u0);(case hx=>exact opq))
|fail)
       apply EvK.loopV
       case ho=>exact rfl
       case hp=>exact rfl
       case hl=>exact rfl
       case hs=>exact slt
       refine EvL.ind (fun k:Nat=>[(11,.t (.int .i64 (k:Int)))]) (fun k=>k≤a.eff.delta.length∧(a.eff.delta.drop 0).all (chIn s)=(a.eff.delta.drop k).all (chIn s)) (fun k=>a.eff.delta.length - k) 0 rfl ⟨by omega,rfl⟩ (fun k hk=>?_)
       obtain ⟨g1,g2⟩:=hk
       rw [g2]
       rcases Nat.lt_or_ge k a.eff.delta.length with g4|g4
       ·
        obtain ⟨c,hc⟩:=get_of_lt g4
        have hcc:=chE_get hc
        have hhc:=all_hit (chIn s) hc
        rw [hhc]
        unfold chIn
        repeat' (first
|(with_reducible first|apply EvK.seq|apply EvK.block)
|((with_reducible apply EvK.text);(try case hm=>exact rfl))
|(with_reducible first|apply EvK.skip|apply EvK.ret|apply thenK_n|apply thenK_r|apply blockK_n|apply blockK_r)
|((with_reducible apply EvK.cond_t);(case hc=>exact rfl))
|((with_reducible apply EvK.cond_f);(case hc=>exact rfl))
|((with_reducible apply EvO.spd_t);(case hp=>exact fao))
|((with_reducible apply EvO.spd) <;> intro hq)
|((with_reducible apply EvO.spd_y) <;> intro hq)
|(with_reducible apply EvO.nilT)
|((with_reducible apply EvO.gf);(case hW=>exact rfl))
|((with_reducible apply EvO.gt0);(case hW=>exact rfl);(case hx=>exact opq))
|((with_reducible apply EvO.u0);(case hx=>exact opq))
|fail)
        all_goals first
         | exact ⟨k+1,rfl,rfl,⟨by omega,by rw [decide_eq_true (show 0≤c.cell by omega),decide_eq_true (show c.cell < s by omega)];rfl⟩,by omega⟩
         | exact fin_b (.inr rfl) rfl (by rw [decide_eq_false (show ¬ 0≤c.cell by omega)];rfl)
         | exact fin_b (.inr rfl) rfl (by rw [decide_eq_false (show ¬ c.cell < s by omega),Bool.and_false];rfl)
       ·
        rw [alle _ g4,Bool.true_and,← hX]
        have e2:a.eff.ups.all (upIn G.length)=(a.eff.ups.drop 0).all (upIn G.length):=rfl
        rw [e2]
        repeat' (first
|(with_reducible first|apply EvK.seq|apply EvK.block)
|((with_reducible apply EvK.text);(try case hm=>exact rfl))
|(with_reducible first|apply EvK.exit|apply thenK_n|apply thenK_e|apply blockK_h)
|((with_reducible apply EvK.cond_f);(case hc=>exact rfl))
|((with_reducible apply EvO.spd_f);(case hp=>exact fao))
|(with_reducible apply EvO.nilT)
|((with_reducible apply EvO.u0);(case hx=>exact opq))
|fail)
        apply EvK.loopV
        case ho=>exact rfl
        case hp=>exact rfl
        case hl=>exact rfl
        case hs=>exact slt
        refine EvL.ind (fun k:Nat=>[(12,.t (.int .i64 (k:Int)))]) (fun k=>k≤a.eff.ups.length∧(a.eff.ups.drop 0).all (upIn G.length)=(a.eff.ups.drop k).all (upIn G.length)) (fun k=>a.eff.ups.length - k) 0 rfl ⟨by omega,rfl⟩ (fun k hk=>?_)
        obtain ⟨g1,g2⟩:=hk
        rw [g2]
        rcases Nat.lt_or_ge k a.eff.ups.length with g5|g5
        ·
         obtain ⟨u,hu⟩:=get_of_lt g5
         have huc:=udE_get hu
         have hhu:=all_hit (upIn G.length) hu
         rw [hhu]
         unfold upIn
         repeat' (first
|(with_reducible first|apply EvK.seq|apply EvK.block)
|((with_reducible apply EvK.text);(try case hm=>exact rfl))
|(with_reducible first|apply EvK.skip|apply EvK.ret|apply thenK_n|apply thenK_r|apply blockK_n|apply blockK_r)
|((with_reducible apply EvK.cond_t);(case hc=>exact rfl))
|((with_reducible apply EvK.cond_f);(case hc=>exact rfl))
|((with_reducible apply EvO.spd_t);(case hp=>exact fao))
|((with_reducible apply EvO.spd) <;> intro hq)
|((with_reducible apply EvO.spd_y) <;> intro hq)
|(with_reducible apply EvO.nilT)
|((with_reducible apply EvO.gf);(case hW=>exact rfl))
|((with_reducible apply EvO.gt0);(case hW=>exact rfl);(case hx=>exact opq))
|((with_reducible apply EvO.u0);(case hx=>exact opq))
|fail)
         all_goals first
          | exact ⟨k+1,rfl,rfl,⟨by omega,by rw [decide_eq_true (show 0≤u.cell by omega),decide_eq_true (show u.cell < G.length by omega)];rfl⟩,by omega⟩
          | exact fin_b (.inr rfl) rfl (by rw [decide_eq_false (show ¬ 0≤u.cell by omega)];rfl)
          | exact fin_b (.inr rfl) rfl (by rw [decide_eq_false (show ¬ u.cell < G.length by omega),Bool.and_false];rfl)
        ·
         rw [alle _ g5,Bool.true_and]
         repeat' (first
|(with_reducible apply EvK.seq)
|((with_reducible apply EvK.text);(try case hm=>exact rfl))
|(with_reducible first|apply EvK.exit|apply thenK_n|apply thenK_e|apply blockK_n|apply blockK_h)
|((with_reducible apply EvK.cond_f);(case hc=>exact rfl))
|((with_reducible apply EvO.spd_f);(case hp=>exact fao))
|(with_reducible apply EvO.nilT)
|((with_reducible apply EvO.u0);(case hx=>exact opq))
|fail)
         exact ⟨q+1,rfl,rfl,⟨by omega,hZ.symm⟩,by omega⟩
      ·
       have e1:effFew s G.length a=false:=by
        rw [← Bool.not_eq_true]
        unfold effFew
        simp only [Bool.and_eq_true,decide_eq_true_eq]
        exact fun h=>hlens ⟨h.1.1.1,h.1.1.2,h.1.2⟩
       rw [e1]
       repeat' (first
|(with_reducible first|apply EvK.seq|apply EvK.block)
|((with_reducible apply EvK.text);(try case hm=>exact rfl))
|(with_reducible first|apply EvK.skip|apply EvK.ret|apply thenK_n|apply thenK_r|apply blockK_r)
|((with_reducible apply EvK.cond_t);(case hc=>exact rfl))
|((with_reducible apply EvO.spd_t);(case hp=>exact fao))
|((with_reducible apply EvO.spd) <;> intro hq)
|((with_reducible apply EvO.spd_yt);(case hp=>exact fao))
|((with_reducible apply EvO.spd_y) <;> intro hq)
|(with_reducible apply EvO.nilT)
|((with_reducible apply EvO.gf);(case hW=>exact rfl))
|((with_reducible apply EvO.gt0);(case hW=>exact rfl);(case hx=>exact opq))
|((with_reducible apply EvO.u0);(case hx=>exact opq))
|fail)
       all_goals first
        | exact ⟨.inr rfl,rfl⟩
        | (exfalso;omega)
     ·
      rw [alle _ p3,Bool.true_and,← hY1]
      have e2:l.all pastFew=(l.drop 0).all pastFew:=rfl
      rw [e2]
      repeat' (first
|(with_reducible first|apply EvK.seq|apply EvK.block)
|((with_reducible apply EvK.text);(try case hm=>exact rfl))
|(with_reducible first|apply EvK.exit|apply thenK_n|apply thenK_e|apply blockK_h)
|((with_reducible apply EvK.cond_f);(case hc=>exact rfl))
|((with_reducible apply EvO.spd_f);(case hp=>exact fao))
|(with_reducible apply EvO.nilT)
|((with_reducible apply EvO.u0);(case hx=>exact opq))
|fail)
      apply EvK.loopV
      case ho=>exact rfl
      case hp=>exact rfl
      case hl=>exact rfl
      case hs=>exact slt
      refine EvL.ind (fun q:Nat=>[(13,.t (.int .i64 (q:Int)))]) (fun q=>q≤l.length∧(l.drop 0).all pastFew=(l.drop q).all pastFew) (fun q=>l.length - q) 0 rfl ⟨by omega,rfl⟩ (fun q hq=>?_)
      obtain ⟨h1,h2⟩:=hq
      rw [h2]
      rcases Nat.lt_or_ge q l.length with h4|h4
      ·
       obtain ⟨e,he⟩:=get_of_lt h4
       have hc:=evsE_get he
       have hle:=intsE_len e.past
       have ha:=all_hit pastFew he
       rw [ha]
       by_cases h8:e.past.length≤8
       ·
        rw [show pastFew e=true from decide_eq_true h8]
        repeat' (first
|(with_reducible first|apply EvK.seq|apply EvK.block)
|((with_reducible apply EvK.text);(try case hm=>exact rfl))
|(with_reducible first|apply EvK.skip|apply thenK_n|apply blockK_n)
|((with_reducible apply EvK.cond_t);(case hc=>exact rfl))
|((with_reducible apply EvK.cond_f);(case hc=>exact rfl))
|((with_reducible apply EvO.spd_t);(case hp=>exact fao))
|((with_reducible apply EvO.spd_f);(case hp=>exact fao))
|(with_reducible apply EvO.nilT)
|((with_reducible apply EvO.u0);(case hx=>exact opq))
|fail)
        exact ⟨q+1,rfl,rfl,⟨by omega,rfl⟩,by omega⟩
       ·
        rw [show pastFew e=false from decide_eq_false h8]
        repeat' (first
|(with_reducible first|apply EvK.seq|apply EvK.block)
|((with_reducible apply EvK.text);(try case hm=>exact rfl))
|(with_reducible first|apply EvK.skip|apply EvK.ret|apply thenK_n|apply thenK_r|apply blockK_r)
|((with_reducible apply EvK.cond_t);(case hc=>exact rfl))
|((with_reducible apply EvO.spd_t);(case hp=>exact fao))
|(with_reducible apply EvO.nilT)
|((with_reducible apply EvO.u0);(case hx=>exact opq))
|fail)
        exact ⟨.inr rfl,rfl⟩
      ·
       rw [alle _ h4,Bool.true_and,← hY2]
       repeat' (first
|(with_reducible apply EvK.seq)
|((with_reducible apply EvK.text);(try case hm=>exact rfl))
|(with_reducible first|apply EvK.exit|apply EvK.ret|apply thenK_n|apply thenK_e|apply blockK_h)
|((with_reducible apply EvK.cond_f);(case hc=>exact rfl))
|((with_reducible apply EvO.spd_f);(case hp=>exact fao))
|((with_reducible apply EvO.spd) <;> intro hq)
|((with_reducible apply EvO.spd_y) <;> intro hq)
|(with_reducible apply EvO.nilT)
|((with_reducible apply EvO.gf);(case hW=>exact rfl))
|((with_reducible apply EvO.gt0);(case hW=>exact rfl);(case hx=>exact opq))
|((with_reducible apply EvO.u0);(case hx=>exact opq))
|fail)
       all_goals (refine fin_b (.inr rfl) rfl ?_;simp;omega)
 ·
  have e0:fewMB m l=false:=by unfold fewMB;rw [decide_eq_false h0];rfl
  have h1:¬ (m.sorts.length≤4∧m.tables.length≤12∧m.cons.length≤80∧m.ops.length≤8∧m.acts.length≤30∧l.length≤60):=h0
  rw [mdA_eq,e0]
  refine Cl.of_body rfl Tryz.func11 rfl rfl rfl ?_
  repeat' (first
|(with_reducible apply EvK.seq)
|((with_reducible apply EvK.text);(try case hm=>exact rfl))
|(with_reducible first|apply EvK.ret|apply thenK_r)
|((with_reducible apply EvK.cond_t);(case hc=>exact rfl))
|((with_reducible apply EvO.spd) <;> intro hq)
|((with_reducible apply EvO.spd_yt);(case hp=>exact fao))
|((with_reducible apply EvO.spd_y) <;> intro hq)
|(with_reducible apply EvO.nilT)
|((with_reducible apply EvO.gf);(case hW=>exact rfl))
|((with_reducible apply EvO.gt0);(case hW=>exact rfl);(case hx=>exact opq))
|((with_reducible apply EvO.u0);(case hx=>exact opq))
|fail)
  all_goals first
   | exact ⟨.inr rfl,rfl⟩
   | (exfalso;omega)
end Go.Proofs.YtgbfedgghjcdcaaGreatDoor
