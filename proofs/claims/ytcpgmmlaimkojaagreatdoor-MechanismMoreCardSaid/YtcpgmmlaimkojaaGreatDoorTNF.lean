/- The reference's models,part by part,as contracts: operations and actions. No condition. -/
import Derived.Test.YtcpgmmlaimkojaaGreatDoorTNB
import Derived.Test.YtcpgmmlaimkojaaGreatDoorTS
set_option linter.unusedSimpArgs false
set_option linter.unusedVariables false
set_option linter.unusedSectionVars false
namespace Go.Proofs.YtcpgmmlaimkojaaGreatDoor
open Go.RowKit
set_option maxRecDepth 100000
set_option maxHeartbeats 32000000
theorem opOk_iff {m:Md} {o:Opn}:opOk m o=((o.sorts.drop 0).all (fun s=>decide (-1≤s) && decide (s < m.sorts.length)) && decide (o.sorts.length≤3)):=rfl
theorem op_at {m:Md} {o:Opn} (h:opOk m o=true) {k:Nat} {s:Int} (hs:o.sorts[k]?=some s) : -1≤s∧s < m.sorts.length:=by
 unfold opOk at h
 simp only [Bool.and_eq_true] at h
 have:=List.all_eq_true.1 h.1 s (List.mem_of_getElem? hs)
 simpa using this
theorem argOk_neg {m:Md} {s a:Int} (h:s < 0):argOk m s a=btw a 9999:=by unfold argOk;rw [if_pos h]
theorem argOk_pos {m:Md} {s a n:Int} (h:0≤s) (hn:m.sorts[s.toNat]?=some n):argOk m s a=(decide (0≤a) && decide (a < n)):=by unfold argOk;rw [if_neg (by omega),getD_get hn]
theorem actOk_eq {m:Md} {n:Int} {i:Nat} {a b:Actn} {o:Opn} (h0:0≤a.op) (h1:a.op < m.ops.length) (ho:m.ops[a.op.toNat]?=some o) (hb:m.acts.getD (i - 1) zActn=b):actOk m n i a=((decide (a.args.length=o.sorts.length) && allG (fun k x=>argOk m (o.sorts.getD k 0) x) 0 (a.args.drop 0)) &&
  ((decide (i=0) || (decide (b.op < a.op) || (decide (b.op=a.op) && lessL b.args a.args))) && effB m n a.eff)):=by
 have e:m.ops.getD a.op.toNat zOpn=o:=by rw [List.getD_eq_getElem?_getD,ho];rfl
 unfold actOk
 rw [e,hb,decide_eq_true h0,decide_eq_true h1]
 rfl
theorem actOk_no {m:Md} {n:Int} {i:Nat} {a:Actn} (h:¬ (0≤a.op∧a.op < m.ops.length)):actOk m n i a=false:=by
 rw [← Bool.not_eq_true]
 intro h'
 unfold actOk at h'
 simp only [Bool.and_eq_true,decide_eq_true_eq] at h'
 exact h h'.1.1.1
theorem ract_c {m:Md} (hm:MdL m) (hv:layB m.sorts m.tables=true) (hef:∀ a∈m.acts,EfB a.eff) (hop:m.ops.length≤4398046511104):Cl cfg 99 [.t (mdA m)] [] (.t (.bool (actsB m (rngs m.sorts m.tables true).length))) []:=by
 have hlO:=opE_len m.ops
 have hlA:=acE_len m.acts
 have hlS:=intsE_len m.sorts
 have hmo:=hm.ops
 have hmos:=hm.osorts
 have hma:=hm.acts
 have hmar:=hm.args
 have hfew:=lay_few hv
 have ke:=fun (a:Actn) (ha:a∈m.acts)=>reff_c hm (hef a ha)
 obtain ⟨n,hn⟩:∃ n,(rngs m.sorts m.tables true).length=n:=⟨_,rfl⟩
 rw [hn] at ke ⊢
 obtain ⟨Y1,hY1⟩:∃ Y,(decide (m.ops.length≤8) && (distB (m.ops.map (·.name)) && decide (m.acts.length≤256)))=Y:=⟨_,rfl⟩
 obtain ⟨Y2,hY2⟩:∃ Y,allI (actOk m n) m.acts=Y:=⟨_,rfl⟩
 have e0:actsB m n=(((m.ops.drop 0).all (opOk m) && Y1) && Y2):=by rw [← hY1,← hY2];rfl
 have kd:=rdist_c (L:=m.ops.map (·.name)) (by simp;omega)
 rw [e0]
 rw [mdA_eq] at ke ⊢
 refine Cl.of_body rfl Tryz.func99 rfl rfl rfl ?_
 refine drvR ?_
 refine EvL.indF (fun x:Nat×Bool=>[(3,.ls 1),(4,.t (.int .i64 (x.1:Int)))]) (fun x=>[.box false 30 ((mdC m).map .t),.row false x.2 1 (nmE ((m.ops.take x.1).map (·.name)))]) (fun x=>x.1≤m.ops.length∧(m.ops.drop 0).all (opOk m)=(m.ops.drop x.1).all (opOk m)∧(m.ops.take x.1).all (opOk m)=true) (fun x=>m.ops.length - x.1) (0,false) rfl rfl ⟨by dsimp only;omega,rfl,by simp⟩ (fun x hq=>?_)
 obtain ⟨q,tch⟩:=x
 dsimp only at hq ⊢
 obtain ⟨h1,h2,h2'⟩:=hq
 rw [h2]
 rcases Nat.lt_or_ge q m.ops.length with h3|h3
 ·
  obtain ⟨o,ho⟩:=get_of_lt h3
  have hoc:=opE_get ho
  have hos:=hmos o (List.mem_of_getElem? ho)
  have hlo:=intsE_len o.sorts
  have hht:=all_hit (opOk m) ho
  have hsn:nmE ((m.ops.take q).map (·.name))++[[.str o.name]]=nmE ((m.ops.take (q+1)).map (·.name)):=by
   rw [List.take_add_one,ho]
   simp [nmE]
  have hlX:lenOk ((nmE ((m.ops.take q).map (·.name))).length+1) 16=true:=by
   rw [nmE_len]
   simp [lenOk]
   omega
  have e1:=opOk_iff (m:=m) (o:=o)
  obtain ⟨f,hf⟩:∃ f:Int→Bool,(fun s:Int=>decide (-1≤s) && decide (s < m.sorts.length))=f:=⟨_,rfl⟩
  rw [hf] at e1
  obtain ⟨Z,hZ⟩:∃ Z,(m.ops.drop (q+1)).all (opOk m)=Z:=⟨_,rfl⟩
  rw [hht,hZ,e1]
  repeat' (first
|(with_reducible first|apply EvK.seq|apply EvK.block)
|((with_reducible apply EvK.text);(try case hm=>exact rfl))
|(with_reducible first|apply EvK.skip|apply thenK_n)
|((with_reducible apply EvK.cond_t);(case hc=>exact rfl))
|((with_reducible apply EvO.spd_t);(case hp=>exact fao))
|(with_reducible apply EvO.nilT)
|((with_reducible apply EvO.u);(case hx=>((with_reducible apply OpR.apr);(case hs=>exact fun _=>rfl);(case ha|ht=>exact rfl);(case hr=>first|(with_reducible exact rw0)|(with_reducible exact rw1)|(with_reducible exact rw2)|(with_reducible exact rw3)|(with_reducible exact rw4)|exact rfl);(case hx|hy|hn|hb|hok=>exact rfl);(case hlen=>exact hlX);(case hv=>exact hsn);(case hk=>exact kfr);(case hf=>exact leq))))
|((with_reducible apply EvO.u0);(case hx=>exact opq))
|fail)
  apply EvK.loopV
  case ho=>exact rfl
  case hp=>exact rfl
  case hl=>exact rfl
  case hs=>exact slt
  refine EvL.ind (fun k:Nat=>[(6,.t (.int .i64 (k:Int)))]) (fun k=>k≤o.sorts.length∧(o.sorts.drop 0).all f=(o.sorts.drop k).all f) (fun k=>o.sorts.length - k) 0 rfl ⟨by omega,rfl⟩ (fun k hk=>?_)
  obtain ⟨g1,g2⟩:=hk
  rw [g2]
  rcases Nat.lt_or_ge k o.sorts.length with g3|g3
  ·
   obtain ⟨s,hs⟩:=get_of_lt g3
   have hsc:=intsE_get hs
   have hts:=all_hit f hs
   have hfs:f s=(decide (-1≤s) && decide (s < m.sorts.length)):=by rw [← hf]
   rw [hts,hfs]
   repeat' (first
|(with_reducible first|apply EvK.seq|apply EvK.block)
|((with_reducible apply EvK.text);(try case hm=>exact rfl))
|((with_reducible apply EvK.drawn);(case hm=>exact rfl))
|(with_reducible first|apply EvK.skip|apply EvK.ret|apply thenK_n|apply thenK_r|apply blockK_n|apply blockK_r)
|((with_reducible apply EvK.cond_t);(case hc=>exact rfl))
|((with_reducible apply EvK.cond_f);(case hc=>exact rfl))
|((with_reducible apply EvO.spd_t);(case hp=>exact fao))
|((with_reducible apply EvO.spd) <;> intro hq)
|((with_reducible apply EvO.spd_y) <;> intro hq)
|(with_reducible apply EvO.nilT)
|((with_reducible apply EvO.gf);(case hW=>exact rfl))
|((with_reducible apply EvO.gt0);(case hW=>exact rfl);(case hx=>exact opq))
|((with_reducible apply EvO.u0);(case hx=>exact opq))
|fail)
   all_goals first
    | exact ⟨k+1,rfl,rfl,⟨by omega,by rw [decide_eq_true (show -1≤s by omega),decide_eq_true (show s < m.sorts.length by omega)];rfl⟩,by omega⟩
    | exact fin_b (.inr rfl) rfl (by rw [decide_eq_false (show ¬ -1≤s by omega)];rfl)
    | exact fin_b (.inr rfl) rfl (by rw [decide_eq_false (show ¬ s < m.sorts.length by omega),Bool.and_false];rfl)
  ·
   rw [alle _ g3,Bool.true_and]
   by_cases g4:o.sorts.length≤3
   ·
    have hoo:opOk m o=true:=by rw [e1,g2,alle _ g3,decide_eq_true g4];rfl
    rw [decide_eq_true g4,Bool.true_and]
    refine drvR ?_
    exact ⟨(q+1,true),rfl,rfl,⟨by dsimp only;omega,by dsimp only;exact hZ.symm,all_more h2' ho hoo⟩,by dsimp only;omega⟩
   ·
    rw [decide_eq_false g4]
    exact drv
 ·
  rw [alle _ h3,Bool.true_and]
  have hops:∀ o∈m.ops,opOk m o=true:=fun o ho=>List.all_eq_true.1 (all_end h2' h3) o ho
  rw [List.take_of_length_le h3,← hY1]
  obtain ⟨d,hd⟩:∃ d,distB (m.ops.map (·.name))=d:=⟨_,rfl⟩
  rw [hd] at kd ⊢
  by_cases h8:m.ops.length≤8∧d=true∧m.acts.length≤256
  ·
   obtain ⟨h81,rfl,h83⟩:=h8
   rw [decide_eq_true h81,decide_eq_true h83]
   rw [show (true && (true && true))=true by rfl,Bool.true_and,← hY2]
   have e2:allI (actOk m n) m.acts=allG (actOk m n) 0 (m.acts.drop 0):=rfl
   rw [e2]
   refine drvR ?_
   refine EvL.ind (fun q:Nat=>[(7,.t (.int .i64 (q:Int)))]) (fun q=>q≤m.acts.length∧allG (actOk m n) 0 (m.acts.drop 0)=allG (actOk m n) q (m.acts.drop q)) (fun q=>m.acts.length - q) 0 rfl ⟨by omega,rfl⟩ (fun q hq=>?_)
   obtain ⟨k1,k2⟩:=hq
   rw [k2]
   rcases Nat.lt_or_ge q m.acts.length with k3|k3
   ·
    obtain ⟨a,ha⟩:=get_of_lt k3
    have hac:=acE_get ha
    have hmem:=List.mem_of_getElem? ha
    have kea:=ke a hmem
    have hla:=intsE_len a.args
    have hma2:=hmar a hmem
    have hbad:=allG_bad (p:=actOk m n) ha
    have hok:=allG_ok (p:=actOk m n) ha
    by_cases hop:0≤a.op∧a.op < m.ops.length
    ·
     obtain ⟨o,ho⟩:=get_of_lt (xs:=m.ops) (k:=a.op.toNat) (by omega)
     have hoc:=opE_get ho
     have hoo:=hops o (List.mem_of_getElem? ho)
     have hlo:=intsE_len o.sorts
     have hos:=hmos o (List.mem_of_getElem? ho)
     obtain ⟨b,hb⟩:∃ b,m.acts.getD (q - 1) zActn=b:=⟨_,rfl⟩
     have heq:=actOk_eq (m:=m) (n:=n) (i:=q) (a:=a) (b:=b) (o:=o) hop.1 hop.2 ho hb
     obtain ⟨o1,o2⟩:=hop
     by_cases hal:a.args.length=o.sorts.length
     ·
      rw [decide_eq_true hal,Bool.true_and] at heq
      obtain ⟨f,hf⟩:∃ f:Nat→Int→Bool,(fun k x=>argOk m (o.sorts.getD k 0) x)=f:=⟨_,rfl⟩
      rw [hf] at heq
      refine drvR ?_
      refine EvL.ind (fun k:Nat=>[(9,.t (.int .i64 (k:Int)))]) (fun k=>k≤a.args.length∧allG f 0 (a.args.drop 0)=allG f k (a.args.drop k)) (fun k=>a.args.length - k) 0 rfl ⟨by omega,rfl⟩ (fun k hk=>?_)
      obtain ⟨g1,g2⟩:=hk
      rcases Nat.lt_or_ge k a.args.length with g3|g3
      ·
       obtain ⟨x,hx⟩:=get_of_lt g3
       have hxc:=intsE_get hx
       obtain ⟨s,hs⟩:=get_of_lt (xs:=o.sorts) (k:=k) (by omega)
       have hsc:=intsE_get hs
       obtain ⟨s1,s2⟩:=op_at hoo hs
       have hbad2:=allG_bad (p:=f) hx
       have hok2:=allG_ok (p:=f) hx
       have hfe:f k x=argOk m s x:=by rw [← hf];dsimp only;rw [getD_get hs]
       rw [hfe] at hbad2 hok2
       rcases Int.lt_or_le s 0 with hs0|hs0
       ·
        rw [argOk_neg hs0] at hbad2 hok2
        have kb:=rbtw2 x
        obtain ⟨bb,hbb⟩:∃ bb,btw x 9999=bb:=⟨_,rfl⟩
        rw [hbb] at kb hbad2 hok2
        cases bb with
        | false=>
         rw [hbad (by rw [heq,g2,hbad2 (by decide)];simp)]
         exact drv
        | true=>
         refine drvR ?_
         exact ⟨k+1,rfl,rfl,⟨by omega,by rw [g2];exact hok2 rfl⟩,by omega⟩
       ·
        obtain ⟨N,hN⟩:=get_of_lt (xs:=m.sorts) (k:=s.toNat) (by omega)
        have hNc:=intsE_get hN
        rw [argOk_pos hs0 hN] at hbad2 hok2
        by_cases hxr:0≤x∧x < N
        ·
         obtain ⟨r1,r2⟩:=hxr
         refine drvR ?_
         exact ⟨k+1,rfl,rfl,⟨by omega,by rw [g2];exact hok2 (by rw [decide_eq_true r1,decide_eq_true r2];rfl)⟩,by omega⟩
        ·
         have hno:(decide (0≤x) && decide (x < N))=false:=by rw [← Bool.not_eq_true];simpa using hxr
         rw [hbad (by rw [heq,g2,hbad2 (by rw [hno];decide)];simp)]
         repeat' (first
|(with_reducible first|apply EvK.seq|apply EvK.block)
|((with_reducible apply EvK.text);(try case hm=>exact rfl))
|((with_reducible apply EvK.drawn);(case hm=>exact rfl))
|(with_reducible first|apply EvK.skip|apply EvK.ret|apply thenK_n|apply thenK_r|apply blockK_r)
|((with_reducible apply EvK.cond_t);(case hc=>exact rfl))
|((with_reducible apply EvO.spd_t);(case hp=>exact fao))
|((with_reducible apply EvO.spd_f);(case hp=>exact fao))
|((with_reducible apply EvO.spd_yt);(case hp=>exact fao))
|((with_reducible apply EvO.spd_y) <;> intro hq)
|(with_reducible apply EvO.nilT)
|((with_reducible apply EvO.gf);(case hW=>exact rfl))
|((with_reducible apply EvO.gt0);(case hW=>exact rfl);(case hx=>exact opq))
|((with_reducible apply EvO.u0);(case hx=>exact opq))
|fail)
         all_goals first
          | exact ⟨.inr rfl,rfl⟩
          | (exfalso;omega)
      ·
       rw [g2,allG_end g3,Bool.true_and] at heq
       obtain ⟨be,hbe⟩:∃ be,effB m n a.eff=be:=⟨_,rfl⟩
       rw [hbe] at kea heq
       cases q with
       | zero=>
        rw [decide_eq_true (show (0:Nat)=0 by rfl),Bool.true_or,Bool.true_and] at heq
        cases be with
        | false=>
         rw [hbad (by rw [heq];decide)]
         exact drv
        | true=>
         refine drvR ?_
         exact ⟨0+1,rfl,rfl,⟨by omega,hok heq⟩,by omega⟩
       | succ p=>
        obtain ⟨w,hw⟩:=get_of_lt (xs:=m.acts) (k:=p) (by omega)
        have hwc:=acE_get hw
        have hwc':(acE m.acts)[((p+1:Nat) - 1:Int).toNat]?=some [.int .i64 w.op,intsA w.args,.arr (chE w.eff.delta),.arr (rwE w.eff.hold),.arr (udE w.eff.ups)]:=by rw [show ((p+1:Nat) - 1:Int).toNat=p by omega];exact hwc
        have hgw:m.acts.getD (p+1 - 1) zActn=w:=by rw [Nat.add_sub_cancel,List.getD_eq_getElem?_getD,hw];rfl
        obtain rfl:w=b:=by rw [← hgw,hb]
        have hlw:=intsE_len w.args
        have klw:=rless_c (A:=w.args) (B:=a.args) (by have:=hmar w (List.mem_of_getElem? hw);omega) (by omega)
        rw [decide_eq_false (show ¬ p+1=0 by omega),Bool.false_or] at heq
        obtain ⟨bl,hbl⟩:∃ bl,lessL w.args a.args=bl:=⟨_,rfl⟩
        rw [hbl] at klw heq
        rcases Int.lt_trichotomy w.op a.op with ho1|ho1|ho1
        ·
         rw [decide_eq_true ho1,Bool.true_or,Bool.true_and] at heq
         cases be with
         | false=>
          rw [hbad (by rw [heq];decide)]
          exact drv
         | true=>
          refine drvR ?_
          exact ⟨p+1+1,rfl,rfl,⟨by omega,hok heq⟩,by omega⟩
        ·
         rw [decide_eq_false (show ¬ w.op < a.op by omega),decide_eq_true ho1,Bool.false_or,Bool.true_and] at heq
         cases bl with
         | false=>
          rw [hbad (by rw [heq];simp)]
          exact drv
         | true=>
          rw [Bool.true_and] at heq
          cases be with
          | false=>
           rw [hbad (by rw [heq];decide)]
           exact drv
          | true=>
           refine drvR ?_
           exact ⟨p+1+1,rfl,rfl,⟨by omega,hok heq⟩,by omega⟩
        ·
         rw [decide_eq_false (show ¬ w.op < a.op by omega),decide_eq_false (show ¬ w.op=a.op by omega)] at heq
         rw [hbad (by rw [heq];simp)]
         exact drv
     ·
      rw [decide_eq_false hal,Bool.false_and,Bool.false_and] at heq
      rw [hbad (by rw [heq];decide)]
      exact drv
    ·
     rw [hbad (by rw [actOk_no hop];decide)]
     repeat' (first
|(with_reducible first|apply EvK.seq|apply EvK.block)
|((with_reducible apply EvK.text);(try case hm=>exact rfl))
|((with_reducible apply EvK.drawn);(case hm=>exact rfl))
|(with_reducible first|apply EvK.skip|apply EvK.ret|apply thenK_n|apply thenK_r|apply blockK_r)
|((with_reducible apply EvK.cond_t);(case hc=>exact rfl))
|((with_reducible apply EvO.spd_t);(case hp=>exact fao))
|((with_reducible apply EvO.spd) <;> intro hq)
|((with_reducible apply EvO.spd_yt);(case hp=>exact fao))
|(with_reducible apply EvO.nilT)
|((with_reducible apply EvO.gf);(case hW=>exact rfl))
|((with_reducible apply EvO.gt0);(case hW=>exact rfl);(case hx=>exact opq))
|((with_reducible apply EvO.u0);(case hx=>exact opq))
|fail)
     all_goals first
      | exact ⟨.inr rfl,rfl⟩
      | (exfalso;omega)
   ·
    rw [allG_end k3]
    exact drv
  ·
   have hno:(decide (m.ops.length≤8) && (d && decide (m.acts.length≤256)))=false:=by
    rw [← Bool.not_eq_true]
    simpa using h8
   rw [hno]
   cases d with
   | true=>
    repeat' (first
|(with_reducible first|apply EvK.seq|apply EvK.block)
|((with_reducible apply EvK.text);(try case hm=>exact rfl))
|(with_reducible first|apply EvK.skip|apply EvK.exit|apply EvK.ret|apply thenK_n|apply thenK_e|apply thenK_r|apply blockK_h)
|((with_reducible apply EvK.cond_t);(case hc=>exact rfl))
|((with_reducible apply EvK.cond_f);(case hc=>exact rfl))
|((with_reducible apply EvO.spd_f);(case hp=>exact fao))
|((with_reducible apply EvO.spd) <;> intro hq)
|((with_reducible apply EvO.spd_y) <;> intro hq)
|(with_reducible apply EvO.nilT)
|((with_reducible apply EvO.gf);(case hW=>exact rfl))
|((with_reducible apply EvO.gt0);(case hW=>exact rfl);(case hx=>first
|(exact oqF kd)
|exact opq))
|((with_reducible apply EvO.u0);(case hx=>exact opq))
|fail)
    all_goals first
     | exact ⟨.inr rfl,rfl⟩
     | (exfalso;apply h8;exact ⟨by omega,rfl,by omega⟩)
   | false=>
    exact drv
end Go.Proofs.YtcpgmmlaimkojaaGreatDoor
namespace Go.Proofs.YtcpgmmlaimkojaaGreatDoor
open Go.RowKit
set_option maxRecDepth 100000
set_option maxHeartbeats 32000000
theorem rmvalid_c {m:Md} (hm:MdL m) (hef:∀ a∈m.acts,EfB a.eff) (hop:m.ops.length≤4398046511104):Cl cfg 57 [.t (mdA m)] [] (.t (.bool (modelB m))) []:=by
 have hlN:=nmE_len m.fams
 have hmf:=hm.fams
 have kv:=rlay_c (S:=m.sorts) (L:=m.tables) (by have:=hm.sorts;omega) (by have:=hm.tables;omega) (fun t ht=>by have:=hm.cols t ht;omega)
 have kd:=rdist_c (L:=m.fams) (by omega)
 cases hv:layB m.sorts m.tables with
 | false=>
  have e0:modelB m=false:=by unfold modelB;rw [hv];rfl
  rw [hv] at kv
  rw [mdA_eq,e0]
  refine Cl.of_body rfl Tryz.func57 rfl rfl rfl ?_
  exact drv
 | true=>
  have kc:=rcons_c hm hv
  have ka:=ract_c hm hv hef hop
  have kh:=rhidden_c hm hv
  rw [hv] at kv
  obtain ⟨d,hd⟩:∃ d,distB m.fams=d:=⟨_,rfl⟩
  obtain ⟨b1,hb1⟩:∃ b,consB m (rngs m.sorts m.tables true)=b:=⟨_,rfl⟩
  obtain ⟨b2,hb2⟩:∃ b,actsB m (rngs m.sorts m.tables true).length=b:=⟨_,rfl⟩
  obtain ⟨b3,hb3⟩:∃ b,hidesB m=b:=⟨_,rfl⟩
  have e0:modelB m=((decide (m.fams.length≤24) && d) && (b1 && (b2 && b3))):=by unfold modelB;rw [hv,hd,hb1,hb2,hb3];rfl
  rw [hd] at kd
  rw [hb1] at kc
  rw [hb2] at ka
  rw [hb3] at kh
  rw [mdA_eq] at kc ka kh ⊢
  rw [e0]
  refine Cl.of_body rfl Tryz.func57 rfl rfl rfl ?_
  by_cases hf:m.fams.length≤24
  ·
   rw [decide_eq_true hf]
   cases d with
   | false=>
    exact drv
   | true=>
    cases b1 with
    | false=>
     exact drv
    | true=>
     cases b2 with
     | false=>
      exact drv
     | true=>
      exact drv
  ·
   rw [decide_eq_false hf]
   exact drv
end Go.Proofs.YtcpgmmlaimkojaaGreatDoor
