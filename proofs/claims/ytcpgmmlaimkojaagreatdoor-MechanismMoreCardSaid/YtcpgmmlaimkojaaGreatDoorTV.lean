/- The tree evaluator,21b: rules for loops over functions. No condition. -/
import Derived.Test.YtcpgmmlaimkojaaGreatDoorTC
import Derived.Maps.RangeRun
set_option linter.unusedSimpArgs false
set_option linter.unusedVariables false
set_option linter.unusedSectionVars false
namespace Go.Proofs.YtcpgmmlaimkojaaGreatDoor
open Go.RowKit
def EvRs (g:Cfg) (f:Nat) (ps:List Nat) (asg body:Code) (wh:Bool) (yss:List (List AV)) (env:Env) (fr:Fr) (K:Out→Env→Fr→Prop):Prop:=∃ n o e r,roundsE (g.lv f (blockId body)) (evC g f (callN g n) (loopN g n) asg) (evC g f (callN g n) (loopN g n) body) ps wh yss env fr=some (o,e,r)∧K o e r
def EvR (g:Cfg) (f:Nat) (ps:List Nat) (asg body:Code) (y:List AV) (env:Env) (fr:Fr) (K:Out→Env→Fr→Prop):Prop:=∃ n o e r,roundE (g.lv f (blockId body)) (evC g f (callN g n) (loopN g n) asg) (evC g f (callN g n) (loopN g n) body) ps y env fr=some (o,e,r)∧K o e r
def roundK (lv:Option (List Nat)) (env:Env) (fr:Fr) (K:Out→Env→Fr→Prop):Out→Env→Fr→Prop:=fun o _ r'=>kindOk (List.range fr.length) r' fr=true∧match o with
 | .normal=>K .normal (head lv fr.length (killE (touched (List.range fr.length) r') env) (back (List.range fr.length) fr r')).1 (head lv fr.length (killE (touched (List.range fr.length) r') env) (back (List.range fr.length) fr r')).2
 | o=>K o (killE (touched (List.range fr.length) r') env) (back (List.range fr.length) fr r')
section
variable {g:Cfg} {f:Nat} {asg body:Code} {env:Env} {fr:Fr} {K:Out→Env→Fr→Prop}
theorem EvK.range {op:Operand} {ps:Array Tmp} {gf:Nat} {bs:List SV} {cs:List AV} {yss:List (List AV)} {wh:Bool} (h1:calleeS (rd env op)=some (gf,[],bs)) (h2:toAVs fr bs=some cs) (h3:g.seq gf cs=some (yss,wh)) {fr1:Fr} (h4:freeze fr (rchs fr bs)=fr1) (h:EvRs g f ps.toList asg body wh yss env fr1 K):EvK g f (.rangeFunc op ps asg body) env fr K:=by
 obtain ⟨n,o,e,r,h5,h6⟩:=h
 refine ⟨n,o,e,r,?_,h6⟩
 unfold evC
 simp only [h1,h2,h3,h4]
 exact h5
theorem EvRs.nil {ps:List Nat} (h:K .normal env fr):EvRs g f ps asg body true [] env fr K:=⟨0,.normal,env,fr,rfl,h⟩
theorem EvRs.cons {ps:List Nat} {wh:Bool} {y:List AV} {ys:List (List AV)} (h:EvR g f ps asg body y env fr (thenK (fun e r=>EvRs g f ps asg body wh ys e r K) K)):EvRs g f ps asg body wh (y::ys) env fr K:=by
 obtain ⟨n,o,e,r,h1,h2⟩:=h
 cases o with
 | normal=>
  obtain ⟨m,o,e',r',h3,h4⟩:=h2
  refine ⟨max n m,o,e',r',?_,h4⟩
  unfold roundsE
  rw [roundE_mono (fun e r x q=>evC_mono (callN_mono (Nat.le_max_left n m)) (loopN_mono (Nat.le_max_left n m)) _ e r x q) (fun e r x q=>evC_mono (callN_mono (Nat.le_max_left n m)) (loopN_mono (Nat.le_max_left n m)) _ e r x q) h1]
  exact roundsE_mono (fun e r x q=>evC_mono (callN_mono (Nat.le_max_right n m)) (loopN_mono (Nat.le_max_right n m)) _ e r x q) (fun e r x q=>evC_mono (callN_mono (Nat.le_max_right n m)) (loopN_mono (Nat.le_max_right n m)) _ e r x q) _ _ _ _ h3
 | exit id=>exact ⟨n,_,e,r,by unfold roundsE;rw [h1],h2⟩
 | ret=>exact ⟨n,_,e,r,by unfold roundsE;rw [h1],h2⟩
theorem EvR.mk {ps:List Nat} {y:List AV} {bs:Fr} (hl:Nat.beq y.length ps.length=true) (hb:getAll fr (List.range fr.length)=some bs)
  (h:EvK g f asg (setPs ps y fun t=>(env t).sub (idxσ (List.range fr.length))) (bs.map fun b=>unTch (b.sub (idxσ (List.range fr.length)))) fun o e r=>o=.normal∧EvK g f body e r (roundK (g.lv f (blockId body)) env fr K)):EvR g f ps asg body y env fr K:=by
 obtain ⟨n,o,e,r,h1,rfl,m,o',e',r',h3,hk,h4⟩:=h
 have a1:=evC_mono (callN_mono (Nat.le_max_left n m)) (loopN_mono (Nat.le_max_left n m)) _ _ _ _ h1
 have a2:=evC_mono (callN_mono (Nat.le_max_right n m)) (loopN_mono (Nat.le_max_right n m)) _ _ _ _ h3
 cases o' with
 | normal=>exact ⟨max n m,_,_,_,by unfold roundE;simp only [hl,hb,a1,a2,hk],h4⟩
 | exit id=>exact ⟨max n m,_,_,_,by unfold roundE;simp only [hl,hb,a1,a2,hk],h4⟩
 | ret=>exact ⟨max n m,_,_,_,by unfold roundE;simp only [hl,hb,a1,a2,hk],h4⟩
end
def Kpt (kp:List (Nat×Value)) (a:Act):Prop:=a.defers=[]∧∀ p∈kp,a.tmps.getD p.1 undef=p.2
theorem Kpt.put {kp:List (Nat×Value)} {a:Act} {d:Option Nat} {v:Value} (h:Kpt kp a) (hd:∀ p∈kp,d≠some p.1):Kpt kp (a.put d v):=
 ⟨by rw [put_defers];exact h.1,fun p hp=>by rw [put_off (hd p hp)];exact h.2 p hp⟩
def bare (P:Program):Cfg:={ P:=P,ok:=fun _=>false,ext:=fun _ _=>none,lv:=fun _ _=>none,own:=fun _ _=>[],eff:=fun _ _=>[],hand:=fun _ _=>false }
end Go.Proofs.YtcpgmmlaimkojaaGreatDoor
namespace Go.Proofs.YtcpgmmlaimkojaaGreatDoor
open Go.RowKit
abbrev Cfg.low (g:Cfg) (x:Nat→List AV→Option (SV×Fr)):Cfg:={ g with ext:=x,seq:=fun _ _=>none }
section
variable {g:Cfg} {x:Nat→List AV→Option (SV×Fr)} {C:CallF} {Lp:LoopF}
end
section
variable {g:Cfg} {γ:Glob}
theorem EvK.walk (hW:Wf g γ) {f n dn:Nat} {c:Code} {env:Env} {fr:Fr} {K:Out→Env→Fr→Prop} {κ:Ctx} {a:Act} {w:World} (h:EvK g f c env fr K) (hwf:(wfC g f n c && noRF c)=true) (hA:At γ κ n env fr a w):c.wpIn (Fw none) dn g.P (fun e a' w'=>∃ o env' fr',e=o.toExit∧K o env' fr'∧At γ κ n env' fr' a' w') a w:=by
 obtain ⟨m,o,e,r,h1,h2⟩:=h
 rw [Bool.and_eq_true] at hwf
 exact wpIn_mono (evC_ok hW.mixed (sound hW m).1 (sound hW m).2 hW.seq c _ _ _ _ _ h1 hwf.1 κ none dn a w (.inr hwf.2) hA) fun ex a' w' ⟨h3,h4⟩=>⟨o,e,r,h3,h2,h4⟩
end
end Go.Proofs.YtcpgmmlaimkojaaGreatDoor
namespace Go.Proofs.YtcpgmmlaimkojaaGreatDoor
open Go.RowKit
section
variable {P:Program} {rd:Option Nat} {dn:Nat} {ops:Array Oper} {Q:Exit→Act→World→Prop} {a:Act} {w w':World}
theorem wpl_cons {o:Oper} {l:List Oper} (hg:o.guard=none) (h:o.wpIn (Fw rd) dn P a w (fun a' w'=>wpListIn (Fw rd) dn P ops Q l a' w') Q):wpListIn (Fw rd) dn P ops Q (o::l) a w:=by
 unfold wpListIn
 rw [if_pos (by simp [Region.wanted,hg])]
 exact h
theorem wpl_val {o:Oper} {l:List Oper} {v:Value} (hg:o.guard=none) (h:(execOp a.eval o).run P w=.ok (.value v) w') (hK:wpListIn (Fw rd) dn P ops Q l (a.put o.dst v) w'):wpListIn (Fw rd) dn P ops Q (o::l) a w:=
 wpl_cons hg (OpTo.wpIn (R:=fun x y=>x=v∧y=w') (by unfold OpTo;rw [h];exact ⟨rfl,rfl⟩) fun x y ⟨h1,h2⟩=>by subst h1 h2;exact hK)
end
def Kp (kp:List (Nat×Value)) (a:Act):Prop:=∀ p∈kp,a.tmps.getD p.1 undef=p.2
theorem Kp.put {kp:List (Nat×Value)} {a:Act} {d:Option Nat} {v:Value} (h:Kp kp a) (hd:∀ p∈kp,d≠some p.1):Kp kp (a.put d v):=fun p hp=>by rw [put_off (hd p hp)];exact h p hp
section
variable {g:Cfg} {γ:Glob}
theorem ops_at (hW:Wf g γ) {ops:Array Oper} {n dn:Nat} {κ:Ctx} {Q:Exit→Act→World→Prop} {ds:List Deferred} {kp:List (Nat×Value)} {l1 l2:List Oper} {i:Nat} {env:Env} {fr:Fr} {K:Env→Fr→Prop} {L:Ls} {a:Act} {w:World} (hE:EvO g none ops i l1 env fr K) (hnk:∀ p∈kp,∀ o∈l1,o.dst≠some p.1) (hops:dstOk n ops.toList=true) (hm:∀ o∈l1,o∈ops.toList)
  (hk:Kp kp a) (hd:a.defers=ds) (hn:a.tmps.size=n) (hC:Core γ κ fr L w) (hV:∀ t,SR (MA κ.M fr L) L w (env t) (a.tmps.getD t undef))
  (hK:∀ env' fr' L' a' w',K env' fr'→Kp kp a'→a'.defers=ds→a'.tmps.size=n→Core γ κ fr' L' w'→(∀ t,SR (MA κ.M fr' L') L' w' (env' t) (a'.tmps.getD t undef))→wpListIn (Fw none) dn g.P ops Q l2 a' w'):wpListIn (Fw none) dn g.P ops Q (l1++l2) a w:=by
 obtain ⟨k,e,r,h,hKe⟩:=hE
 have hS:=(sound hW k).1
 induction l1 generalizing i env fr L a w with
 | nil=>cases h;exact hK _ _ L a w hKe hk hd hn hC hV
 | cons o l ih=>
  have hdo:∀ k,o.dst=some k→k < a.tmps.size:=fun k hk=>by rw [hn];exact dst_lt hops (hm o (by simp)) hk
  have hno:∀ p∈kp,o.dst≠some p.1:=fun p hp=>hnk p hp o (by simp)
  unfold evOps at h
  rw [List.cons_append]
  unfold wpListIn
  split at h
  ·rename_i hg
   rw [if_pos (by simp [Region.wanted,hg])]
   split at h
   ·rename_i x fr2 ks hst
    refine (step_ok hS hst κ L a w hC (fun y _=>evE_ok hV y)).wpIn fun v w' ⟨L',hT,hC',hv⟩=>?_
    exact ih (fun p hp o' ho'=>hnk p hp o' (by simp [ho'])) (fun o' ho'=>hm o' (by simp [ho'])) (hk.put hno) (by rw [put_defers,hd]) (by rw [put_size,hn]) hC' (put_rel (fun t=>hT.env (hV t)) hv hdo) h
   ·cases h
  ·rename_i j want hg
   have hwt:∀ W,gOf ops env j want=some W→Region.wanted o (yielded ops a.tmps)=W:=fun W hW=>wanted_of hg hW fun d hdd=>by
    refine ⟨hV d,?_⟩
    rw [hn]
    cases hoj:ops[j]? with
    | none=>rw [hoj] at hdd;cases hdd
    | some oj=>
     rw [hoj] at hdd
     exact dst_lt hops (Array.mem_toList_iff.2 (Array.mem_of_getElem? hoj)) hdd
   split at h
   ·cases h
   ·rename_i hW
    rw [hwt _ hW,if_pos rfl]
    split at h
    ·rename_i x fr2 ks hst
     refine (step_ok hS hst κ L a w hC (fun y _=>evE_ok hV y)).wpIn fun v w' ⟨L',hT,hC',hv⟩=>?_
     exact ih (fun p hp o' ho'=>hnk p hp o' (by simp [ho'])) (fun o' ho'=>hm o' (by simp [ho'])) (hk.put hno) (by rw [put_defers,hd]) (by rw [put_size,hn]) hC' (put_rel (fun t=>hT.env (hV t)) (.yes _ _ hv) hdo) h
    ·cases h
   ·rename_i hW
    rw [hwt _ hW,if_neg (by simp)]
    refine ⟨fun _ _=>trivial,ih (fun p hp o' ho'=>hnk p hp o' (by simp [ho'])) (fun o' ho'=>hm o' (by simp [ho'])) (hk.put hno) (by rw [put_defers,hd]) (by rw [put_size,hn]) hC ?_ h⟩
    exact put_rel hV .no hdo
theorem ops_end (hW:Wf g γ) {ops:Array Oper} {n dn:Nat} {κ:Ctx} {Q:Exit→Act→World→Prop} {ds:List Deferred} {kp:List (Nat×Value)} {l:List Oper} {i:Nat} {env:Env} {fr:Fr} {K:Env→Fr→Prop} {L:Ls} {a:Act} {w:World} (hE:EvO g none ops i l env fr K) (hnk:∀ p∈kp,∀ o∈l,o.dst≠some p.1) (hops:dstOk n ops.toList=true) (hm:∀ o∈l,o∈ops.toList)
  (hk:Kp kp a) (hd:a.defers=ds) (hn:a.tmps.size=n) (hC:Core γ κ fr L w) (hV:∀ t,SR (MA κ.M fr L) L w (env t) (a.tmps.getD t undef))
  (hK:∀ env' fr' L' a' w',K env' fr'→Kp kp a'→a'.defers=ds→a'.tmps.size=n→Core γ κ fr' L' w'→(∀ t,SR (MA κ.M fr' L') L' w' (env' t) (a'.tmps.getD t undef))→Q .normal a' w'):wpListIn (Fw none) dn g.P ops Q l a w:=by
 have:=ops_at (l2:=[]) (dn:=dn) (Q:=Q) hW hE hnk hops hm hk hd hn hC hV fun e r L' a' w' h1 h2 h3 h4 h5 h6=>hK e r L' a' w' h1 h2 h3 h4 h5 h6
 rwa [List.append_nil] at this
def HW (γ:Glob) (κ:Ctx) (n:Nat) (P:Program) (c:Code) (env:Env) (fr:Fr) (Q:Exit→Act→World→Prop):Prop:=∀ (dn:Nat) a w,At γ κ n env fr a w→c.wpIn (Fw none) dn P Q a w
def endK (γ:Glob) (κ:Ctx) (n:Nat) (N:Env→Fr→Prop) (Q:Exit→Act→World→Prop):Out→Env→Fr→Prop
 | .normal,e,r=>N e r
 | o,e,r=>∀ a w,At γ κ n e r a w→Q o.toExit a w
theorem HW.ev (hW:Wf g γ) {f n:Nat} {c d:Code} {env:Env} {fr:Fr} {κ:Ctx} {Q:Exit→Act→World→Prop} (h:EvK g f c env fr (endK γ κ n (fun e r=>HW γ κ n g.P d e r Q) Q)) (hwf:(wfC g f n c && noRF c)=true):HW γ κ n g.P (.seq c d) env fr Q:=fun dn a w hA=>by
 refine wpIn_seq (wpIn_mono (h.walk hW hwf hA) fun e a' w' ⟨o,e',r',he,hk,hA'⟩=>?_)
 subst he
 cases o with
 | normal=>exact hk dn a' w' hA'
 | exit id=>exact hk a' w' hA'
 | ret=>exact hk a' w' hA'
theorem HW.evT (hW:Wf g γ) {f n:Nat} {c d:Code} {env:Env} {fr:Fr} {κ:Ctx} {Q:Exit→Act→World→Prop} (T:Env→Fr→Prop) (h:EvK g f c env fr fun o e r=>o=.normal∧T e r) (hwf:(wfC g f n c && noRF c)=true) (hd:∀ e r,T e r→HW γ κ n g.P d e r Q):HW γ κ n g.P (.seq c d) env fr Q:=fun dn a w hA=>by
 refine wpIn_seq (wpIn_mono (h.walk hW hwf hA) fun e a' w' ⟨o,e',r',he,⟨ho,hT⟩,hA'⟩=>?_)
 subst he ho
 exact hd _ _ hT dn a' w' hA'
theorem HW.one (hW:Wf g γ) {f n:Nat} {c:Code} {env:Env} {fr:Fr} {κ:Ctx} {Q:Exit→Act→World→Prop} (h:EvK g f c env fr (endK γ κ n (fun e r=>∀ a w,At γ κ n e r a w→Q .normal a w) Q)) (hwf:(wfC g f n c && noRF c)=true):HW γ κ n g.P c env fr Q:=fun dn a w hA=>by
 refine wpIn_mono (h.walk hW hwf hA) fun e a' w' ⟨o,e',r',he,hk,hA'⟩=>?_
 subst he
 cases o with
 | normal=>exact hk a' w' hA'
 | exit id=>exact hk a' w' hA'
 | ret=>exact hk a' w' hA'
theorem HW.block {n id:Nat} {c:Code} {env:Env} {fr:Fr} {κ:Ctx} {P:Program} {Q:Exit→Act→World→Prop} (h:HW γ κ n P c env fr (Exit.inBlock id Q)):HW γ κ n P (.block id c) env fr Q:=fun dn a w hA=>wpIn_block (h dn a w hA)
theorem HW.seq {n:Nat} {c d:Code} {env:Env} {fr:Fr} {κ:Ctx} {P:Program} {Q:Exit→Act→World→Prop} (h:HW γ κ n P c env fr (Exit.then (fun a w=>∃ e r,At γ κ n e r a w∧HW γ κ n P d e r Q) Q)):HW γ κ n P (.seq c d) env fr Q:=fun dn a w hA=>by
 refine wpIn_seq (wpIn_mono (h dn a w hA) fun e a' w' hq=>?_)
 cases e with
 | normal=>obtain ⟨e,r,h1,h2⟩:=hq;exact h2 dn a' w' h1
 | _=>exact hq
theorem At.slots {n:Nat} {env:Env} {fr:Fr} {κ:Ctx} {a:Act} {w:World} (hA:At γ κ n env fr a w) (vs:List (Nat×SV)) (hs:∀ p∈vs,env p.1=p.2):At γ κ n (mkEnv vs) fr a w:=by
 obtain ⟨h1,h2,L,hC,hV⟩:=hA
 exact ⟨h1,h2,L,hC,mkEnv_ok (tm:=fun t=>a.tmps.getD t undef) vs fun p hp=>by rw [← hs p hp];exact hV p.1⟩
theorem HW.slots {n:Nat} {c:Code} {env:Env} {fr:Fr} {κ:Ctx} {P:Program} {Q:Exit→Act→World→Prop} (vs:List (Nat×SV)) (hs:∀ p∈vs,env p.1=p.2) (h:HW γ κ n P c (mkEnv vs) fr Q):HW γ κ n P c env fr Q:=fun dn a w hA=>h dn a w (hA.slots vs hs)
theorem HW.loop {n:Nat} {c:Code} {env:Env} {fr:Fr} {κ:Ctx} {P:Program} {Q:Exit→Act→World→Prop} (I:Nat→Env→Fr→Prop) (k0:Nat) (h0:I k0 env fr) (round:∀ k env fr,I k env fr→HW γ κ n P c env fr (Exit.then (fun a w=>∃ k' e r,k' < k∧I k' e r∧At γ κ n e r a w) Q)):HW γ κ n P (.loop c) env fr Q:=fun dn a w hA=>by
 refine wpIn_loop_ghost (fun k a w=>∃ e r,I k e r∧At γ κ n e r a w) k0 ⟨env,fr,h0,hA⟩ fun k a w ⟨e,r,hI,hA⟩=>?_
 refine wpIn_mono (round k e r hI dn a w hA) fun ex a' w' hq=>?_
 cases ex with
 | normal=>
  obtain ⟨k',e',r',h1,h2,h3⟩:=hq
  exact ⟨k',h1,e',r',h2,h3⟩
 | _=>exact hq
theorem hand_bool {P : Program} {f : Nat} {fn : Func} {c : Code} {xs : List AV} {b : Bool} (hfn : P.funcs[f]? = some fn) (hb : fn.body = some c) (hnm : (fn.name == "runtime.NumGoroutine") = false) (hal : xs.length ≤ fn.ntmps) (hrs : fn.results.size ≤ 4)
  (walk:∀ (M:Nat→Prop) (W:World),(∀ b,W.heap.size≤b→M b)→HW γ ⟨M,fun _=>False,fun _=>False,W,fun _=>none⟩ fn.ntmps P c (ofArgs (xs.map .t)) [] (fun e a' w'=>∃ env' q r0,(e=.normal∨e=.ret)∧At γ ⟨M,fun _=>False,fun _=>False,W,fun _=>none⟩ fn.ntmps env' q a' w'∧outOf P env' q (resTmps fn.results.toList)=some r0∧fin 0 r0 q=some (.t (.bool b),[]))) :
  Known P f∧∀ (κ:Ctx) (w:World) (us:Array Value),Core γ κ [] κ.L w→κ.W=w→us.size=xs.length→(∀ (j:Nat) (x:AV) (u:Value),xs[j]?=some x→us[j]?=some u→VR (MA κ.M [] κ.L) w x u)→
  Calls P f us w fun e w'=>∃ v L',e=.returned v∧Core γ κ [] L' w'∧SR (MA κ.M [] L') L' w' (.t (.bool b)) v:=by
 refine ⟨⟨fn,hfn,hnm,by rw [hb];rfl⟩,fun κ w us hC hw hus hr=>callsIn_wide.1 (callsIn_of_wp_marks (F:=Fence.wide) (n:=0) hfn hb trivial ?_)⟩
 have hC0:Core γ ⟨MA κ.M [] κ.L,fun _=>False,fun _=>False,w,fun _=>none⟩ [] (fun _=>none) w:=hC.pure _ fun b hb=>⟨hC.fresh b (by rw [hw];exact hb),fun ⟨i,v,lb,_,_,h3,_⟩=>by cases h3⟩
 have hM0:∀ b,MA κ.M [] κ.L b→MA (MA κ.M [] κ.L) [] (fun _=>none) b:=fun b hb=>⟨hb,fun ⟨i,_,_,h,_⟩=>by cases h⟩
 have hA:At γ ⟨MA κ.M [] κ.L,fun _=>False,fun _=>False,w,fun _=>none⟩ fn.ntmps (ofArgs (xs.map .t)) [] { tmps:=us++Array.replicate (fn.ntmps - us.size) undef,defers:=[] } w:=by
  refine ⟨Marks.nil,by simp [hus];omega,_,hC0,fun t=>?_⟩
  show SR _ _ w (ofArgs (xs.map .t) t) _
  unfold ofArgs
  rw [List.getElem?_map]
  cases hx:xs[t]? with
  | none=>exact .dead _
  | some x=>
   have ht:t < us.size:=by rw [hus];exact lt_of_get hx
   have h1:=hr t x us[t] hx (Array.getElem?_eq_getElem ht)
   show SR _ _ w (.t x) ((us++_).getD t undef)
   rw [Array.getD_eq_getD_getElem?,Array.getElem?_append_left ht,Array.getElem?_eq_getElem ht]
   exact .t _ _ (VR.on (Nat.le_refl _) (fun b _ hb=>⟨hM0 b hb,rfl⟩) h1)
 refine wpIn_mono (walk _ w hC0.fresh 0 _ w hA) fun ex a w' ⟨e,q,r0,ho,⟨⟨⟨Ds,n1,n2,n3⟩,_⟩,h3,L,h4,h5⟩,hr0,hf2⟩=>?_
 have key:LeavesInM Fence.wide 0 P fn a.tmps (fun e w'=>∃ v L',e=.returned v∧Core γ κ [] L' w'∧SR (MA κ.M [] L') L' w' (.t (.bool b)) v) a.defers .returning w':=by
  rw [n2]
  refine leaves_marks Ds w' n1 n3 fun w'' hq=>?_
  obtain ⟨v,hv,hsr⟩:=results_run (h4.lq hq) (fun t=>(h5 t).lq hq) hr0 hrs
  obtain ⟨L',f1,f2⟩:=fin_ok (h4.lq hq) (fun j u hj=>by cases hj) hf2 hsr
  refine ⟨v,hv,v,κ.L,rfl,hC.later ⟨f1.os,f1.tape,f1.output,f1.size,fun k hk=>f1.kept k hk fun h=>h⟩,?_⟩
  cases f2 with
  | t _ _ h=>cases h;exact .t _ _ (.bool b)
 rcases ho with rfl|rfl <;> exact key
end
section
variable {P:Program} {γ:Glob} {κ:Ctx} {fr:Fr} {L:Ls} {w:World}
theorem Core.map_of (hC:Core γ κ fr L w) {i r:Nat} {mks:List AV} {mvs:List SV} {ents:Array MapEntry} {clock:Nat} (hi:fr[i]?=some (.map false mks mvs)) (h1:L i=some (.map (some r))) (h2:w.heap[r]?=some (.map ents clock)) :
  ents.size=mks.length∧ents.size=mvs.length∧(∀ (j:Nat) (x:AV) (u:MapEntry),mks[j]?=some x→ents[j]?=some u→VR (MA κ.M fr L) w x u.key)∧(∀ (j:Nat) (x:SV) (u:MapEntry),mvs[j]?=some x→ents[j]?=some u→SR (MA κ.M fr L) L w x u.val)∧Stamps ents clock:=by
 obtain ⟨r',ents',clock',e1,e2,h3,h4,h5,h6,hst⟩:=hC.blk i _ hi
 rw [h1] at e1
 cases e1
 rw [h2] at e2
 cases e2
 exact ⟨h3,h4,h5,h6,hst⟩
theorem Core.erase (hC:Core γ κ fr L w) {i j r:Nat} {mks:List AV} {mvs:List SV} {ents:Array MapEntry} {clock:Nat} (hi:fr[i]?=some (.map false mks mvs)) (h1:L i=some (.map (some r))) (h2:w.heap[r]?=some (.map ents clock)) :
  Core γ κ (fr.set i (.map false (mks.eraseIdx j) (mvs.eraseIdx j))) L (setO w r (.map (ents.eraseIdxIfInBounds j) clock))∧Tr κ.M fr L w (fr.set i (.map false (mks.eraseIdx j) (mvs.eraseIdx j))) L (setO w r (.map (ents.eraseIdxIfInBounds j) clock)) []:=by
 obtain ⟨h3,h4,h5,h6,hst⟩:=hC.map_of hi h1 h2
 have hrlt:=(Array.getElem?_eq_some_iff.1 h2).1
 have:=hC.chg (w':=setO w r (.map (ents.eraseIdxIfInBounds j) clock)) (ks:=[]) (v':=.map (some r)) (lb':=.map false (mks.eraseIdx j) (mvs.eraseIdx j)) hi rfl h1 (setO_grown w r _) (.inl rfl) (fun b hb=>by cases hb;simp [setO];exact hrlt) (.inl rfl) (fun _=>rfl) fun hT=>⟨r,_,clock,Lput_self,setO_at hrlt,by rw [← Array.length_toList,toList_erase,List.length_eraseIdx,List.length_eraseIdx];simp [h3],by rw [← Array.length_toList,toList_erase,List.length_eraseIdx,List.length_eraseIdx];simp [h4],fun q x u hx hu=>by
  have hx:=erase_pick hx
  have hu:=erase_get hu
  by_cases hq:q < j
  ·rw [if_pos hq] at hx hu;exact hT.vr (h5 _ x u hx hu)
  ·rw [if_neg hq] at hx hu;exact hT.vr (h5 _ x u hx hu),fun q x u hx hu=>by
  rw [Lput_same h1] at hT ⊢
  have hx:=erase_pick hx
  have hu:=erase_get hu
  by_cases hq:q < j
  ·rw [if_pos hq] at hx hu;exact hT.sr (h6 _ x u hx hu)
  ·rw [if_neg hq] at hx hu;exact hT.sr (h6 _ x u hx hu),hst.erase j⟩
 rw [Lput_same h1] at this
 exact this
theorem run_erase (hC:Core γ κ fr L w) {i j r t u e ty:Nat} {d:TypeDesc} {k:Value} {ka:AV} {mks:List AV} {mvs:List SV} {ents:Array MapEntry} {clock:Nat} (ht:mapT P t=some (e,d)) (hi:fr[i]?=some (.map false mks mvs)) (h1:L i=some (.map (some r))) (h2:w.heap[r]?=some (.map ents clock)) (hka:VR (MA κ.M fr L) w ka k) (hf:findA d ka mks 0=some (some j)) :
  (Builtin.delete_ #[t,u] ty #[.map (some r),k]).run P w=.ok (.tuple #[]) (setO w r (.map (ents.eraseIdxIfInBounds j) clock)):=by
 obtain ⟨kt,hut,huk,hl⟩:=mapT_spec ht
 obtain ⟨h3,h4,h5,h6,hst⟩:=hC.map_of hi h1 h2
 have hg:(getObj r).run P w=.ok (.map ents clock) w:=by simp [getObj,Sem.run,h2]
 have hset:∀ (es:Array MapEntry) (c:Nat),(setObj r (.map es c)).run P w=.ok () (setO w r (.map es c)):=fun es c=>by simp [setObj,Sem.run,h2,setO]
 rcases findA_ok hka mks ents.toList 0 _ (by simpa using h3.symm) (fun j x e hx he=>h5 j x e hx (by simpa using he)) hf with ⟨h7,_⟩|⟨j',e',h7,h8,h9,x0,h10,h11⟩
 ·cases h7
 ·rw [Nat.zero_add] at h7 h9
  cases h7
  unfold Builtin.delete_
  simp only [List.getElem?_toArray,List.getElem?_cons_zero,List.getElem?_cons_succ,Sem.run_bind,run_underlying hut,Result.andThen_ok,hg,run_checkKey huk hl,run_findKey huk h9,hset,Sem.run_pure]
end
theorem left_none {ents:Array MapEntry} {seen:Array Nat} (h:(leftOf ents seen).size=0) {e:MapEntry} (he:e∈ents.toList):seen.contains e.born=true:=all_seen ents seen h e he
end Go.Proofs.YtcpgmmlaimkojaaGreatDoor
