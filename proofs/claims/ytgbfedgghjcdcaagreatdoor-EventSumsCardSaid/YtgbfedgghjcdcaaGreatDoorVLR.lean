/- The tree evaluator,21b: rules for loops over functions. No condition. -/
import Derived.Test.YtgbfedgghjcdcaaGreatDoorTC
set_option linter.unusedSimpArgs false
set_option linter.unusedVariables false
set_option linter.unusedSectionVars false
namespace Go.Proofs.YtgbfedgghjcdcaaGreatDoor
open Go.RowKit
def EvRs (g:Cfg) (f:Nat) (ps:List Nat) (asg body:Code) (wh:Bool) (yss:List (List AV)) (env:Env) (fr:Fr) (K:Out→Env→Fr→Prop):Prop:=∃ n o e r,roundsE (g.lv f (blockId body)) (evC g f (callN g n) (loopN g n) asg) (evC g f (callN g n) (loopN g n) body) ps wh yss env fr=some (o,e,r)∧K o e r
def EvR (g:Cfg) (f:Nat) (ps:List Nat) (asg body:Code) (y:List AV) (env:Env) (fr:Fr) (K:Out→Env→Fr→Prop):Prop:=∃ n o e r,roundE (g.lv f (blockId body)) (evC g f (callN g n) (loopN g n) asg) (evC g f (callN g n) (loopN g n) body) ps y env fr=some (o,e,r)∧K o e r
def roundK (lv:Option (List Nat)) (env:Env) (fr:Fr) (K:Out→Env→Fr→Prop):Out→Env→Fr→Prop:=fun o _ r'=>kindOk (List.range fr.length) r' fr=true∧match o with
 | .normal=>K .normal (head lv fr.length (killE (touched (List.range fr.length) r') env) (back (List.range fr.length) fr r')).1 (head lv fr.length (killE (touched (List.range fr.length) r') env) (back (List.range fr.length) fr r')).2
 | o=>K o (killE (touched (List.range fr.length) r') env) (back (List.range fr.length) fr r')
section
variable {g:Cfg} {f:Nat} {asg body:Code} {env:Env} {fr:Fr} {K:Out→Env→Fr→Prop}
theorem EvK.range {op:Operand} {ps:Array Tmp} {gf:Nat} {bs:List SV} {cs:List AV} {yss:List (List AV)} {wh:Bool} (h1:calleeS (rd env op)=some (gf,[],bs)) (h2:toAVs fr bs=some cs) (h3:g.seq gf cs=some (yss,wh)) {fr1:Fr} (h4:freeze fr (rchs fr bs)=fr1) (h:EvRs g f ps.toList asg body wh yss env fr1 K):EvK g f (.rangeFunc op ps asg body) env fr K:=by
 obtain ⟨n,o,e,r,h5,h6⟩:=h
 refine ⟨n,o,e,r,?_,h6⟩
 unfold evC
 simp only [h1,h2,h3,h4]
 exact h5
theorem EvRs.nil {ps:List Nat} (h:K .normal env fr):EvRs g f ps asg body true [] env fr K:=⟨0,.normal,env,fr,rfl,h⟩
theorem EvRs.cons {ps:List Nat} {wh:Bool} {y:List AV} {ys:List (List AV)} (h:EvR g f ps asg body y env fr (thenK (fun e r=>EvRs g f ps asg body wh ys e r K) K)):EvRs g f ps asg body wh (y::ys) env fr K:=by
 obtain ⟨n,o,e,r,h1,h2⟩:=h
 cases o with
 | normal=>
  obtain ⟨m,o,e',r',h3,h4⟩:=h2
  refine ⟨max n m,o,e',r',?_,h4⟩
  unfold roundsE
  rw [roundE_mono (fun e r x q=>evC_mono (callN_mono (Nat.le_max_left n m)) (loopN_mono (Nat.le_max_left n m)) _ e r x q) (fun e r x q=>evC_mono (callN_mono (Nat.le_max_left n m)) (loopN_mono (Nat.le_max_left n m)) _ e r x q) h1]
  exact roundsE_mono (fun e r x q=>evC_mono (callN_mono (Nat.le_max_right n m)) (loopN_mono (Nat.le_max_right n m)) _ e r x q) (fun e r x q=>evC_mono (callN_mono (Nat.le_max_right n m)) (loopN_mono (Nat.le_max_right n m)) _ e r x q) _ _ _ _ h3
 | exit id=>exact ⟨n,_,e,r,by unfold roundsE;rw [h1],h2⟩
 | ret=>exact ⟨n,_,e,r,by unfold roundsE;rw [h1],h2⟩
theorem EvR.mk {ps:List Nat} {y:List AV} {bs:Fr} (hl:Nat.beq y.length ps.length=true) (hb:getAll fr (List.range fr.length)=some bs)
  (h:EvK g f asg (setPs ps y fun t=>(env t).sub (idxσ (List.range fr.length))) (bs.map fun b=>unTch (b.sub (idxσ (List.range fr.length)))) fun o e r=>o=.normal∧EvK g f body e r (roundK (g.lv f (blockId body)) env fr K)):EvR g f ps asg body y env fr K:=by
 obtain ⟨n,o,e,r,h1,rfl,m,o',e',r',h3,hk,h4⟩:=h
 have a1:=evC_mono (callN_mono (Nat.le_max_left n m)) (loopN_mono (Nat.le_max_left n m)) _ _ _ _ h1
 have a2:=evC_mono (callN_mono (Nat.le_max_right n m)) (loopN_mono (Nat.le_max_right n m)) _ _ _ _ h3
 cases o' with
 | normal=>exact ⟨max n m,_,_,_,by unfold roundE;simp only [hl,hb,a1,a2,hk],h4⟩
 | exit id=>exact ⟨max n m,_,_,_,by unfold roundE;simp only [hl,hb,a1,a2,hk],h4⟩
 | ret=>exact ⟨max n m,_,_,_,by unfold roundE;simp only [hl,hb,a1,a2,hk],h4⟩
end
def Kpt (kp:List (Nat×Value)) (a:Act):Prop:=a.defers=[]∧∀ p∈kp,a.tmps.getD p.1 undef=p.2
theorem Kpt.put {kp:List (Nat×Value)} {a:Act} {d:Option Nat} {v:Value} (h:Kpt kp a) (hd:∀ p∈kp,d≠some p.1):Kpt kp (a.put d v):=
 ⟨by rw [put_defers];exact h.1,fun p hp=>by rw [put_off (hd p hp)];exact h.2 p hp⟩
theorem ops_it {rd:Option Nat} {dn:Nat} {g:Cfg} {γ:Glob} {C:CallF} (hS:CallSnd g.P γ C) {ops:Array Oper} {n:Nat} {κ:Ctx} {Q:Exit→Act→World→Prop} {env':Env} {fr':Fr} {l2:List Oper} {kp:List (Nat×Value)} (hnk:∀ p∈kp,∀ o∈ops.toList,o.dst≠some p.1) (hops:dstOk n ops.toList=true)
  (hK:∀ L a w,Kpt kp a→a.tmps.size=n→Core γ κ fr' L w→(∀ t,SR (MA κ.M fr' L) L w (env' t) (a.tmps.getD t undef))→wpListIn (Fw rd) dn g.P ops Q l2 a w) :
  ∀ (l:List Oper) (i:Nat) (env:Env) (fr:Fr) (L:Ls) (a:Act) (w:World),(∀ o∈l,o∈ops.toList)→evOps g C none ops i l env fr=some (env',fr')→Kpt kp a→a.tmps.size=n→Core γ κ fr L w→(∀ t,SR (MA κ.M fr L) L w (env t) (a.tmps.getD t undef))→wpListIn (Fw rd) dn g.P ops Q (l++l2) a w:=by
 intro l
 induction l with
 | nil=>intro i env fr L a w _ h hd hn hC hV;cases h;exact hK L a w hd hn hC hV
 | cons o r ih=>
  intro i env fr L a w hm h hd hn hC hV
  have hdo:∀ k,o.dst=some k→k < a.tmps.size:=fun k hk=>by rw [hn];exact dst_lt hops (hm o (by simp)) hk
  have hm':∀ o'∈r,o'∈ops.toList:=fun o' ho'=>hm o' (by simp [ho'])
  unfold evOps at h
  rw [List.cons_append]
  unfold wpListIn
  split at h
  ·rename_i hg
   rw [if_pos (by simp [Region.wanted,hg])]
   split at h
   ·rename_i x fr2 ks hst
    refine (step_ok hS hst κ L a w hC (fun y _=>evE_ok hV y)).wpIn fun v w' ⟨L',hT,hC',hv⟩=>?_
    exact ih _ _ _ L' _ _ hm' h (hd.put fun p hp=>hnk p hp o (hm o (by simp))) (by rw [put_size,hn]) hC' (put_rel (fun t=>hT.env (hV t)) hv hdo)
   ·cases h
  ·rename_i j want hg
   have hwt:∀ W,gOf ops env j want=some W→Region.wanted o (yielded ops a.tmps)=W:=fun W hW=>wanted_of hg hW fun d hdd=>by
    refine ⟨hV d,?_⟩
    rw [hn]
    cases hoj:ops[j]? with
    | none=>rw [hoj] at hdd;cases hdd
    | some oj=>
     rw [hoj] at hdd
     exact dst_lt hops (Array.mem_toList_iff.2 (Array.mem_of_getElem? hoj)) hdd
   split at h
   ·cases h
   ·rename_i hW
    rw [hwt _ hW,if_pos rfl]
    split at h
    ·rename_i x fr2 ks hst
     refine (step_ok hS hst κ L a w hC (fun y _=>evE_ok hV y)).wpIn fun v w' ⟨L',hT,hC',hv⟩=>?_
     exact ih _ _ _ L' _ _ hm' h (hd.put fun p hp=>hnk p hp o (hm o (by simp))) (by rw [put_size,hn]) hC' (put_rel (fun t=>hT.env (hV t)) (.yes _ _ hv) hdo)
    ·cases h
   ·rename_i hW
    rw [hwt _ hW,if_neg (by simp)]
    refine ⟨fun _ _=>trivial,ih _ _ _ L _ _ hm' h (hd.put fun p hp=>hnk p hp o (hm o (by simp))) (by rw [put_size,hn]) hC ?_⟩
    exact put_rel hV .no hdo
def TreesAt (A:Nat→Prop) (X:World) (env:Env) (tm:Array Value):Prop:=∀ t,SR (MA A [] fun _=>none) (fun _=>none) X (env t) (tm.getD t undef)
theorem it_ops {g:Cfg} {γ:Glob} (hW:Wf g γ) {ops:Array Oper} {l1 l2:List Oper} {n m:Nat} {env env':Env} (hE:EvO g none ops 0 l1 env [] fun e r=>e=env'∧r=[]) (hops:dstOk n ops.toList=true) (hsub:∀ o∈l1,o∈ops.toList) {Q:Exit→Act→World→Prop} {A:Nat→Prop} {X:World} {a:Act}
  (hC:Core γ ⟨A,fun _=>False,fun _=>False,X,fun _=>none⟩ [] (fun _=>none) X) {kp:List (Nat×Value)} (hnk:∀ p∈kp,∀ o∈ops.toList,o.dst≠some p.1) (hd:Kpt kp a) (hn:a.tmps.size=n) (hV:TreesAt A X env a.tmps)
  (hK:∀ (a':Act) (Y:World),Kpt kp a'→a'.tmps.size=n→Below X.heap.size X Y→TreesAt A Y env' a'.tmps→wpListIn (Fw none) m g.P ops Q l2 a' Y):wpListIn (Fw none) m g.P ops Q (l1++l2) a X:=by
 obtain ⟨k,e,r,h1,rfl,rfl⟩:=hE
 refine ops_it (κ:=⟨A,fun _=>False,fun _=>False,X,fun _=>none⟩) (sound hW k).1 hnk hops (fun L a' Y hd' hn' hC' hV'=>?_) l1 0 env [] _ a X hsub h1 hd hn hC hV
 have hL:L=fun _=>none:=by
  funext i
  cases h:L i with
  | none=>rfl
  | some v=>exact absurd (hC'.lim i v h) (by simp)
 subst hL
 exact hK a' Y hd' hn' ⟨hC'.os,hC'.tape,hC'.output,hC'.size,fun k hk=>hC'.kept k hk fun h=>h⟩ hV'
theorem it_region {g:Cfg} {γ:Glob} (hW:Wf g γ) {l:List Oper} {id n m:Nat} {env env':Env} (hE:EvO g none l.toArray 0 l env [] fun e r=>e=env'∧r=[]) (hops:dstOk n l=true) {Q:Exit→Act→World→Prop} {A:Nat→Prop} {X:World} {a:Act}
  (hC:Core γ ⟨A,fun _=>False,fun _=>False,X,fun _=>none⟩ [] (fun _=>none) X) {kp:List (Nat×Value)} (hnk:∀ p∈kp,∀ o∈l,o.dst≠some p.1) (hd:Kpt kp a) (hn:a.tmps.size=n) (hV:TreesAt A X env a.tmps)
  (hK:∀ (a':Act) (Y:World),Kpt kp a'→a'.tmps.size=n→Below X.heap.size X Y→TreesAt A Y env' a'.tmps→Q .normal a' Y):(Code.region id l.toArray false).wpIn (Fw none) m g.P Q a X:=by
 have:=it_ops (l2:=[]) (Q:=Q) (m:=m) hW hE (by simpa using hops) (fun o ho=>by simpa using ho) hC (by simpa using hnk) hd hn hV hK
 rw [List.append_nil] at this
 exact wpIn_region_lit this
theorem it_yield {g:Cfg} {γ:Glob} (hW:Wf g γ) {l l2:List Oper} {id n m:Nat} {env env':Env} (k:Nat) (hE:EvO g none l.toArray 0 (l.take k) env [] fun e r=>e=env'∧r=[]) (hl:l.drop k=l2) (hops:dstOk n l=true) {Q:Exit→Act→World→Prop} {A:Nat→Prop} {X:World} {a:Act}
  (hC:Core γ ⟨A,fun _=>False,fun _=>False,X,fun _=>none⟩ [] (fun _=>none) X) {kp:List (Nat×Value)} (hnk:∀ p∈kp,∀ o∈l,o.dst≠some p.1) (hd:Kpt kp a) (hn:a.tmps.size=n) (hV:TreesAt A X env a.tmps)
  (hK:∀ (a':Act) (Y:World),Kpt kp a'→a'.tmps.size=n→Below X.heap.size X Y→TreesAt A Y env' a'.tmps→wpListIn (Fw none) m g.P l.toArray Q l2 a' Y):(Code.region id l.toArray false).wpIn (Fw none) m g.P Q a X:=by
 subst hl
 have:=it_ops (l2:=l.drop k) (Q:=Q) (m:=m) hW hE (by simpa using hops) (fun o ho=>by simpa using List.mem_of_mem_take ho) hC (by simpa using hnk) hd hn hV hK
 rw [List.take_append_drop] at this
 exact wpIn_region_lit this
def bare (P:Program):Cfg:={ P:=P,ok:=fun _=>false,ext:=fun _ _=>none,lv:=fun _ _=>none,own:=fun _ _=>[],eff:=fun _ _=>[],hand:=fun _ _=>false }
theorem bare_wf {P:Program} {γ:Glob} (h:P.follows .mixedOrders=true):Wf (bare P) γ where
 mixed:=h
 fns:=fun f h=>by cases h
 ext:=fun f xs r fr' h=>by cases h
end Go.Proofs.YtgbfedgghjcdcaaGreatDoor
