/- The tree evaluator,21b: rules for loops over functions. No condition. -/
import Derived.Test.YtjolgbkkocjpgaaGreatDoorTC
import Derived.Maps.RangeRun
set_option linter.defProp false
set_option linter.unusedSimpArgs false
set_option linter.unusedVariables false
set_option linter.unusedSectionVars false
namespace Go.Proofs.YtjolgbkkocjpgaaGreatDoor
open Go.RowKit
def o8(g:Cfg)(f:Nat)(u:List Nat)(asg body:Code)(wh:Bool)(yss:List (List AV))(env:Env)(fr:Fr)(K:Out->Env->Fr->Prop):Prop:=∃n o e r,jN (g.lv f (c6 body)) (bu g f (cQ g n) (dy g n) asg) (bu g f (cQ g n) (dy g n) body) u wh yss env fr=some (o,e,r)/\K o e r
def o9(g:Cfg)(f:Nat)(u:List Nat)(asg body:Code)(y:List AV)(env:Env)(fr:Fr)(K:Out->Env->Fr->Prop):Prop:=∃n o e r,kD (g.lv f (c6 body)) (bu g f (cQ g n) (dy g n) asg) (bu g f (cQ g n) (dy g n) body) u y env fr=some (o,e,r)/\K o e r
def Cp(lv:Option (List Nat))(env:Env)(fr:Fr)(K:Out->Env->Fr->Prop):Out->Env->Fr->Prop:=fun o _ u=>kindOk (List.range fr.length) u fr=true/\match o with
 | .normal=>K .normal (head lv fr.length (fZ (c_ (List.range fr.length) u) env) (back (List.range fr.length) fr u)).1 (head lv fr.length (fZ (c_ (List.range fr.length) u) env) (back (List.range fr.length) fr u)).2
 |o=>K o (fZ (c_ (List.range fr.length) u) env) (back (List.range fr.length) fr u)
section
variable {g:Cfg} {f:Nat} {asg body:Code} {env:Env} {fr:Fr} {K:Out->Env->Fr->Prop}
def ac.range{op:Operand}{v:Array Tmp}{u:Nat}{bs:List SV}{cs:List AV}{yss:List (List AV)}{wh:Bool}(h1:dR (rd env op)=some (u,[],bs))(h2:cz fr bs=some cs)(h3:g.seq u cs=some (yss,wh)){fr1:Fr}(h4:freeze fr (bo fr bs)=fr1)(h:o8 g f v.toList asg body wh yss env fr1 K):ac g f (.rangeFunc op v asg body) env fr K:=by
 obtain⟨n,o,e,r,y,z⟩:=h;refine⟨n,o,e,r,?_,z⟩;unfold bu;simp only[h1,h2,h3,h4];exact y
def o8.nil{u:List Nat}(h:K .normal env fr):o8 g f u asg body true [] env fr K:=⟨0,.normal,env,fr,rfl,h⟩
def o8.cons{u:List Nat}{wh:Bool}{y:List AV}{ys:List (List AV)}(h:o9 g f u asg body y env fr (kK (fun e r=>o8 g f u asg body wh ys e r K) K)):o8 g f u asg body wh (y::ys) env fr K:=by
 obtain⟨n,o,e,r,h1,h2⟩:=h
 cases o with
 |normal=>
  obtain⟨m,o,v,z,h3,h4⟩:=h2;refine⟨max n m,o,v,z,?_,h4⟩;unfold jN;rw[xX (fun e r x q=>jh (fA (Nat.le_max_left n m)) (lU (Nat.le_max_left n m)) _ e r x q) (fun e r x q=>jh (fA (Nat.le_max_left n m)) (lU (Nat.le_max_left n m)) _ e r x q) h1];exact xY (fun e r x q=>jh (fA (Nat.le_max_right n m)) (lU (Nat.le_max_right n m)) _ e r x q) (fun e r x q=>jh (fA (Nat.le_max_right n m)) (lU (Nat.le_max_right n m)) _ e r x q) _ _ _ _ h3
 |exit D=>exact⟨n,_,e,r,by unfold jN;rw[h1],h2⟩
 |ret=>exact⟨n,_,e,r,by unfold jN;rw[h1],h2⟩
def o9.mk{z:List Nat}{y:List AV}{bs:Fr}(hl:Nat.beq y.length z.length=true)(hb:dx fr (List.range fr.length)=some bs)
  (h:ac g f asg (nu z y fun t=>(env t).sub (aX (List.range fr.length))) (bs.map fun b=>cL (b.sub (aX (List.range fr.length)))) fun o e r=>o=.normal/\ac g f body e r (Cp (g.lv f (c6 body)) env fr K)):o9 g f z asg body y env fr K:=by
 obtain⟨n,o,e,r,h1,rfl,m,D,G,J,h3,v,h4⟩:=h;have u:=jh (fA (Nat.le_max_left n m)) (lU (Nat.le_max_left n m)) _ _ _ _ h1;have a2:=jh (fA (Nat.le_max_right n m)) (lU (Nat.le_max_right n m)) _ _ _ _ h3
 cases D with
 |normal=>exact⟨max n m,_,_,_,by unfold kD;simp only[hl,hb,u,a2,v],h4⟩
 |exit I=>exact⟨max n m,_,_,_,by unfold kD;simp only[hl,hb,u,a2,v],h4⟩
 |ret=>exact⟨max n m,_,_,_,by unfold kD;simp only[hl,hb,u,a2,v],h4⟩
end
def yi(kp:List (Nat×Value))(a:Act):Prop:=a.defers=[]/\∀p∈kp,a.tmps.getD p.1 undef=p.2
theorem yi.put{kp:List (Nat×Value)}{a:Act}{d:Option Nat}{v:Value}(h:yi kp a)(hd:∀p∈kp,d≠some p.1):yi kp (a.put d v):=
 ⟨by rw[put_defers];exact h.1,fun p u=>by rw[ck (hd p u)];exact h.2 p u⟩
def bare(P:Program):Cfg:={P:=P,ok:=fun _=>false,ext:=fun _ _=>none,lv:=fun _ _=>none,own:=fun _ _=>[],eff:=fun _ _=>[],hand:=fun _ _=>false}
abbrev Cfg.low(g:Cfg)(x:Nat->List AV->Option (SV×Fr)):Cfg:={g with ext:=x,seq:=fun _ _=>none}
section
variable {g:Cfg} {x:Nat->List AV->Option (SV×Fr)} {C:CallF} {Lp:LoopF}
end
section
variable {g:Cfg} {γ:Glob}
def ac.walk(hW:Wf g γ){f n dn:Nat}{c:Code}{env:Env}{fr:Fr}{K:Out->Env->Fr->Prop}{κ:Ctx}{a:Act}{w:World}(h:ac g f c env fr K)(u:(db g f n c&&dz c)=true)(y:At γ κ n env fr a w):c.wpIn (Fw none) dn g.P (fun e v w'=>∃o env' fr',e=o.uC/\K o env' fr'/\At γ κ n env' fr' v w') a w:=by
 obtain⟨m,o,e,r,h1,h2⟩:=h;rw[Bool.and_eq_true]at u;exact wpIn_mono (uD hW.mixed (sound hW m).1 (sound hW m).2 hW.seq c _ _ _ _ _ h1 u.1 κ none dn a w (.inr u.2) y) fun z v w' ⟨h3,h4⟩=>⟨o,e,r,h3,h2,h4⟩
end
section
variable {P:Program} {rd:Option Nat} {dn:Nat} {ops:Array Oper} {Q:Exit->Act->World->Prop} {a:Act} {w w':World}
def uJ{o:Oper}{l:List Oper}(hg:o.guard=none)(h:o.wpIn (Fw rd) dn P a w (fun u w'=>wpListIn (Fw rd) dn P ops Q l u w') Q):wpListIn (Fw rd) dn P ops Q (o::l) a w:=by
 unfold wpListIn;rw[if_pos (by simp[Region.wanted,hg])];exact h
def iM{o:Oper}{l:List Oper}{v:Value}(hg:o.guard=none)(h:(execOp a.eval o).run P w=.ok (.value v) w')(u:wpListIn (Fw rd) dn P ops Q l (a.put o.dst v) w'):wpListIn (Fw rd) dn P ops Q (o::l) a w:=
 uJ hg (cq.wpIn (R:=fun x y=>x=v/\y=w') (by unfold cq;rw[h];exact⟨rfl,rfl⟩) fun x y ⟨h1,h2⟩=>by subst h1 h2;exact u)
end
def Kp(kp:List (Nat×Value))(a:Act):Prop:=∀p∈kp,a.tmps.getD p.1 undef=p.2
theorem Kp.put{kp:List (Nat×Value)}{a:Act}{d:Option Nat}{v:Value}(h:Kp kp a)(hd:∀p∈kp,d≠some p.1):Kp kp (a.put d v):=fun p u=>by rw[ck (hd p u)];exact h p u
section
variable {g:Cfg} {γ:Glob}
def Cq(hW:Wf g γ){ops:Array Oper}{n dn:Nat}{κ:Ctx}{Q:Exit->Act->World->Prop}{ds:List Deferred}{kp:List (Nat×Value)}{l1 l2:List Oper}{i:Nat}{env:Env}{fr:Fr}{K:Env->Fr->Prop}{L:Ls}{a:Act}{w:World}(hE:aa g none ops i l1 env fr K)(G:∀p∈kp,∀o∈l1,o.dst≠some p.1)(I:lN n ops.toList=true)(hm:∀o∈l1,o∈ops.toList)
  (hk:Kp kp a)(hd:a.defers=ds)(hn:a.tmps.size=n)(hC:av γ κ fr L w)(U:∀t,SR (MA κ.M fr L) L w (env t) (a.tmps.getD t undef))
  (hK:∀env' fr' L' a' w',K env' fr'->Kp kp a'->a'.defers=ds->a'.tmps.size=n->av γ κ fr' L' w'->(∀t,SR (MA κ.M fr' L') L' w' (env' t) (a'.tmps.getD t undef))->wpListIn (Fw none) dn g.P ops Q l2 a' w'):wpListIn (Fw none) dn g.P ops Q (l1++l2) a w:=by
 obtain⟨k,e,r,h,an⟩:=hE;have hS:=(sound hW k).1
 induction l1 generalizing i env fr L a w with
 |nil=>cases h;exact hK _ _ L a w an hk hd hn hC U
 |cons o l ih=>
  have V:∀k,o.dst=some k->k <a.tmps.size:=fun k hk=>by rw[hn];exact lO I (hm o (by simp)) hk
  have Z:∀p∈kp,o.dst≠some p.1:=fun p hp=>G p hp o (by simp);unfold dH at h;rw[List.cons_append];unfold wpListIn;split at h
  ·rename_i hg;rw[if_pos (by simp[Region.wanted,hg])];split at h
   ·rename_i x al ks ad;refine(iL hS ad κ L a w hC (fun y _=>mj U y)).wpIn fun v w' ⟨L',hT,J,hv⟩=>?_;exact ih (fun p hp z u=>G p hp z (by simp[u])) (fun z u=>hm z (by simp[u])) (hk.put Z) (by rw[put_defers,hd]) (by rw[bQ,hn]) J (kG (fun t=>hT.env (U t)) hv V) h
   ·cases h
  ·rename_i j ak hg
   have ag:∀W,cX ops env j ak=some W->Region.wanted o (yielded ops a.tmps)=W:=fun W hW=>oE hg hW fun d D=>by
    refine⟨U d,?_⟩;rw[hn]
    cases ab:ops[j]? with
    |none=>rw[ab]at D;cases D
    |some oj=>
     rw[ab]at D;exact lO I (Array.mem_toList_iff.2 (Array.mem_of_getElem? ab)) D
   split at h
   ·cases h
   ·rename_i hW;rw[ag _ hW,if_pos rfl];split at h
    ·rename_i x al ks ad;refine(iL hS ad κ L a w hC (fun y _=>mj U y)).wpIn fun v w' ⟨L',hT,J,hv⟩=>?_;exact ih (fun p hp z u=>G p hp z (by simp[u])) (fun z u=>hm z (by simp[u])) (hk.put Z) (by rw[put_defers,hd]) (by rw[bQ,hn]) J (kG (fun t=>hT.env (U t)) (.aS _ _ hv) V) h
    ·cases h
   ·rename_i hW;rw[ag _ hW,if_neg (by simp)];refine⟨fun _ _=>trivial,ih (fun p hp z u=>G p hp z (by simp[u])) (fun z u=>hm z (by simp[u])) (hk.put Z) (by rw[put_defers,hd]) (by rw[bQ,hn]) hC ?_ h⟩;exact kG U .no V
def Cr(hW:Wf g γ){ops:Array Oper}{n dn:Nat}{κ:Ctx}{Q:Exit->Act->World->Prop}{ds:List Deferred}{kp:List (Nat×Value)}{l:List Oper}{i:Nat}{env:Env}{fr:Fr}{K:Env->Fr->Prop}{L:Ls}{a:Act}{w:World}(I:aa g none ops i l env fr K)(y:∀p∈kp,∀o∈l,o.dst≠some p.1)(v:lN n ops.toList=true)(hm:∀o∈l,o∈ops.toList)
  (hk:Kp kp a)(hd:a.defers=ds)(hn:a.tmps.size=n)(G:av γ κ fr L w)(U:∀t,SR (MA κ.M fr L) L w (env t) (a.tmps.getD t undef))
  (J:∀env' fr' L' u w',K env' fr'->Kp kp u->u.defers=ds->u.tmps.size=n->av γ κ fr' L' w'->(∀t,SR (MA κ.M fr' L') L' w' (env' t) (u.tmps.getD t undef))->Q .normal u w'):wpListIn (Fw none) dn g.P ops Q l a w:=by
 have:=Cq (l2:=[]) (dn:=dn) (Q:=Q) hW I y v hm hk hd hn G U fun e r L' u w' h1 h2 h3 h4 z D=>J e r L' u w' h1 h2 h3 h4 z D;rwa[List.append_nil]at this
def HW(γ:Glob)(κ:Ctx)(n:Nat)(P:Program)(c:Code)(env:Env)(fr:Fr)(Q:Exit->Act->World->Prop):Prop:=∀(dn:Nat) a w,At γ κ n env fr a w->c.wpIn (Fw none) dn P Q a w
def Cs(γ:Glob)(κ:Ctx)(n:Nat)(N:Env->Fr->Prop)(Q:Exit->Act->World->Prop):Out->Env->Fr->Prop
 | .normal,e,r=>N e r
 |o,e,r=>∀a w,At γ κ n e r a w->Q o.uC a w
def HW.ev(hW:Wf g γ){f n:Nat}{c d:Code}{env:Env}{fr:Fr}{κ:Ctx}{Q:Exit->Act->World->Prop}(h:ac g f c env fr (Cs γ κ n (fun e r=>HW γ κ n g.P d e r Q) Q))(z:(db g f n c&&dz c)=true):HW γ κ n g.P (.seq c d) env fr Q:=fun dn a w D=>by
 refine wpIn_seq (wpIn_mono (h.walk hW z D) fun e v w' ⟨o,I,U,G,y,u⟩=>?_);subst G
 cases o with
 |normal=>exact y dn v w' u
 |exit J=>exact y v w' u
 |ret=>exact y v w' u
def HW.cr(hW:Wf g γ){f n:Nat}{c d:Code}{env:Env}{fr:Fr}{κ:Ctx}{Q:Exit->Act->World->Prop}(T:Env->Fr->Prop)(h:ac g f c env fr fun o e r=>o=.normal/\T e r)(v:(db g f n c&&dz c)=true)(hd:∀e r,T e r->HW γ κ n g.P d e r Q):HW γ κ n g.P (.seq c d) env fr Q:=fun dn a w z=>by
 refine wpIn_seq (wpIn_mono (h.walk hW v z) fun e y w' ⟨o,J,U,G,⟨I,D⟩,u⟩=>?_);subst G I;exact hd _ _ D dn y w' u
def HW.one(hW:Wf g γ){f n:Nat}{c:Code}{env:Env}{fr:Fr}{κ:Ctx}{Q:Exit->Act->World->Prop}(h:ac g f c env fr (Cs γ κ n (fun e r=>∀a w,At γ κ n e r a w->Q .normal a w) Q))(z:(db g f n c&&dz c)=true):HW γ κ n g.P c env fr Q:=fun dn a w D=>by
 refine wpIn_mono (h.walk hW z D) fun e v w' ⟨o,I,U,G,y,u⟩=>?_;subst G
 cases o with
 |normal=>exact y v w' u
 |exit J=>exact y v w' u
 |ret=>exact y v w' u
theorem HW.block{n u:Nat}{c:Code}{env:Env}{fr:Fr}{κ:Ctx}{P:Program}{Q:Exit->Act->World->Prop}(h:HW γ κ n P c env fr (Exit.inBlock u Q)):HW γ κ n P (.block u c) env fr Q:=fun dn a w v=>wpIn_block (h dn a w v)
theorem HW.seq{n:Nat}{c d:Code}{env:Env}{fr:Fr}{κ:Ctx}{P:Program}{Q:Exit->Act->World->Prop}(h:HW γ κ n P c env fr (Exit.then (fun a w=>∃e r,At γ κ n e r a w/\HW γ κ n P d e r Q) Q)):HW γ κ n P (.seq c d) env fr Q:=fun dn a w y=>by
 refine wpIn_seq (wpIn_mono (h dn a w y) fun e v w' u=>?_)
 cases e with
 |normal=>obtain⟨e,r,h1,h2⟩:=u;exact h2 dn v w' h1
 |_=>exact u
def At.nI{n:Nat}{env:Env}{fr:Fr}{κ:Ctx}{a:Act}{w:World}(u:At γ κ n env fr a w)(vs:List (Nat×SV))(hs:∀p∈vs,env p.1=p.2):At γ κ n (cZ vs) fr a w:=by
 obtain⟨h1,h2,L,v,y⟩:=u;exact⟨h1,h2,L,v,nD (tm:=fun t=>a.tmps.getD t undef) vs fun p z=>by rw[<- hs p z];exact y p.1⟩
theorem HW.nI{n:Nat}{c:Code}{env:Env}{fr:Fr}{κ:Ctx}{P:Program}{Q:Exit->Act->World->Prop}(vs:List (Nat×SV))(hs:∀p∈vs,env p.1=p.2)(h:HW γ κ n P c (cZ vs) fr Q):HW γ κ n P c env fr Q:=fun dn a w u=>h dn a w (u.nI vs hs)
theorem HW.loop{n:Nat}{c:Code}{env:Env}{fr:Fr}{κ:Ctx}{P:Program}{Q:Exit->Act->World->Prop}(I:Nat->Env->Fr->Prop)(z:Nat)(h0:I z env fr)(round:∀k env fr,I k env fr->HW γ κ n P c env fr (Exit.then (fun a w=>∃u e r,u <k/\I u e r/\At γ κ n e r a w) Q)):HW γ κ n P (.loop c) env fr Q:=fun dn a w v=>by
 refine uE (fun k a w=>∃e r,I k e r/\At γ κ n e r a w) z ⟨env,fr,h0,v⟩ fun k a w ⟨e,r,J,v⟩=>?_;refine wpIn_mono (round k e r J dn a w v) fun G V w' y=>?_
 cases G with
 |normal=>
  obtain⟨u,D,U,h1,h2,h3⟩:=y;exact⟨u,h1,D,U,h2,h3⟩
 |_=>exact y
def I5{P :Program}{f :Nat}{fn :Func}{c :Code}{xs :List AV}{b :Bool}(D :P.funcs[f]?=some fn)(hb :fn.body=some c)(V :(fn.name== "runtime.NumGoroutine")=false)(al :xs.length <=fn.ntmps)(ad :fn.results.size <=4)
  (walk:∀(M:Nat->Prop) (W:World),(∀b,W.heap.size<=b->M b)->HW γ ⟨M,fun _=>False,fun _=>False,W,fun _=>none⟩ fn.ntmps P c (jO (xs.map .t)) [] (fun e a' w'=>∃env' q r0,(e=.normal\/e=.ret)/\At γ ⟨M,fun _=>False,fun _=>False,W,fun _=>none⟩ fn.ntmps env' q a' w'/\nv P env' q (fw fn.results.toList)=some r0/\fin 0 r0 q=some (.t (.bool b),[]))):
  gh P f/\∀(κ:Ctx) (w:World) (us:Array Value),av γ κ [] κ.L w->κ.W=w->us.size=xs.length->(∀(j:Nat) (x:AV) (u:Value),xs[j]?=some x->us[j]?=some u->VR (MA κ.M [] κ.L) w x u)->
  Calls P f us w fun e w'=>∃v L',e=.returned v/\av γ κ [] L' w'/\SR (MA κ.M [] L') L' w' (.t (.bool b)) v:=by
 refine⟨⟨fn,D,V,by rw[hb];rfl⟩,fun κ w us I hw G hr=>callsIn_wide.1 (callsIn_of_wp_marks (F:=Fence.wide) (n:=0) D hb trivial ?_)⟩;have z:av γ ⟨MA κ.M [] κ.L,fun _=>False,fun _=>False,w,fun _=>none⟩ [] (fun _=>none) w:=I.pure _ fun b hb=>⟨I.fresh b (by rw[hw];exact hb),fun⟨i,v,lb,_,_,h3,_⟩=>by cases h3⟩;have J:∀b,MA κ.M [] κ.L b->MA (MA κ.M [] κ.L) [] (fun _=>none) b:=fun b hb=>⟨hb,fun⟨i,_,_,h,_⟩=>by cases h⟩
 have hA:At γ ⟨MA κ.M [] κ.L,fun _=>False,fun _=>False,w,fun _=>none⟩ fn.ntmps (jO (xs.map .t)) [] {tmps:=us++Array.replicate (fn.ntmps - us.size) undef,defers:=[]} w:=by
  refine⟨Marks.nil,by simp[G];omega,_,z,fun t=>?_⟩;show SR _ _ w (jO (xs.map .t) t) _
  unfold jO;rw[List.getElem?_map]
  cases hx:xs[t]? with
  |none=>exact .dead _
  |some x=>
   have ht:t <us.size:=by rw[G];exact aF hx
   have h1:=hr t x us[t] hx (Array.getElem?_eq_getElem ht);show SR _ _ w (.t x) ((us++_).getD t undef)
   rw[Array.getD_eq_getD_getElem?,Array.getElem?_append_left ht,Array.getElem?_eq_getElem ht];exact .t _ _ (VR.on (Nat.le_refl _) (fun b _ hb=>⟨J b hb,rfl⟩) h1)
 refine wpIn_mono (walk _ w z.fresh 0 _ w hA) fun ex a w' ⟨e,q,r0,ho,⟨⟨⟨Ds,n1,n2,n3⟩,_⟩,h3,L,h4,h5⟩,ab,U⟩=>?_
 have ak:LeavesInM Fence.wide 0 P fn a.tmps (fun e w'=>∃v L',e=.returned v/\av γ κ [] L' w'/\SR (MA κ.M [] L') L' w' (.t (.bool b)) v) a.defers .returning w':=by
  rw[n2];refine xr Ds w' n1 n3 fun an Z=>?_;obtain⟨v,hv,ag⟩:=xV (h4.lq Z) (fun t=>(h5 t).lq Z) ab ad;obtain⟨L',y,f2⟩:=xT (h4.lq Z) (fun j u hj=>by cases hj) U ag;refine⟨v,hv,v,κ.L,rfl,I.later ⟨y.os,y.tape,y.output,y.size,fun k hk=>y.kept k hk fun h=>h⟩,?_⟩
  cases f2 with
  |t _ _ h=>cases h;exact .t _ _ (.bool b)
 rcases ho with rfl|rfl <;>exact ak
end
section
variable {P:Program} {γ:Glob} {κ:Ctx} {fr:Fr} {L:Ls} {w:World}
def av.uK(hC:av γ κ fr L w){i r:Nat}{G:List AV}{z:List SV}{v:Array MapEntry}{y:Nat}(hi:fr[i]?=some (.map false G z))(h1:L i=some (.map (some r)))(h2:w.heap[r]?=some (.map v y)):
  v.size=G.length/\v.size=z.length/\(∀(j:Nat) (x:AV) (u:MapEntry),G[j]?=some x->v[j]?=some u->VR (MA κ.M fr L) w x u.key)/\(∀(j:Nat) (x:SV) (u:MapEntry),z[j]?=some x->v[j]?=some u->SR (MA κ.M fr L) L w x u.val)/\gE v y:=by
 obtain⟨r',I,D,U,V,h3,h4,Z,h6,J⟩:=hC.blk i _ hi;rw[h1]at U;cases U;rw[h2]at V;cases V;exact⟨h3,h4,Z,h6,J⟩
theorem av.erase(hC:av γ κ fr L w){i j r:Nat}{V:List AV}{G:List SV}{y:Array MapEntry}{v:Nat}(hi:fr[i]?=some (.map false V G))(h1:L i=some (.map (some r)))(h2:w.heap[r]?=some (.map y v)):
  av γ κ (fr.set i (.map false (V.eraseIdx j) (G.eraseIdx j))) L (da w r (.map (y.eraseIdxIfInBounds j) v))/\Tr κ.M fr L w (fr.set i (.map false (V.eraseIdx j) (G.eraseIdx j))) L (da w r (.map (y.eraseIdxIfInBounds j) v)) []:=by
 obtain⟨h3,h4,h5,h6,Z⟩:=hC.uK hi h1 h2;have I:=(Array.getElem?_eq_some_iff.1 h2).1
 have:=hC.lM (w':=da w r (.map (y.eraseIdxIfInBounds j) v)) (ks:=[]) (v':=.map (some r)) (lb':=.map false (V.eraseIdx j) (G.eraseIdx j)) hi rfl h1 (uf w r _) (.inl rfl) (fun b hb=>by cases hb;simp[da];exact I) (.inl rfl) (fun _=>rfl) fun J=>⟨r,_,v,bY,rO I,by rw[<- Array.length_toList,nA,List.length_eraseIdx,List.length_eraseIdx];simp[h3],by rw[<- Array.length_toList,nA,List.length_eraseIdx,List.length_eraseIdx];simp[h4],fun q x u D z=>by
  have D:=rQ D;have z:=rP z;by_cases U:q <j
  ·rw[if_pos U]at D z;exact J.vr (h5 _ x u D z)
  ·rw[if_neg U]at D z;exact J.vr (h5 _ x u D z),fun q x u D z=>by
  rw[rL h1]at J⊢;have D:=rQ D;have z:=rP z;by_cases U:q <j
  ·rw[if_pos U]at D z;exact J.sr (h6 _ x u D z)
  ·rw[if_neg U]at D z;exact J.sr (h6 _ x u D z),Z.erase j⟩
 rw[rL h1]at this;exact this
def I6(hC:av γ κ fr L w){i j r t u e ty:Nat}{d:TypeDesc}{k:Value}{ka:AV}{I:List AV}{Z:List SV}{y:Array MapEntry}{v:Nat}(ht:lG P t=some (e,d))(hi:fr[i]?=some (.map false I Z))(h1:L i=some (.map (some r)))(h2:w.heap[r]?=some (.map y v))(U:VR (MA κ.M fr L) w ka k)(hf:dG d ka I 0=some (some j)):
  (Builtin.delete_ #[t,u] ty #[.map (some r),k]).run P w=.ok (.tuple #[]) (da w r (.map (y.eraseIdxIfInBounds j) v)):=by
 obtain⟨kt,V,D,hl⟩:=tM ht;obtain⟨h3,h4,h5,h6,ag⟩:=hC.uK hi h1 h2;have hg:(getObj r).run P w=.ok (.map y v) w:=by simp[getObj,Sem.run,h2]
 have z:∀(J:Array MapEntry) (c:Nat),(setObj r (.map J c)).run P w=.ok () (da w r (.map J c)):=fun J c=>by simp[setObj,Sem.run,h2,da]
 rcases np U I y.toList 0 _ (by simpa using h3.symm) (fun j x e hx he=>h5 j x e hx (by simpa using he)) hf with⟨G,_⟩|⟨j',e',G,h8,h9,x0,ab,ad⟩
 ·cases G
 ·rw[Nat.zero_add]at G h9;cases G;unfold Builtin.delete_;simp only[List.getElem?_toArray,List.getElem?_cons_zero,List.getElem?_cons_succ,Sem.run_bind,run_underlying V,Result.andThen_ok,hg,run_checkKey D hl,run_findKey D h9,z,Sem.run_pure]
end
def I7{u:Array MapEntry}{v:Array Nat}(h:(leftOf u v).size=0){e:MapEntry}(he:e∈u.toList):v.contains e.born=true:=all_seen u v h e he
end Go.Proofs.YtjolgbkkocjpgaaGreatDoor
