/- The tree evaluator,21b: rules for loops over functions. No condition. -/
import Derived.Test.YtcgdbhlnkificaaGreatDoorTC
import Derived.Maps.RangeRun
import Derived.Great.BuildSlice
set_option linter.all false
namespace Go.Proofs.YtcgdbhlnkificaaGreatDoor
open Go.RowKit
def o6(g:Cfg)(f:Nat)(u:List Nat)(asg body:Code)(wh:Bool)(yss:List (List AV))(env:Env)(fr:Fr)(K:Out->Env->Fr->Prop):Prop:=∃n o e r,kV (g.lv f (cX body)) (bq g f (cO g n) (dE g n) asg) (bq g f (cO g n) (dE g n) body) u wh yss env fr=some (o,e,r)/\K o e r
def o5(g:Cfg)(f:Nat)(u:List Nat)(asg body:Code)(y:List AV)(env:Env)(fr:Fr)(K:Out->Env->Fr->Prop):Prop:=∃n o e r,lR (g.lv f (cX body)) (bq g f (cO g n) (dE g n) asg) (bq g f (cO g n) (dE g n) body) u y env fr=some (o,e,r)/\K o e r
def E3(lv:Option (List Nat))(env:Env)(fr:Fr)(K:Out->Env->Fr->Prop):Out->Env->Fr->Prop:=fun o _ u=>kindOk (List.range fr.length) u fr=true/\match o with
 | .normal=>K .normal (head lv fr.length (dR (dL (List.range fr.length) u) env) (back (List.range fr.length) fr u)).1 (head lv fr.length (dR (dL (List.range fr.length) u) env) (back (List.range fr.length) fr u)).2
 |o=>K o (dR (dL (List.range fr.length) u) env) (back (List.range fr.length) fr u)
section
variable {g:Cfg} {f:Nat} {asg body:Code} {env:Env} {fr:Fr} {K:Out->Env->Fr->Prop}
def ac.range{op:Operand}{v:Array Tmp}{u:Nat}{bs:List SV}{cs:List AV}{yss:List (List AV)}{wh:Bool}(h1:eK (rd env op)=some (u,[],bs))(h2:cJ fr bs=some cs)(h3:g.seq u cs=some (yss,wh)){fr1:Fr}(h4:freeze fr (br fr bs)=fr1)(h:o6 g f v.toList asg body wh yss env fr1 K):ac g f (.rangeFunc op v asg body) env fr K:=by
 obtain⟨n,o,e,r,y,z⟩:=h;refine⟨n,o,e,r,?_,z⟩;unfold bq;simp only[h1,h2,h3,h4];exact y
def o6.nil{u:List Nat}(h:K .normal env fr):o6 g f u asg body true [] env fr K:=⟨0,.normal,env,fr,rfl,h⟩
def o6.cons{u:List Nat}{wh:Bool}{y:List AV}{v:List (List AV)}(h:o5 g f u asg body y env fr (lZ (fun e r=>o6 g f u asg body wh v e r K) K)):o6 g f u asg body wh (y::v) env fr K:=by
 obtain⟨n,o,e,r,h1,h2⟩:=h
 cases o with
 |normal=>
  obtain⟨m,o,z,D,h3,h4⟩:=h2;refine⟨max n m,o,z,D,?_,h4⟩;unfold kV;rw[zW (fun e r x q=>jy (fI (Nat.le_max_left n m)) (my (Nat.le_max_left n m)) _ e r x q) (fun e r x q=>jy (fI (Nat.le_max_left n m)) (my (Nat.le_max_left n m)) _ e r x q) h1];exact zX (fun e r x q=>jy (fI (Nat.le_max_right n m)) (my (Nat.le_max_right n m)) _ e r x q) (fun e r x q=>jy (fI (Nat.le_max_right n m)) (my (Nat.le_max_right n m)) _ e r x q) _ _ _ _ h3
 |exit id=>exact⟨n,_,e,r,by unfold kV;rw[h1],h2⟩
 |ret=>exact⟨n,_,e,r,by unfold kV;rw[h1],h2⟩
def o5.mk{z:List Nat}{y:List AV}{bs:Fr}(hl:Nat.beq y.length z.length=true)(hb:dX fr (List.range fr.length)=some bs)
  (h:ac g f asg (oK z y fun t=>(env t).sub (bc (List.range fr.length))) (bs.map fun b=>cU (b.sub (bc (List.range fr.length)))) fun o e r=>o=.normal/\ac g f body e r (E3 (g.lv f (cX body)) env fr K)):o5 g f z asg body y env fr K:=by
 obtain⟨n,o,e,r,h1,rfl,m,D,G,I,h3,v,h4⟩:=h;have u:=jy (fI (Nat.le_max_left n m)) (my (Nat.le_max_left n m)) _ _ _ _ h1;have a2:=jy (fI (Nat.le_max_right n m)) (my (Nat.le_max_right n m)) _ _ _ _ h3
 cases D with
 |normal=>exact⟨max n m,_,_,_,by unfold lR;simp only[hl,hb,u,a2,v],h4⟩
 |exit id=>exact⟨max n m,_,_,_,by unfold lR;simp only[hl,hb,u,a2,v],h4⟩
 |ret=>exact⟨max n m,_,_,_,by unfold lR;simp only[hl,hb,u,a2,v],h4⟩
end
def xl(kp:List (Nat×Value))(a:Act):Prop:=a.defers=[]/\∀p∈kp,a.tmps.getD p.1 undef=p.2
theorem xl.put{kp:List (Nat×Value)}{a:Act}{d:Option Nat}{v:Value}(h:xl kp a)(hd:∀p∈kp,d≠some p.1):xl kp (a.put d v):=
 ⟨by rw[put_defers];exact h.1,fun p u=>by rw[cg (hd p u)];exact h.2 p u⟩
def bare(P:Program):Cfg:={P:=P,ok:=fun _=>false,ext:=fun _ _=>none,lv:=fun _ _=>none,own:=fun _ _=>[],eff:=fun _ _=>[],hand:=fun _ _=>false}
abbrev Cfg.low(g:Cfg)(x:Nat->List AV->Option (SV×Fr)):Cfg:={g with ext:=x,seq:=fun _ _=>none}
section
variable {g:Cfg} {x:Nat->List AV->Option (SV×Fr)} {C:CallF} {Lp:LoopF}
end
section
variable {g:Cfg} {γ:Glob}
def ac.walk(hW:Wf g γ){f n dn:Nat}{c:Code}{env:Env}{fr:Fr}{K:Out->Env->Fr->Prop}{κ:Ctx}{a:Act}{w:World}(h:ac g f c env fr K)(u:(kj g f n c&&dH c)=true)(y:At γ κ n env fr a w):c.wpIn (Fw none) dn g.P (fun e v w'=>∃o env' fr',e=o.Re/\K o env' fr'/\At γ κ n env' fr' v w') a w:=by
 obtain⟨m,o,e,r,h1,h2⟩:=h;rw[Bool.and_eq_true]at u;exact wpIn_mono (uV hW.mixed (sound hW m).1 (sound hW m).2 hW.seq c _ _ _ _ _ h1 u.1 κ none dn a w (.inr u.2) y) fun z v w' ⟨h3,h4⟩=>⟨o,e,r,h3,h2,h4⟩
end
section
variable {P:Program} {rd:Option Nat} {dn:Nat} {ops:Array Oper} {Q:Exit->Act->World->Prop} {a:Act} {w w':World}
def AN{o:Oper}{l:List Oper}(hg:o.guard=none)(h:o.wpIn (Fw rd) dn P a w (fun u w'=>wpListIn (Fw rd) dn P ops Q l u w') Q):wpListIn (Fw rd) dn P ops Q (o::l) a w:=by
 unfold wpListIn;rw[if_pos (by simp[Region.wanted,hg])];exact h
def jh{o:Oper}{l:List Oper}{v:Value}(hg:o.guard=none)(h:(execOp a.eval o).run P w=.ok (.value v) w')(u:wpListIn (Fw rd) dn P ops Q l (a.put o.dst v) w'):wpListIn (Fw rd) dn P ops Q (o::l) a w:=
 AN hg (cN.wpIn (R:=fun x y=>x=v/\y=w') (by unfold cN;rw[h];exact⟨rfl,rfl⟩) fun x y ⟨h1,h2⟩=>by subst h1 h2;exact u)
end
def Kp(kp:List (Nat×Value))(a:Act):Prop:=∀p∈kp,a.tmps.getD p.1 undef=p.2
theorem Kp.put{kp:List (Nat×Value)}{a:Act}{d:Option Nat}{v:Value}(h:Kp kp a)(hd:∀p∈kp,d≠some p.1):Kp kp (a.put d v):=fun p u=>by rw[cg (hd p u)];exact h p u
section
variable {g:Cfg} {γ:Glob}
def Ef(hW:Wf g γ){ops:Array Oper}{n dn:Nat}{κ:Ctx}{Q:Exit->Act->World->Prop}{ds:List Deferred}{kp:List (Nat×Value)}{l1 l2:List Oper}{i:Nat}{env:Env}{fr:Fr}{K:Env->Fr->Prop}{L:Ls}{a:Act}{w:World}(hE:aa g none ops i l1 env fr K)(G:∀p∈kp,∀o∈l1,o.dst≠some p.1)(I:iA n ops.toList=true)(hm:∀o∈l1,o∈ops.toList)
  (hk:Kp kp a)(hd:a.defers=ds)(hn:a.tmps.size=n)(hC:ar γ κ fr L w)(U:∀t,SR (MA κ.M fr L) L w (env t) (a.tmps.getD t undef))
  (hK:∀env' fr' L' a' w',K env' fr'->Kp kp a'->a'.defers=ds->a'.tmps.size=n->ar γ κ fr' L' w'->(∀t,SR (MA κ.M fr' L') L' w' (env' t) (a'.tmps.getD t undef))->wpListIn (Fw none) dn g.P ops Q l2 a' w'):wpListIn (Fw none) dn g.P ops Q (l1++l2) a w:=by
 obtain⟨k,e,r,h,ao⟩:=hE;have hS:=(sound hW k).1
 induction l1 generalizing i env fr L a w with
 |nil=>cases h;exact hK _ _ L a w ao hk hd hn hC U
 |cons o l ih=>
  have V:∀k,o.dst=some k->k <a.tmps.size:=fun k hk=>by rw[hn];exact jv I (hm o (by simp)) hk
  have Z:∀p∈kp,o.dst≠some p.1:=fun p hp=>G p hp o (by simp);unfold dQ at h;rw[List.cons_append];unfold wpListIn;split at h
  ·rename_i hg;rw[if_pos (by simp[Region.wanted,hg])];split at h
   ·rename_i x an ks ad;refine(ii hS ad κ L a w hC (fun y _=>nh U y)).wpIn fun v w' ⟨L',hT,J,hv⟩=>?_;exact ih (fun p hp z u=>G p hp z (by simp[u])) (fun z u=>hm z (by simp[u])) (hk.put Z) (by rw[put_defers,hd]) (by rw[bR,hn]) J (lP (fun t=>hT.env (U t)) hv V) h
   ·cases h
  ·rename_i j al hg
   have ag:∀W,cG ops env j al=some W->Region.wanted o (yielded ops a.tmps)=W:=fun W hW=>oY hg hW fun d D=>by
    refine⟨U d,?_⟩;rw[hn]
    cases ab:ops[j]? with
    |none=>rw[ab]at D;cases D
    |some oj=>
     rw[ab]at D;exact jv I (Array.mem_toList_iff.2 (Array.mem_of_getElem? ab)) D
   split at h
   ·cases h
   ·rename_i hW;rw[ag _ hW,if_pos rfl];split at h
    ·rename_i x an ks ad;refine(ii hS ad κ L a w hC (fun y _=>nh U y)).wpIn fun v w' ⟨L',hT,J,hv⟩=>?_;exact ih (fun p hp z u=>G p hp z (by simp[u])) (fun z u=>hm z (by simp[u])) (hk.put Z) (by rw[put_defers,hd]) (by rw[bR,hn]) J (lP (fun t=>hT.env (U t)) (.aT _ _ hv) V) h
    ·cases h
   ·rename_i hW;rw[ag _ hW,if_neg (by simp)];refine⟨fun _ _=>trivial,ih (fun p hp z u=>G p hp z (by simp[u])) (fun z u=>hm z (by simp[u])) (hk.put Z) (by rw[put_defers,hd]) (by rw[bR,hn]) hC ?_ h⟩;exact lP U .no V
def Eg(hW:Wf g γ){ops:Array Oper}{n dn:Nat}{κ:Ctx}{Q:Exit->Act->World->Prop}{ds:List Deferred}{kp:List (Nat×Value)}{l:List Oper}{i:Nat}{env:Env}{fr:Fr}{K:Env->Fr->Prop}{L:Ls}{a:Act}{w:World}(I:aa g none ops i l env fr K)(y:∀p∈kp,∀o∈l,o.dst≠some p.1)(v:iA n ops.toList=true)(hm:∀o∈l,o∈ops.toList)
  (hk:Kp kp a)(hd:a.defers=ds)(hn:a.tmps.size=n)(G:ar γ κ fr L w)(U:∀t,SR (MA κ.M fr L) L w (env t) (a.tmps.getD t undef))
  (J:∀env' fr' L' u w',K env' fr'->Kp kp u->u.defers=ds->u.tmps.size=n->ar γ κ fr' L' w'->(∀t,SR (MA κ.M fr' L') L' w' (env' t) (u.tmps.getD t undef))->Q .normal u w'):wpListIn (Fw none) dn g.P ops Q l a w:=by
 have:=Ef (l2:=[]) (dn:=dn) (Q:=Q) hW I y v hm hk hd hn G U fun e r L' u w' h1 h2 h3 h4 z D=>J e r L' u w' h1 h2 h3 h4 z D;rwa[List.append_nil]at this
def HW(γ:Glob)(κ:Ctx)(n:Nat)(P:Program)(c:Code)(env:Env)(fr:Fr)(Q:Exit->Act->World->Prop):Prop:=∀(dn:Nat) a w,At γ κ n env fr a w->c.wpIn (Fw none) dn P Q a w
def Cb(γ:Glob)(κ:Ctx)(n:Nat)(N:Env->Fr->Prop)(Q:Exit->Act->World->Prop):Out->Env->Fr->Prop
 | .normal,e,r=>N e r
 |o,e,r=>∀a w,At γ κ n e r a w->Q o.Re a w
def HW.ev(hW:Wf g γ){f n:Nat}{c d:Code}{env:Env}{fr:Fr}{κ:Ctx}{Q:Exit->Act->World->Prop}(h:ac g f c env fr (Cb γ κ n (fun e r=>HW γ κ n g.P d e r Q) Q))(z:(kj g f n c&&dH c)=true):HW γ κ n g.P (.seq c d) env fr Q:=fun dn a w D=>by
 refine wpIn_seq (wpIn_mono (h.walk hW z D) fun e v w' ⟨o,I,J,G,y,u⟩=>?_);subst G
 cases o with
 |normal=>exact y dn v w' u
 |exit id=>exact y v w' u
 |ret=>exact y v w' u
def HW.bX(hW:Wf g γ){f n:Nat}{c d:Code}{env:Env}{fr:Fr}{κ:Ctx}{Q:Exit->Act->World->Prop}(T:Env->Fr->Prop)(h:ac g f c env fr fun o e r=>o=.normal/\T e r)(v:(kj g f n c&&dH c)=true)(hd:∀e r,T e r->HW γ κ n g.P d e r Q):HW γ κ n g.P (.seq c d) env fr Q:=fun dn a w z=>by
 refine wpIn_seq (wpIn_mono (h.walk hW v z) fun e y w' ⟨o,J,U,G,⟨I,D⟩,u⟩=>?_);subst G I;exact hd _ _ D dn y w' u
def HW.one(hW:Wf g γ){f n:Nat}{c:Code}{env:Env}{fr:Fr}{κ:Ctx}{Q:Exit->Act->World->Prop}(h:ac g f c env fr (Cb γ κ n (fun e r=>∀a w,At γ κ n e r a w->Q .normal a w) Q))(z:(kj g f n c&&dH c)=true):HW γ κ n g.P c env fr Q:=fun dn a w D=>by
 refine wpIn_mono (h.walk hW z D) fun e v w' ⟨o,I,J,G,y,u⟩=>?_;subst G
 cases o with
 |normal=>exact y v w' u
 |exit id=>exact y v w' u
 |ret=>exact y v w' u
theorem HW.block{n id:Nat}{c:Code}{env:Env}{fr:Fr}{κ:Ctx}{P:Program}{Q:Exit->Act->World->Prop}(h:HW γ κ n P c env fr (Exit.inBlock id Q)):HW γ κ n P (.block id c) env fr Q:=fun dn a w u=>wpIn_block (h dn a w u)
theorem HW.seq{n:Nat}{c d:Code}{env:Env}{fr:Fr}{κ:Ctx}{P:Program}{Q:Exit->Act->World->Prop}(h:HW γ κ n P c env fr (Exit.then (fun a w=>∃e r,At γ κ n e r a w/\HW γ κ n P d e r Q) Q)):HW γ κ n P (.seq c d) env fr Q:=fun dn a w y=>by
 refine wpIn_seq (wpIn_mono (h dn a w y) fun e v w' u=>?_)
 cases e with
 |normal=>obtain⟨e,r,h1,h2⟩:=u;exact h2 dn v w' h1
 |_=>exact u
def At.oP{n:Nat}{env:Env}{fr:Fr}{κ:Ctx}{a:Act}{w:World}(u:At γ κ n env fr a w)(vs:List (Nat×SV))(hs:∀p∈vs,env p.1=p.2):At γ κ n (c9 vs) fr a w:=by
 obtain⟨h1,h2,L,v,y⟩:=u;exact⟨h1,h2,L,v,oE (tm:=fun t=>a.tmps.getD t undef) vs fun p z=>by rw[<- hs p z];exact y p.1⟩
theorem HW.oP{n:Nat}{c:Code}{env:Env}{fr:Fr}{κ:Ctx}{P:Program}{Q:Exit->Act->World->Prop}(vs:List (Nat×SV))(hs:∀p∈vs,env p.1=p.2)(h:HW γ κ n P c (c9 vs) fr Q):HW γ κ n P c env fr Q:=fun dn a w u=>h dn a w (u.oP vs hs)
theorem HW.loop{n:Nat}{c:Code}{env:Env}{fr:Fr}{κ:Ctx}{P:Program}{Q:Exit->Act->World->Prop}(I:Nat->Env->Fr->Prop)(z:Nat)(h0:I z env fr)(round:∀k env fr,I k env fr->HW γ κ n P c env fr (Exit.then (fun a w=>∃u e r,u <k/\I u e r/\At γ κ n e r a w) Q)):HW γ κ n P (.loop c) env fr Q:=fun dn a w v=>by
 refine ue (fun k a w=>∃e r,I k e r/\At γ κ n e r a w) z ⟨env,fr,h0,v⟩ fun k a w ⟨e,r,J,v⟩=>?_;refine wpIn_mono (round k e r J dn a w v) fun G V w' y=>?_
 cases G with
 |normal=>
  obtain⟨u,D,U,h1,h2,h3⟩:=y;exact⟨u,h1,D,U,h2,h3⟩
 |_=>exact y
def JO{P :Program}{f :Nat}{fn :Func}{c :Code}{xs :List AV}{b :Bool}(D :P.funcs[f]?=some fn)(hb :fn.body=some c)(V :(fn.name== "runtime.NumGoroutine")=false)(an :xs.length <=fn.ntmps)(ad :fn.results.size <=4)
  (walk:∀(M:Nat->Prop) (W:World),(∀b,W.heap.size<=b->M b)->HW γ ⟨M,fun _=>False,fun _=>False,W,fun _=>none⟩ fn.ntmps P c (kR (xs.map .t)) [] (fun e a' w'=>∃env' q r0,(e=.normal\/e=.ret)/\At γ ⟨M,fun _=>False,fun _=>False,W,fun _=>none⟩ fn.ntmps env' q a' w'/\oH P env' q (fP fn.results.toList)=some r0/\fin 0 r0 q=some (.t (.bool b),[]))):
  gR P f/\∀(κ:Ctx) (w:World) (us:Array Value),ar γ κ [] κ.L w->κ.W=w->us.size=xs.length->(∀(j:Nat) (x:AV) (u:Value),xs[j]?=some x->us[j]?=some u->VR (MA κ.M [] κ.L) w x u)->
  Calls P f us w fun e w'=>∃v L',e=.returned v/\ar γ κ [] L' w'/\SR (MA κ.M [] L') L' w' (.t (.bool b)) v:=by
 refine⟨⟨fn,D,V,by rw[hb];rfl⟩,fun κ w us I hw G hr=>callsIn_wide.1 (callsIn_of_wp_marks (F:=Fence.wide) (n:=0) D hb trivial ?_)⟩;have z:ar γ ⟨MA κ.M [] κ.L,fun _=>False,fun _=>False,w,fun _=>none⟩ [] (fun _=>none) w:=I.pure _ fun b hb=>⟨I.fresh b (by rw[hw];exact hb),fun⟨i,v,lb,_,_,h3,_⟩=>by cases h3⟩;have J:∀b,MA κ.M [] κ.L b->MA (MA κ.M [] κ.L) [] (fun _=>none) b:=fun b hb=>⟨hb,fun⟨i,_,_,h,_⟩=>by cases h⟩
 have hA:At γ ⟨MA κ.M [] κ.L,fun _=>False,fun _=>False,w,fun _=>none⟩ fn.ntmps (kR (xs.map .t)) [] {tmps:=us++Array.replicate (fn.ntmps - us.size) undef,defers:=[]} w:=by
  refine⟨Marks.nil,by simp[G];omega,_,z,fun t=>?_⟩;show SR _ _ w (kR (xs.map .t) t) _
  unfold kR;rw[List.getElem?_map]
  cases hx:xs[t]? with
  |none=>exact .dead _
  |some x=>
   have ht:t <us.size:=by rw[G];exact aC hx
   have h1:=hr t x us[t] hx (Array.getElem?_eq_getElem ht);show SR _ _ w (.t x) ((us++_).getD t undef)
   rw[Array.getD_eq_getD_getElem?,Array.getElem?_append_left ht,Array.getElem?_eq_getElem ht];exact .t _ _ (VR.on (Nat.le_refl _) (fun b _ hb=>⟨J b hb,rfl⟩) h1)
 refine wpIn_mono (walk _ w z.fresh 0 _ w hA) fun ex a w' ⟨e,q,r0,ho,⟨⟨⟨Ds,n1,n2,n3⟩,_⟩,h3,L,h4,h5⟩,ab,U⟩=>?_
 have al:LeavesInM Fence.wide 0 P fn a.tmps (fun e w'=>∃v L',e=.returned v/\ar γ κ [] L' w'/\SR (MA κ.M [] L') L' w' (.t (.bool b)) v) a.defers .returning w':=by
  rw[n2];refine yN Ds w' n1 n3 fun ao Z=>?_;obtain⟨v,hv,ag⟩:=zQ (h4.lq Z) (fun t=>(h5 t).lq Z) ab ad;obtain⟨L',y,f2⟩:=yk (h4.lq Z) (fun j u hj=>by cases hj) U ag;refine⟨v,hv,v,κ.L,rfl,I.later ⟨y.os,y.tape,y.output,y.size,fun k hk=>y.kept k hk fun h=>h⟩,?_⟩
  cases f2 with
  |t _ _ h=>cases h;exact .t _ _ (.bool b)
 rcases ho with rfl|rfl <;>exact al
end
section
variable {P:Program} {γ:Glob} {κ:Ctx} {fr:Fr} {L:Ls} {w:World}
def ar.vF(hC:ar γ κ fr L w){i r:Nat}{G:List AV}{z:List SV}{v:Array MapEntry}{y:Nat}(hi:fr[i]?=some (.map false G z))(h1:L i=some (.map (some r)))(h2:w.heap[r]?=some (.map v y)):
  v.size=G.length/\v.size=z.length/\(∀(j:Nat) (x:AV) (u:MapEntry),G[j]?=some x->v[j]?=some u->VR (MA κ.M fr L) w x u.key)/\(∀(j:Nat) (x:SV) (u:MapEntry),z[j]?=some x->v[j]?=some u->SR (MA κ.M fr L) L w x u.val)/\gS v y:=by
 obtain⟨r',I,D,U,V,h3,h4,Z,h6,J⟩:=hC.blk i _ hi;rw[h1]at U;cases U;rw[h2]at V;cases V;exact⟨h3,h4,Z,h6,J⟩
theorem ar.erase(hC:ar γ κ fr L w){i j r:Nat}{V:List AV}{G:List SV}{y:Array MapEntry}{v:Nat}(hi:fr[i]?=some (.map false V G))(h1:L i=some (.map (some r)))(h2:w.heap[r]?=some (.map y v)):
  ar γ κ (fr.set i (.map false (V.eraseIdx j) (G.eraseIdx j))) L (fc w r (.map (y.eraseIdxIfInBounds j) v))/\Tr κ.M fr L w (fr.set i (.map false (V.eraseIdx j) (G.eraseIdx j))) L (fc w r (.map (y.eraseIdxIfInBounds j) v)) []:=by
 obtain⟨h3,h4,h5,h6,Z⟩:=hC.vF hi h1 h2;have I:=(Array.getElem?_eq_some_iff.1 h2).1
 have:=hC.nU (w':=fc w r (.map (y.eraseIdxIfInBounds j) v)) (ks:=[]) (v':=.map (some r)) (lb':=.map false (V.eraseIdx j) (G.eraseIdx j)) hi rfl h1 (Ak w r _) (.inl rfl) (fun b hb=>by cases hb;simp[fc];exact I) (.inl rfl) (fun _=>rfl) fun J=>⟨r,_,v,cb,wm I,by rw[<- Array.length_toList,rU,List.length_eraseIdx,List.length_eraseIdx];simp[h3],by rw[<- Array.length_toList,rU,List.length_eraseIdx,List.length_eraseIdx];simp[h4],fun q x u D z=>by
  have D:=xZ D;have z:=xY z;by_cases U:q <j
  ·rw[if_pos U]at D z;exact J.vr (h5 _ x u D z)
  ·rw[if_neg U]at D z;exact J.vr (h5 _ x u D z),fun q x u D z=>by
  rw[ur h1]at J⊢;have D:=xZ D;have z:=xY z;by_cases U:q <j
  ·rw[if_pos U]at D z;exact J.sr (h6 _ x u D z)
  ·rw[if_neg U]at D z;exact J.sr (h6 _ x u D z),Z.erase j⟩
 rw[ur h1]at this;exact this
def N6(hC:ar γ κ fr L w){i j r t u e ty:Nat}{d:TypeDesc}{k:Value}{ka:AV}{I:List AV}{Z:List SV}{y:Array MapEntry}{v:Nat}(ht:nx P t=some (e,d))(hi:fr[i]?=some (.map false I Z))(h1:L i=some (.map (some r)))(h2:w.heap[r]?=some (.map y v))(U:VR (MA κ.M fr L) w ka k)(hf:dW d ka I 0=some (some j)):
  (Builtin.delete_ #[t,u] ty #[.map (some r),k]).run P w=.ok (.tuple #[]) (fc w r (.map (y.eraseIdxIfInBounds j) v)):=by
 obtain⟨kt,V,D,hl⟩:=yV ht;obtain⟨h3,h4,h5,h6,ag⟩:=hC.vF hi h1 h2;have hg:(getObj r).run P w=.ok (.map y v) w:=by simp[getObj,Sem.run,h2]
 have z:∀(J:Array MapEntry) (c:Nat),(setObj r (.map J c)).run P w=.ok () (fc w r (.map J c)):=fun J c=>by simp[setObj,Sem.run,h2,fc]
 rcases qO U I y.toList 0 _ (by simpa using h3.symm) (fun j x e hx he=>h5 j x e hx (by simpa using he)) hf with⟨G,_⟩|⟨j',e',G,h8,h9,x0,ab,ad⟩
 ·cases G
 ·rw[Nat.zero_add]at G h9;cases G;unfold Builtin.delete_;simp only[List.getElem?_toArray,List.getElem?_cons_zero,List.getElem?_cons_succ,Sem.run_bind,run_underlying V,Result.andThen_ok,hg,run_checkKey D hl,run_findKey D h9,z,Sem.run_pure]
end
def KU{u:Array MapEntry}{v:Array Nat}(h:(leftOf u v).size=0){e:MapEntry}(he:e∈u.toList):v.contains e.born=true:=all_seen u v h e he
set_option maxRecDepth 100000
structure iu (w0 w:World) (es:List AV) (v:Value) (T:TypeId) (us ts:List Value):Prop where
 row:cm w T 1 v es.length us
 len:es.length<=140737488351232
 tl:ts.length=es.length
 el:∀(j:Nat) (x:AV) (u t:Value),es[j]?=some x->us[j]?=some u->ts[j]?=some t->OV w x u t
 new:∀(j:Nat) (t:Value) (b:Nat),ts[j]?=some t->Bk t b->w0.heap.size<=b/\bv v≠some b
 dis:∀(j k:Nat) (t t':Value) (b:Nat),ts[j]?=some t->ts[k]?=some t'->Bk t b->Bk t' b->j=k
 qe:∀b,bv v=some b->w0.heap.size<=b
def iu.nil(w0 w:World)(a:Option Addr):iu w0 w [] (.slice a 0 0) 0 [] [] where
 row:=.inl ⟨rfl,rfl,a,rfl⟩
 len:=by simp
 tl:=rfl
 el:=fun j x u t h=>by simp at h
 new:=fun j t b h=>by simp at h
 dis:=fun j k t v b h=>by simp at h
 qe:=fun b h=>by cases a <;>cases h
def NP{w:World}{T:TypeId}{sz n b:Nat}{v:Value}{us:List Value}(h:cm w T sz v n us)(hb:bv v=some b):b <w.heap.size:=by
 rcases h with⟨_,_,a,rfl⟩|h
 ·cases a <;>cases hb
 ·rcases h.2 with⟨rfl,_⟩|⟨g,cap,u,rfl,_,y,_⟩
  ·cases hb
  ·cases cap with
   |zero=>cases hb
   |succ c=>cases hb;exact(Array.getElem?_eq_some_iff.1 y).1
def iu.later{w0 w w':World}{es:List AV}{v:Value}{T:TypeId}{us z:List Value}(h:iu w0 w es v T us z)(hb:Below w.heap.size w w'):iu w0 w' es v T us z where
 row:=h.row.below hb
 len:=h.len
 tl:=h.tl
 el:=fun j x u t h1 h2 h3=>(h.el j x u t h1 h2 h3).same fun b y=>hb.block b ((h.el j x u t h1 h2 h3).lt b y).1
 new:=h.new
 dis:=h.dis
 qe:=h.qe
def iu.fZ{w0 w w1 w2 w3:World}{es:List AV}{v v' u t:Value}{T T':TypeId}{us ts:List Value}{x:AV}(h:iu w0 w es v T us ts)(av:w0.heap.size<=w.heap.size)(h1:Below w.heap.size w w1)(hx:OV w1 x u t)(I:∀b,Bk t b->w.heap.size<=b)(h2:Below w1.heap.size w1 w2)
  (hr:cm w3 T' 1 v' (es.length+1) (us++[u]))(hl:es.length+1<=140737488351232)(hg:w2.grownBy w3 (bv v))(hv:bv v'=bv v\/bv v'=some w2.heap.size\/bv v'=none):iu w0 w3 (es++[x]) v' T' (us++[u]) (ts++[t]):=by
 have ap:∀b,bv v=some b->b <w.heap.size:=fun b D=>NP h.row D;have al:us.length=es.length:=by have:=h.row.len;rwa[Nat.mul_one]at this
 have ab:∀(j:Nat) (y:AV) (z s:Value),es[j]?=some y->us[j]?=some z->ts[j]?=some s->∀b,Bk s b->b <w.heap.size:=fun j y z s U V e3 b D=>((h.el j y z s U V e3).lt b D).1
 have ag:∀(j:Nat) (s:Value),ts[j]?=some s->∀b,Bk s b->b <w.heap.size:=fun j s e b D=>by
  have J:=aC e;exact ab j _ _ s (List.getElem?_eq_getElem (by rw[<- h.tl];exact J)) (List.getElem?_eq_getElem (by rw[al,<- h.tl];exact J)) e b D
 have au:=fun b D=>(hx.lt b D).1;have ax:=h2.size;have aA:=h1.size
 have an:∀b,bv v'=some b->b <w.heap.size/\bv v=some b\/b=w2.heap.size:=fun b D=>by
  rcases hv with e|e|e
  ·rw[e]at D;exact .inl ⟨ap b D,D⟩
  ·rw[e]at D;cases D;exact .inr rfl
  ·rw[e]at D;cases D
 have G:∀(j:Nat) (s:Value),(ts++[t])[j]?=some s->(j <ts.length/\ts[j]?=some s)\/(j=ts.length/\s=t):=fun j s e=>by
  rw[List.getElem?_append]at e;split at e
  ·rename_i J;exact .inl ⟨J,e⟩
  ·rename_i J;have:=aC e;simp at this;have:j=ts.length:=by omega
   subst this;rw[Nat.sub_self]at e;cases e;exact .inr ⟨rfl,rfl⟩
 refine⟨by rw[List.length_append];exact hr,by rw[List.length_append];exact hl,by simp[h.tl],fun j y z s U V e3=>?_,fun j s b e D=>?_,fun j k s s' b U V D Z=>?_,fun b D=>?_⟩
 ·rcases G j s e3 with⟨J,e3⟩|⟨rfl,rfl⟩
  ·rw[List.getElem?_append_left (by rw[<- h.tl];exact J)]at U;rw[List.getElem?_append_left (by rw[al,<- h.tl];exact J)]at V;refine(h.el j y z s U V e3).same fun b D=>?_;have ad:=ab j y z s U V e3 b D;rw[hg.block b (by omega) fun e=>(h.new j s b e3 D).2 e.symm,h2.block b (by omega),h1.block b ad]
  ·rw[h.tl,List.getElem?_append_right (Nat.le_refl _),Nat.sub_self]at U;rw[h.tl,<- al,List.getElem?_append_right (Nat.le_refl _),Nat.sub_self]at V;cases U;cases V;refine hx.same fun b D=>?_;have ad:=au b D;rw[hg.block b (by omega) fun e=>?_,h2.block b ad];have:=ap b e.symm;have:=I b D;omega
 ·rcases G j s e with⟨J,e⟩|⟨rfl,rfl⟩
  ·refine⟨(h.new j s b e D).1,fun e'=>?_⟩;rcases an b e' with⟨_,ao⟩|rfl
   ·exact(h.new j s b e D).2 ao
   ·have:=ag j s e _ D;omega
  ·refine⟨Nat.le_trans av (I b D),fun e'=>?_⟩;have h3:=I b D;have h4:=au b D;rcases an b e' with⟨ao,_⟩|rfl
   ·omega
   ·omega
 ·rcases G j s U with⟨J,f1⟩|⟨J,f1⟩<;>rcases G k s' V with⟨hk,f2⟩|⟨hk,f2⟩
  ·exact h.dis j k s s' b f1 f2 D Z
  ·have:=ag j s f1 b D;rw[f2]at Z;have:=I b Z;omega
  ·have:=ag k s' f2 b Z;rw[f1]at D;have:=I b D;omega
  ·omega
 ·rcases an b D with⟨_,e⟩|rfl
  ·exact h.qe b e
  ·have:=h1.size;omega
def iu.ov{w0 w:World}{es:List AV}{v:Value}{T:TypeId}{us ts:List Value}(h:iu w0 w es v T us ts):∃t,OV w (.arr (es.map fun x=>[x])) v t/\∀b,Bk t b->w0.heap.size<=b:=by
 have u:es.length=0->(∃a,v=.slice a 0 0)->∃t,OV w (.arr (es.map fun x=>[x])) v t/\∀b,Bk t b->w0.heap.size<=b:=fun D ⟨a,hv⟩=>by
  obtain rfl:=List.eq_nil_of_length_eq_zero D;subst hv;exact⟨_,.bS a,fun b y=>(Bq y).elim⟩
 rcases h.row with⟨D,_,a,e⟩|hr
 ·exact u D ⟨a,e⟩
 ·rcases hr.2 with⟨e,D⟩|⟨g,cap,U,e,_,hg,V,ab,ad,Z⟩
  ·exact u D ⟨none,by rw[e]⟩
  ·rcases Nat.eq_zero_or_pos cap with hc|hc
   ·subst hc;exact u (by omega) ⟨some ⟨g,0,none⟩,by rw[e];congr 1;omega⟩
   ·obtain⟨c,rfl⟩:∃c,cap=c+1:=⟨cap - 1,by omega⟩;have ag:us.length=es.length:=by have:=h.row.len;rwa[Nat.mul_one]at this
    have G:bv v=some g:=by rw[e];rfl
    refine⟨.tuple (v::ts).toArray,?_,fun b y=>?_⟩
    ·rw[e];refine OV.arr g c T U es _ (fun k=>us.getD k undef) ts rfl hg h.tl h.len V (fun k hk=>?_) (fun k x t hx I=>?_) (fun k t I y=>(h.new k t g I y).2 G) h.dis
     ·obtain⟨z,J⟩:=am (xs:=us) (k:=k) (by omega);rw[List.getD_eq_getElem?_getD,J];have h1:=J;rw[<- Z,List.getElem?_take]at h1;split at h1
      ·rw[Array.getElem?_toList]at h1;exact h1
      ·cases h1
     ·have hk:=aC hx;obtain⟨z,J⟩:=am (xs:=us) (k:=k) (by omega);rw[List.getD_eq_getElem?_getD,J];exact h.el k x z t hx J I
    ·rw[e]at y;rcases Bp y with rfl|⟨k,t,I,y⟩
     ·exact h.qe _ G
     ·exact(h.new k t b I y).1
def Kf{w0 w:World}{T:TypeId}{v:Value}{xs:List Int}{us:List Value}(h:cm w T 1 v xs.length us)(hl:xs.length<=140737488351232)(D:∀(k:Nat) (n:Int),xs[k]?=some n->us[k]?=some (.int .i64 n))(hb:∀b,bv v=some b->w0.heap.size<=b):∃t,OV w (.arr (xs.map fun n=>[.int .i64 n])) v t/\∀b,Bk t b->w0.heap.size<=b:=by
 have z:iu w0 w (xs.map fun n=>.int .i64 n) v T us (List.replicate xs.length (.tuple #[])):=by
  refine⟨by rw[List.length_map];exact h,by rw[List.length_map];exact hl,by simp,fun j x u t h1 h2 h3=>?_,fun j t b h1 h2=>?_,fun j k t G b h1 _ h2 _=>?_,hb⟩
  ·rw[List.getElem?_map]at h1
   cases y:xs[j]? with
   |none=>rw[y]at h1;cases h1
   |some n=>
    rw[y]at h1;cases h1;rw[D j n y]at h2;cases h2;rw[List.getElem?_replicate]at h3;split at h3
    ·cases h3;exact .int _ _
    ·cases h3
  ·rw[List.getElem?_replicate]at h1;split at h1
   ·cases h1;exact(xw h2).elim
   ·cases h1
  ·rw[List.getElem?_replicate]at h1;split at h1
   ·cases h1;exact(xw h2).elim
   ·cases h1
 obtain⟨t,h1,h2⟩:=z.ov;rw[List.map_map]at h1;exact⟨t,h1,h2⟩
set_option maxHeartbeats 8000000
def JP{P:Program}{f:Nat}{fn:Func}{c:Code}{us:Array Value}{w:World}{R:Ending->World->Prop}(u:P.funcs[f]?=some fn)(hb:fn.body=some c)
  (walk:c.wpIn (Fw none) 0 P (fun e a w'=>(e=.normal\/e=.ret)/\a.defers=[]/\∃v,(results fn a.tmps).run P w'=.ok v w'/\R (.returned v) w') {tmps:=us++Array.replicate (fn.ntmps - us.size) undef,defers:=[]} w):Calls P f us w R:=by
 refine callsIn_wide.1 (callsIn_of_wp_marks (F:=Fence.wide) (n:=0) u hb trivial ?_);refine wpIn_mono walk fun I a w' ⟨D,hd,v,G,z⟩=>?_
 have y:LeavesInM Fence.wide 0 P fn a.tmps R a.defers .returning w':=by
  rw[hd];exact⟨v,G,z⟩
 rcases D with rfl|rfl <;>exact y
structure Sl (n:Nat) (kp:List (Nat×Value)) (a:Act):Prop where
 sz:a.tmps.size=n
 df:a.defers=[]
 kp:Kp kp a
def bQ(kp:List (Nat×Value))(d:Nat)(v:Value):List (Nat×Value):=(d,v)::kp.filter fun p=>decide (p.1≠d)
def Sl.start{us:Array Value}{n m:Nat}{kp:List (Nat×Value)}(hm:us.size+m=n)(h:∀p∈kp,us[p.1]?=some p.2):Sl n kp {tmps:=us++Array.replicate m undef,defers:=[]}:=⟨by simp[hm],rfl,fun p v=>by
 have h1:=h p v;have u:=(Array.getElem?_eq_some_iff.1 h1).1;show(us++Array.replicate m undef).getD p.1 undef=p.2
 rw[Array.getD_eq_getD_getElem?,Array.getElem?_append_left u,h1];rfl⟩
def Sl.at{n t:Nat}{kp:List (Nat×Value)}{a:Act}{v:Value}(h:Sl n kp a)(hm:(t,v)∈kp):a.eval (.tmp t)=v:=h.kp (t,v) hm
theorem Sl.put{n d:Nat}{kp:List (Nat×Value)}{a:Act}{v:Value}(h:Sl n kp a)(hd:d <n):Sl n (bQ kp d v) (a.put (some d) v):=by
 refine⟨by rw[bR];exact h.sz,by rw[put_defers];exact h.df,fun p hp=>?_⟩;unfold bQ at hp;rcases List.mem_cons.1 hp with rfl|hp
 ·exact fx (by rw[h.sz];exact hd)
 ·rw[List.mem_filter]at hp;rw[cg (by intro e;cases e;simp at hp)];exact h.kp p hp.1
def Sl.sub{n:Nat}{kp kp':List (Nat×Value)}{a:Act}(h:Sl n kp a)(hs:∀p∈kp',p∈kp):Sl n kp' a:=⟨h.sz,h.df,fun p u=>h.kp p (hs p u)⟩
def cD{P:Program}{dn n d:Nat}{ops:Array Oper}{Q:Exit->Act->World->Prop}{a:Act}{w w':World}{o:Oper}{l:List Oper}{v:Value}{kp:List (Nat×Value)}(hk:Sl n kp a)(hg:o.guard=none)(hd:o.dst=some d)(u:d <n)(h:(execOp a.eval o).run P w=.ok (.value v) w')(K:∀y,Sl n (bQ kp d v) y->wpListIn (Fw none) dn P ops Q l y w'):wpListIn (Fw none) dn P ops Q (o::l) a w:=
 jh hg h (by rw[hd];exact K _ (hk.put u))
def lw{P:Program}{a:Act}{w:World}{v:Value}{x:Operand}{o:Oper}(ho:o.op=.move x)(hx:a.eval x=v):(execOp a.eval o).run P w=.ok (.value v) w:=by
 cases o;cases ho;subst hx;rfl
def n_{P:Program}{a:Act}{w:World}{v:Value}{x:Operand}{o:Oper}(ho:o.op=.assign x)(hx:a.eval x=v):(execOp a.eval o).run P w=.ok (.value v) w:=by
 cases o;cases ho;subst hx;rfl
def Cr{P:Program}{a:Act}{w:World}{v:Value}{t:Nat}{x:Operand}{o:Oper}{p:Value}(ho:o.op=.load t x)(hx:a.eval x=p)(h:(Instr.loadAt t p).run P w=.ok v w):(execOp a.eval o).run P w=.ok (.value v) w:=by
 cases o;cases ho;subst hx;exact fJ rfl h
def Cp{P:Program}{a:Act}{w:World}{v:Value}{t:Nat}{x y:Operand}{o:Oper}{p q:Value}(ho:o.op=.indexAddr t x y)(hx:a.eval x=p)(hy:a.eval y=q)(h:(Instr.indexAt t p q).run P w=.ok v w):(execOp a.eval o).run P w=.ok (.value v) w:=by
 cases o;cases ho;subst hx hy;exact fJ rfl h
def Cq{P:Program}{a:Act}{w:World}{t:Nat}{x:Operand}{o:Oper}{q:Option Addr}{n c e:Nat}(ho:o.op=.call ⟨.builtin .len,#[x],#[t]⟩)(ht:P.underlying t=some (.slice e))(hx:a.eval x=.slice q n c):(execOp a.eval o).run P w=.ok (.value (.int .i64 n)) w:=by
 cases o;cases ho;refine fJ N4 ?_;simp[Sem.run_bind,Sem.run_pure,hx,invoke,builtin,Builtin.len_,run_underlying ht,pure,Sem.run,goInt]
def Co{P:Program}{a:Act}{w:World}{t u:Nat}{b:BinOp}{x y:Operand}{o:Oper}{m n:Int}{z:AV}(ho:o.op=.binOp b t x y u)(hx:a.eval x=.int .i64 m)(hy:a.eval y=.int .i64 n)(h:lA b .i64 m n=some z):∃r,(execOp a.eval o).run P w=.ok (.value r) w/\VR (fun _=>True) w z r:=by
 cases o;cases ho;obtain⟨r,h1,h2⟩:=Bo (P:=P) (b:=b) (t:=t) (x:=x) (y:=y) (s:=.t (.int .i64 m)) (s':=.t (.int .i64 n)) (z:=z) (u:=a.eval x) (v:=a.eval y) (A:=fun _=>True) (L:=fun _=>none) (w:=w) (by unfold iw;simp only[if_true];exact h) (by rw[hx];exact .t _ _ (.int _ _)) (by rw[hy];exact .t _ _ (.int _ _));exact⟨r,fJ rfl h1,h2⟩
def Cs{P:Program}{a:Act}{w:World}{t u:Nat}{x y:Operand}{o:Oper}{m n:Int}{b:Bool}(ho:o.op=.binOp .lss t x y u)(hx:a.eval x=.int .i64 m)(hy:a.eval y=.int .i64 n)(hb:decide (m <n)=b):(execOp a.eval o).run P w=.ok (.value (.bool b)) w:=by
 obtain⟨r,h1,h2⟩:=Co (P:=P) (w:=w) (z:=.bool b) ho hx hy (by rw[<- hb];rfl);cases h2;exact h1
def Ck{P:Program}{a:Act}{w:World}{t u:Nat}{x y:Operand}{o:Oper}{m n r:Int}(ho:o.op=.binOp .add t x y u)(hx:a.eval x=.int .i64 m)(hy:a.eval y=.int .i64 n)(hr:m+n=r)(hb : -9223372036854775808<=r/\r<=9223372036854775807):(execOp a.eval o).run P w=.ok (.value (.int .i64 r)) w:=by
 obtain⟨v,h1,h2⟩:=Co (P:=P) (w:=w) (z:=.int .i64 r) ho hx hy (by subst hr;show some (AV.int .i64 (IntKind.i64.wrap (m+n)))=_;rw[IntWalk.i64_in _ hb]);cases h2;exact h1
def Cm{P:Program}{a:Act}{w w':World}{t:Nat}{x y:Operand}{o:Oper}{p q v:Value}(ho:o.op=.call ⟨.builtin .append,#[x,y],#[t,t]⟩)(hx:a.eval x=p)(hy:a.eval y=q)(h:(Builtin.append_ #[t,t] o.type #[p,q]).run P w=.ok v w'):(execOp a.eval o).run P w=.ok (.value v) w':=by
 cases o;cases ho;subst hx hy;exact Q9 rfl rfl h
def Qw{P:Program}{dn n d:Nat}{ops:Array Oper}{Q:Exit->Act->World->Prop}{a:Act}{w:World}{o:Oper}{l:List Oper}{kp:List (Nat×Value)}{f:Nat}{x:Operand}{u:Value}{tys:Array TypeId}{R:Value->World->Prop}(hk:Sl n kp a)(hg:o.guard=none)(hd:o.dst=some d)(y:d <n)(ho:o.op=.call ⟨.value (.func f),#[x],tys⟩)(hx:a.eval x=u)(hf:gR P f)(hc:Calls P f #[u] w fun e w'=>∃v,e=.returned v/\R v w')(K:∀z v w',R v w'->Sl n (bQ kp d v) z->wpListIn (Fw none) dn P ops Q l z w'):wpListIn (Fw none) dn P ops Q (o::l) a w:=by
 refine AN hg (cN.wpIn (R:=R) ?_ fun v w' D=>by rw[hd];exact K _ v w' D (hk.put y));obtain⟨dst,op,ty,pos,after,g⟩:=o;cases ho;subst hx
 have G:(execOp a.eval ⟨dst,.call ⟨.value (.func f),#[x],tys⟩,ty,pos,after,g⟩).run P w=.ok (.enter f #[a.eval x]) w:=by
  have:(execOp a.eval ⟨dst,.call ⟨.value (.func f),#[x],tys⟩,ty,pos,after,g⟩).run P w=(callFunc f #[a.eval x]).run P w:=by
   simp[execOp,resolve,invoke,Sem.run_bind,Sem.run_pure,Act.eval]
   try rfl
  rw[this];exact z7 hf _ w
 unfold cN;rw[G];exact hc
def Ct{P:Program}{a:Act}{w:World}{t e v:Nat}{x:Operand}{o:Oper}{u:Value}(ho:o.op=.buildSlice t 1 #[(0,x)])(ht:eQ P t=some (e,1,v))(hx:a.eval x=u)(hp:eB u=true):(execOp a.eval o).run P w=.ok (.value (.slice (some ⟨w.heap.size,0,none⟩) 1 1)) (w.alloc (.cells #[u] e)):=by
 obtain⟨i,z,Z,J,hz,hs,_,ab,y⟩:=rH ht;obtain⟨dst,op,ty,pos,after,g⟩:=o;cases ho;have G:=Ey hp;have I:execOp a.eval ⟨dst,.buildSlice t 1 #[(0,x)],ty,pos,after,g⟩=(do pure (.value (<- Instr.buildSlice t 1 ((#[(0,x)]:Array (Nat×Operand)).map fun(i,x)=>(i,a.eval x))))):=rfl;refine fJ I ?_;have U:((#[(0,x)]:Array (Nat×Operand)).map fun(i,x)=>(i,a.eval x))=#[(0,u)]:=by rw[<- hx];simp
 rw[U];refine run_buildSlice w t e 1 #[(0,u)] #[u] i z Z J hz (by rw[hs];decide) (by rw[hs];decide) ?_;rw[hs]
 have V:(Array.range (1*1)).map (fun k=>z.cells[k %z.cells.size]!)=#[z.cells[0 %z.cells.size]!]:=by
  have D:Array.range (1*1)=#[0]:=rfl;rw[D];simp
 rw[V];simp[Instr.fill,G]
def Rk{P:Program}{a:Act}{w:World}{t e sz u:Nat}{o:Oper}(ho:o.op=.buildSlice t 0 #[])(ht:eQ P t=some (e,sz,u)):(execOp a.eval o).run P w=.ok (.value (.slice (some ⟨w.heap.size,0,none⟩) 0 0)) (w.alloc (.cells #[] e)):=by
 obtain⟨i,z,I,G,V,hs,U,J,y⟩:=rH ht;obtain⟨dst,op,ty,pos,after,g⟩:=o;cases ho
 have v:(Instr.buildSlice t 0 #[]).run P w=.ok (.slice (some ⟨w.heap.size,0,none⟩) 0 0) (w.alloc (.cells #[] e)):=by
  unfold Instr.buildSlice;simp[run_underlying I,jO G,Sem.run_bind,Instr.fill,newRow,newObj,pure,Sem.run];congr 2;apply Array.ext
  ·simp
  ·intro k h1 _;simp at h1
 have D:execOp a.eval ⟨dst,.buildSlice t 0 #[],ty,pos,after,g⟩=(do pure (.value (<- Instr.buildSlice t 0 ((#[]:Array (Nat×Operand)).map fun(i,x)=>(i,a.eval x))))):=rfl;exact fJ D (by rw[Array.map_empty];exact v)
def Q7{P:Program}{a:Act}{w w':World}{t n b u:Nat}{z:Bool}{x y:Operand}{o:Oper}{v:Value}(ho:o.op=.store t x y)(ht:bn P t=some (z,n))(hx:a.eval x=.pointer (some ⟨b,u,none⟩))(hy:a.eval y=v)(hn:v.cells.size=n)(hs:(storeCells ⟨b,u,none⟩ v.cells.toList).run P w=.ok () w'):(execOp a.eval o).run P w=.ok .skip w':=by
 cases o;cases ho;subst hy;simp[execOp,Instr.storeAt,hx,Instr.sureAddr,storeVar,Sem.run_bind,(tM ht w).2,hn,hs,pure,Sem.run]
def Sl.skip{n:Nat}{kp:List (Nat×Value)}{a:Act}{v:Value}(h:Sl n kp a):Sl n kp (a.put none v):=h
def SF{P:Program}{dn n:Nat}{ops:Array Oper}{Q:Exit->Act->World->Prop}{a:Act}{w w':World}{o:Oper}{l:List Oper}{kp:List (Nat×Value)}(hk:Sl n kp a)(hg:o.guard=none)(hd:o.dst=none)(h:(execOp a.eval o).run P w=.ok .skip w')(K:∀u,Sl n kp u->wpListIn (Fw none) dn P ops Q l u w'):wpListIn (Fw none) dn P ops Q (o::l) a w:=
 AN hg (cN.wpIn (R:=fun x y=>y=w') (by unfold cN;rw[h]) fun x y h2=>by subst h2;rw[hd];exact K _ hk)
def RT(ops:Array Oper)(m n:Nat)(ks:List Nat)(i:Nat)(o:Oper):Bool:=match Nat.beq i m with
 |true=>(List.range m).all fun j=>o.after.any fun e=>Nat.beq e.on j&&Region.binds .any e
 |false=>match o.dst with
  |none=>false
  |some d=>Nat.blt d n&&((ks.all fun k=>!Nat.beq k d)&&((List.range m).all fun j=>Nat.beq i j ||(match ops[j]? with
   |some v=>(match v.dst with|some u=>!Nat.beq u d|none=>true)
   |none=>true)))
def Ra(ops:Array Oper)(m n:Nat)(ks:List Nat):Bool:=Nat.beq ops.size (m+1)&&((List.range (m+1)).all fun i=>match ops[i]? with
 |none=>false
 |some o=>o.guard.isNone&&(o.after.all (fun e=>Nat.blt e.on i)&&RT ops m n ks i o))
def Sq{ops:Array Oper}{m n:Nat}{ks:List Nat}(h:Ra ops m n ks=true):ops.size=m+1/\∀i o,ops[i]?=some o->o.guard=none/\(∀e∈o.after,e.on <i)/\(i=m->∀j,j <m->∃e∈o.after,e.on=j/\Region.binds .any e=true)/\(i≠m->∃d,o.dst=some d/\d <n/\d∉ks/\∀j oj v,j <m->i≠j->ops[j]?=some oj->oj.dst=some v->v≠d):=by
 unfold Ra at h;rw[Bool.and_eq_true,Nat.beq_eq,List.all_eq_true]at h;obtain⟨h1,h2⟩:=h;refine⟨h1,fun i o ho=>?_⟩;have hi:i <m+1:=by rw[<- h1];exact(Array.getElem?_eq_some_iff.1 ho).1
 have h3:=h2 i (List.mem_range.2 hi);rw[ho]at h3;simp only[Bool.and_eq_true]at h3;obtain⟨h4,h5,u⟩:=h3;unfold RT at u
 refine⟨by simpa using h4,fun e G=>by
  have:=Array.all_eq_true.1 h5;obtain⟨k,V,rfl⟩:=Array.mem_iff_getElem.1 G;simpa using this k V,fun J j U=>?_,fun Z=>?_⟩
 ·rw[J]at u;simp only[Nat.beq_refl,List.all_eq_true]at u;have:=u j (List.mem_range.2 U);obtain⟨e,G,y⟩:=Array.any_eq_true'.1 this;rw[Bool.and_eq_true,Nat.beq_eq]at y;exact⟨e,G,y.1,y.2⟩
 ·have z:Nat.beq i m=false:=by rw[<- Bool.not_eq_true,Nat.beq_eq];exact Z
  rw[z]at u;simp only at u
  cases hd:o.dst with
  |none=>rw[hd]at u;cases u
  |some d=>
   rw[hd]at u;simp only[Bool.and_eq_true,List.all_eq_true]at u;obtain⟨h7,h8,h9⟩:=u;refine⟨d,rfl,by simpa using h7,fun V=>?_,fun j oj v U I ab D=>?_⟩
   ·have:=h8 d V;simp at this
   ·have:=h9 j (List.mem_range.2 U);rw[ab]at this;simp only[D,Bool.or_eq_true,Nat.beq_eq]at this;rcases this with h|h
    ·exact absurd h I
    ·intro e;subst e;simp at h
structure QM (ops:Array Oper) (m n:Nat) (kp:List (Nat×Value)) (val:Nat->Value) (listed:Array Bool) (a:Act):Prop where
 sl:Sl n kp a
 sz:listed.size=ops.size
 last:listed.getD m true=false
 done:∀i o d,i <m->ops[i]?=some o->o.dst=some d->listed.getD i true=true->a.eval (.tmp d)=val i
end Go.Proofs.YtcgdbhlnkificaaGreatDoor
