/- The tree evaluator,21b: rules for loops over functions. No condition. -/
import Derived.Test.YtgbfedgghjcdcaaGreatDoorTC
set_option linter.all false
namespace Go.Proofs.YtgbfedgghjcdcaaGreatDoor
open Go.RowKit
def fg(g:Cfg)(f:Nat)(u:List Nat)(asg body:Code)(wh:Bool)(yss:List (List AV))(env:Env)(fr:Fr)(K:Out->Env->Fr->Prop):Prop:=∃n o e r,iB (g.lv f (ck body)) (ba g f (b9 g n) (cN g n) asg) (ba g f (b9 g n) (cN g n) body) u wh yss env fr=some (o,e,r)/\K o e r
def gZ(g:Cfg)(f:Nat)(u:List Nat)(asg body:Code)(y:List AV)(env:Env)(fr:Fr)(K:Out->Env->Fr->Prop):Prop:=∃n o e r,iZ (g.lv f (ck body)) (ba g f (b9 g n) (cN g n) asg) (ba g f (b9 g n) (cN g n) body) u y env fr=some (o,e,r)/\K o e r
def zB(lv:Option (List Nat))(env:Env)(fr:Fr)(K:Out->Env->Fr->Prop):Out->Env->Fr->Prop:=fun o _ u=>kindOk (List.range fr.length) u fr=true/\match o with
 | .normal=>K .normal (head lv fr.length (cF (cA (List.range fr.length) u) env) (back (List.range fr.length) fr u)).1 (head lv fr.length (cF (cA (List.range fr.length) u) env) (back (List.range fr.length) fr u)).2
 |o=>K o (cF (cA (List.range fr.length) u) env) (back (List.range fr.length) fr u)
section
variable {g:Cfg} {f:Nat} {asg body:Code} {env:Env} {fr:Fr} {K:Out->Env->Fr->Prop}
def aa.range{op:Operand}{v:Array Tmp}{u:Nat}{bs:List SV}{cs:List AV}{yss:List (List AV)}{wh:Bool}(h1:c8 (rd env op)=some (u,[],bs))(h2:bZ fr bs=some cs)(h3:g.seq u cs=some (yss,wh)){fr1:Fr}(h4:freeze fr (bg fr bs)=fr1)(h:fg g f v.toList asg body wh yss env fr1 K):aa g f (.rangeFunc op v asg body) env fr K:=by
 obtain⟨n,o,e,r,y,z⟩:=h;refine⟨n,o,e,r,?_,z⟩;unfold ba;simp only[h1,h2,h3,h4];exact y
def fg.nil{u:List Nat}(h:K .normal env fr):fg g f u asg body true [] env fr K:=⟨0,.normal,env,fr,rfl,h⟩
def fg.cons{u:List Nat}{wh:Bool}{y:List AV}{v:List (List AV)}(h:gZ g f u asg body y env fr (gW (fun e r=>fg g f u asg body wh v e r K) K)):fg g f u asg body wh (y::v) env fr K:=by
 obtain⟨n,o,e,r,h1,h2⟩:=h
 cases o with
 |normal=>
  obtain⟨m,o,z,D,h3,h4⟩:=h2;refine⟨max n m,o,z,D,?_,h4⟩;unfold iB;rw[vm (fun e r x q=>gG (df (Nat.le_max_left n m)) (jG (Nat.le_max_left n m)) _ e r x q) (fun e r x q=>gG (df (Nat.le_max_left n m)) (jG (Nat.le_max_left n m)) _ e r x q) h1];exact vn (fun e r x q=>gG (df (Nat.le_max_right n m)) (jG (Nat.le_max_right n m)) _ e r x q) (fun e r x q=>gG (df (Nat.le_max_right n m)) (jG (Nat.le_max_right n m)) _ e r x q) _ _ _ _ h3
 |exit id=>exact⟨n,_,e,r,by unfold iB;rw[h1],h2⟩
 |ret=>exact⟨n,_,e,r,by unfold iB;rw[h1],h2⟩
def gZ.mk{D:List Nat}{y:List AV}{bs:Fr}(hl:Nat.beq y.length D.length=true)(hb:cJ fr (List.range fr.length)=some bs)
  (h:aa g f asg (lh D y fun t=>(env t).sub (aT (List.range fr.length))) (bs.map fun b=>b6 (b.sub (aT (List.range fr.length)))) fun o e r=>o=.normal/\aa g f body e r (zB (g.lv f (ck body)) env fr K)):gZ g f D asg body y env fr K:=by
 obtain⟨n,o,e,r,h1,rfl,m,G,I,J,h3,z,h4⟩:=h;have u:=gG (df (Nat.le_max_left n m)) (jG (Nat.le_max_left n m)) _ _ _ _ h1;have v:=gG (df (Nat.le_max_right n m)) (jG (Nat.le_max_right n m)) _ _ _ _ h3
 cases G with
 |normal=>exact⟨max n m,_,_,_,by unfold iZ;simp only[hl,hb,u,v,z],h4⟩
 |exit id=>exact⟨max n m,_,_,_,by unfold iZ;simp only[hl,hb,u,v,z],h4⟩
 |ret=>exact⟨max n m,_,_,_,by unfold iZ;simp only[hl,hb,u,v,z],h4⟩
end
def fh(kp:List (Nat×Value))(a:Act):Prop:=a.defers=[]/\∀p∈kp,a.tmps.getD p.1 undef=p.2
theorem fh.put{kp:List (Nat×Value)}{a:Act}{d:Option Nat}{v:Value}(h:fh kp a)(hd:∀p∈kp,d≠some p.1):fh kp (a.put d v):=
 ⟨by rw[put_defers];exact h.1,fun p u=>by rw[ec (hd p u)];exact h.2 p u⟩
def FQ{rd:Option Nat}{dn:Nat}{g:Cfg}{γ:Glob}{C:CallF}(hS:c7 g.P γ C){ops:Array Oper}{n:Nat}{κ:Ctx}{Q:Exit->Act->World->Prop}{env':Env}{fr':Fr}{l2:List Oper}{kp:List (Nat×Value)}(U:∀p∈kp,∀o∈ops.toList,o.dst≠some p.1)(D:eG n ops.toList=true)
  (hK:∀L a w,fh kp a->a.tmps.size=n->ar γ κ fr' L w->(∀t,SR (MA κ.M fr' L) L w (env' t) (a.tmps.getD t undef))->wpListIn (Fw rd) dn g.P ops Q l2 a w):
  ∀(l:List Oper) (i:Nat) (env:Env) (fr:Fr) (L:Ls) (a:Act) (w:World),(∀o∈l,o∈ops.toList)->cH g C none ops i l env fr=some (env',fr')->fh kp a->a.tmps.size=n->ar γ κ fr L w->(∀t,SR (MA κ.M fr L) L w (env t) (a.tmps.getD t undef))->wpListIn (Fw rd) dn g.P ops Q (l++l2) a w:=by
 intro l
 induction l with
 |nil=>intro i env fr L a w _ h hd O hC z;cases h;exact hK L a w hd O hC z
 |cons o r ih=>
  intro i env fr L a w hm h hd O hC z;have I:∀k,o.dst=some k->k <a.tmps.size:=fun k hk=>by rw[O];exact gD D (hm o (by simp)) hk
  have J:∀o'∈r,o'∈ops.toList:=fun o' ak=>hm o' (by simp[ak]);unfold cH at h;rw[List.cons_append];unfold wpListIn;split at h
  ·rename_i hg;rw[if_pos (by simp[Region.wanted,hg])];split at h
   ·rename_i x ag ks Z;refine(fb hS Z κ L a w hC (fun y _=>j4 z y)).wpIn fun v w' ⟨L',hT,G,hv⟩=>?_;exact ih _ _ _ L' _ _ J h (hd.put fun p hp=>U p hp o (hm o (by simp))) (by rw[dz,O]) G (iY (fun t=>hT.env (z t)) hv I)
   ·cases h
  ·rename_i j af hg
   have ad:∀W,db ops env j af=some W->Region.wanted o (yielded ops a.tmps)=W:=fun W hW=>mz hg hW fun d u=>by
    refine⟨z d,?_⟩;rw[O]
    cases V:ops[j]? with
    |none=>rw[V]at u;cases u
    |some oj=>
     rw[V]at u;exact gD D (Array.mem_toList_iff.2 (Array.mem_of_getElem? V)) u
   split at h
   ·cases h
   ·rename_i hW;rw[ad _ hW,if_pos rfl];split at h
    ·rename_i x ag ks Z;refine(fb hS Z κ L a w hC (fun y _=>j4 z y)).wpIn fun v w' ⟨L',hT,G,hv⟩=>?_;exact ih _ _ _ L' _ _ J h (hd.put fun p hp=>U p hp o (hm o (by simp))) (by rw[dz,O]) G (iY (fun t=>hT.env (z t)) (.aN _ _ hv) I)
    ·cases h
   ·rename_i hW;rw[ad _ hW,if_neg (by simp)];refine⟨fun _ _=>trivial,ih _ _ _ L _ _ J h (hd.put fun p hp=>U p hp o (hm o (by simp))) (by rw[dz,O]) hC ?_⟩;exact iY z .no I
def jU(A:Nat->Prop)(X:World)(env:Env)(tm:Array Value):Prop:=∀t,SR (MA A [] fun _=>none) (fun _=>none) X (env t) (tm.getD t undef)
def xM{g:Cfg}{γ:Glob}(hW:Wf g γ){ops:Array Oper}{G l2:List Oper}{n m:Nat}{env env':Env}(Z:ab g none ops 0 G env [] fun e r=>e=env'/\r=[])(z:eG n ops.toList=true)(D:∀o∈G,o∈ops.toList){Q:Exit->Act->World->Prop}{A:Nat->Prop}{X:World}{a:Act}
  (V:ar γ ⟨A,fun _=>False,fun _=>False,X,fun _=>none⟩ [] (fun _=>none) X){kp:List (Nat×Value)}(U:∀p∈kp,∀o∈ops.toList,o.dst≠some p.1)(hd:fh kp a)(hn:a.tmps.size=n)(hV:jU A X env a.tmps)
  (hK:∀(y:Act) (Y:World),fh kp y->y.tmps.size=n->Below X.heap.size X Y->jU A Y env' y.tmps->wpListIn (Fw none) m g.P ops Q l2 y Y):wpListIn (Fw none) m g.P ops Q (G++l2) a X:=by
 obtain⟨k,e,r,h1,rfl,rfl⟩:=Z;refine FQ (κ:=⟨A,fun _=>False,fun _=>False,X,fun _=>none⟩) (sound hW k).1 U z (fun L y Y J O u I=>?_) G 0 env [] _ a X D h1 hd hn V hV
 have hL:L=fun _=>none:=by
  funext i
  cases h:L i with
  |none=>rfl
  |some v=>exact absurd (u.lim i v h) (by simp)
 subst hL;exact hK y Y J O ⟨u.os,u.tape,u.output,u.size,fun k hk=>u.kept k hk fun h=>h⟩ I
def uB{g:Cfg}{γ:Glob}(hW:Wf g γ){l:List Oper}{id n m:Nat}{env env':Env}(D:ab g none l.toArray 0 l env [] fun e r=>e=env'/\r=[])(u:eG n l=true){Q:Exit->Act->World->Prop}{A:Nat->Prop}{X:World}{a:Act}
  (z:ar γ ⟨A,fun _=>False,fun _=>False,X,fun _=>none⟩ [] (fun _=>none) X){kp:List (Nat×Value)}(y:∀p∈kp,∀o∈l,o.dst≠some p.1)(hd:fh kp a)(hn:a.tmps.size=n)(I:jU A X env a.tmps)
  (G:∀(v:Act) (Y:World),fh kp v->v.tmps.size=n->Below X.heap.size X Y->jU A Y env' v.tmps->Q .normal v Y):(Code.region id l.toArray false).wpIn (Fw none) m g.P Q a X:=by
 have:=xM (l2:=[]) (Q:=Q) (m:=m) hW D (by simpa using u) (fun o J=>by simpa using J) z (by simpa using y) hd hn I G;rw[List.append_nil]at this;exact wpIn_region_lit this
def Eo{g:Cfg}{γ:Glob}(hW:Wf g γ){l l2:List Oper}{id n m:Nat}{env env':Env}(k:Nat)(D:ab g none l.toArray 0 (l.take k) env [] fun e r=>e=env'/\r=[])(hl:l.drop k=l2)(u:eG n l=true){Q:Exit->Act->World->Prop}{A:Nat->Prop}{X:World}{a:Act}
  (z:ar γ ⟨A,fun _=>False,fun _=>False,X,fun _=>none⟩ [] (fun _=>none) X){kp:List (Nat×Value)}(y:∀p∈kp,∀o∈l,o.dst≠some p.1)(hd:fh kp a)(hn:a.tmps.size=n)(I:jU A X env a.tmps)
  (G:∀(v:Act) (Y:World),fh kp v->v.tmps.size=n->Below X.heap.size X Y->jU A Y env' v.tmps->wpListIn (Fw none) m g.P l.toArray Q l2 v Y):(Code.region id l.toArray false).wpIn (Fw none) m g.P Q a X:=by
 subst hl;have:=xM (l2:=l.drop k) (Q:=Q) (m:=m) hW D (by simpa using u) (fun o J=>by simpa using List.mem_of_mem_take J) z (by simpa using y) hd hn I G;rw[List.take_append_drop]at this;exact wpIn_region_lit this
def bare(P:Program):Cfg:={P:=P,ok:=fun _=>false,ext:=fun _ _=>none,lv:=fun _ _=>none,own:=fun _ _=>[],eff:=fun _ _=>[],hand:=fun _ _=>false}
def BC{P:Program}{γ:Glob}(h:P.follows .mixedOrders=true):Wf (bare P) γ where
 mixed:=h
 nh:=fun f h=>by cases h
 ext:=fun f xs r fr' h=>by cases h
end Go.Proofs.YtgbfedgghjcdcaaGreatDoor
