/- The code's models,part by part,as contracts:. No condition. -/
import Derived.Test.YtcgdbhlnkificaaGreatDoorTLC
import Derived.Test.YtcgdbhlnkificaaGreatDoorTNF
set_option linter.all false
namespace Go.Proofs.YtcgdbhlnkificaaGreatDoor
open Go.RowKit
set_option maxRecDepth 100000
set_option maxHeartbeats 32000000
def Ko{m:Md}{l:List (Int×Int)}(hv:bJ m.ao m.tables=true)(hm:bx m)(hl:l.length<=100000)(hr:∀r∈l,-1000000<=r.1/\r.1<=1000000):Cl aj 101 [.t (.agg (de m l))] [] (.t (.bool (qF m l))) []:=by
 have a6:=qE m.cons;have bd:=ny m.bH;have bb:=lQ l;have be:=hm.cons;have bi:=hm.bH;have U:=fun(c:Cn) (h:c.row.bt.length<=140737488351232)=>Kt (l:=l) hm hv h;have G:=fun(r:Rw) (h:r.bt.length<=140737488351232)=>C_ (m:=m) (l:=l) h hl;have e0:qF m l=((decide (m.cons.length<=512)&&decide (2*l.length<=m.cons.length))&&aK (lh m l) 0 (m.cons.drop 0)):=rfl;rw[e0];unfold de at U G⊢;refine Cl.ap rfl Tryz.func101 rfl rfl rfl ?_;by_cases h0:m.cons.length<=512/\2*l.length<=m.cons.length
 ·
  rw[decide_eq_true h0.1,decide_eq_true h0.2,Bool.true_and,Bool.true_and];obtain⟨aR,aT⟩:=h0;refine aq ?_;refine az.ind (fun q:Nat=>[(28,.t (.int .i64 (q:Int)))]) (fun q=>q<=m.cons.length/\aK (lh m l) 0 (m.cons.drop 0)=aK (lh m l) q (m.cons.drop q)) (fun q=>m.cons.length - q) 0 rfl ⟨by omega,rfl⟩ (fun q hq=>?_);obtain⟨h1,h2⟩:=hq;rw[h2];rcases Nat.lt_or_ge q m.cons.length with h3|h3
  ·
   obtain⟨c,I⟩:=am h3;have hc:=ph I;have aY:=hm.bt c (List.mem_of_getElem? I);have U:=U c (by omega);have G:=G c.row (by omega);have V:=yZ c.j_ (m.bH.length:Int);have e1:lg c=[.int .i64 c.kind,.int .i64 c.j_,.arr (dU c.row.bt),.int .i64 c.row.jZ,.int .i64 c.first,.int .i64 c.size]:=rfl;have e2:fa c.row=[.arr (dU c.row.bt),.int .i64 c.row.jZ]:=rfl;rw[e1]at U;rw[e2]at G;have y:=dl (p:=lh m l) I;have J:=dm (p:=lh m l) I;obtain⟨bf,al⟩:∃b,(decide (0<=c.j_)&&decide (c.j_ <(m.bH.length:Int)))=b:=⟨_,rfl⟩;obtain⟨rb,aB⟩:∃b,cI l.length c.row=b:=⟨_,rfl⟩;obtain⟨g,hg⟩:∃b,jA m c=b:=⟨_,rfl⟩
   have u:lh m l q c=(bf&&((if c.kind=0 then decide (c.first=0)&&(decide (c.size=0)&&rb)else decide (c.kind=1)&&g)&&(match l[q/2]? with|some r=>decide (c.kind=0)&&decide (c.row=if q %2=0 then nF (q/2) r else pZ (q/2) r)|none=>true))):=by
    unfold lh;rw[al,aB,hg];rfl
   rw[al]at V;rw[aB]at G;rw[hg]at U;have v:((q:Nat):Int).tdiv 2=((q/2:Nat):Int):=rfl;have D:((q:Nat):Int).tmod 2=((q %2:Nat):Int):=rfl
   cases bf with
   |false=>
    rw[y (by rw[u];simp)];exact ah
   |true=>
    rw[Bool.true_and]at u;by_cases hk:c.kind=0
    ·
     rw[if_pos hk,decide_eq_true hk]at u;by_cases ab:(c.first=0/\c.size=0)/\rb=true
     ·
      obtain⟨⟨an,au⟩,Z⟩:=ab;rw[Z]at G;rw[decide_eq_true an,decide_eq_true au,Z]at u;simp only[Bool.and_self,Bool.true_and]at u;rcases Nat.lt_or_ge (q/2) l.length with hi|hi
      ·
       obtain⟨r,z⟩:=am hi;have aG:=Rx z;have aF:=hr r (List.mem_of_getElem? z);rw[z]at u;dsimp only at u;rcases Nat.mod_two_eq_zero_or_one q with hp|hp
       ·
        have ks:=DR (r:=c.row) (c:=((q/2:Nat):Int)) (f := -1) (b:=0 - r.1) (by omega);have e3:(⟨[⟨((q/2:Nat):Int),-1⟩],0 - r.1⟩:Rw)=nF (q/2) r:=by unfold nF;rw[Int.zero_sub]
        rw[e3]at ks;rw[if_pos hp]at u;rw[e2]at ks;have ag:((q %2:Nat):Int)=0:=by omega
        cases hd:decide (c.row=nF (q/2) r)with
        |true=>
         rw[hd]at ks u
         repeat'(first
|(refine a8 ?_)
|(refine aw ?_)
|((with_reducible apply aa.av);(case hW=>exact rfl);(case hx=>first
|((with_reducible apply af.iI);(case hx|hy=>exact rfl);(case hn=>omega);(case h=>exact v);(case hb=>omega))
|(exact ai G)
|(exact ai ks)
|exact ae))
|((with_reducible apply aa.u0);(case hx=>first
|((with_reducible apply af.iI);(case hx|hy=>exact rfl);(case hn=>omega);(case h=>exact v);(case hb=>omega))
|((with_reducible apply af.nE);(case hx|hy=>exact rfl);(case hn=>omega);(case h=>exact D))
|((with_reducible apply af.lK);(case hx=>exact rfl);(case h=>omega))
|(exact ai V)
|exact ae))
|fail)
         exact⟨q+1,rfl,rfl,⟨by omega,J u⟩,by omega⟩
        |false=>
         rw[hd]at ks u;rw[y (by rw[u];decide)]
         repeat'(first
|(refine a8 ?_)
|(refine aw ?_)
|((with_reducible apply aa.av);(case hW=>exact rfl);(case hx=>first
|((with_reducible apply af.iI);(case hx|hy=>exact rfl);(case hn=>omega);(case h=>exact v);(case hb=>omega))
|(exact ai G)
|(exact ai ks)
|exact ae))
|((with_reducible apply aa.u0);(case hx=>first
|((with_reducible apply af.iI);(case hx|hy=>exact rfl);(case hn=>omega);(case h=>exact v);(case hb=>omega))
|((with_reducible apply af.nE);(case hx|hy=>exact rfl);(case hn=>omega);(case h=>exact D))
|((with_reducible apply af.lK);(case hx=>exact rfl);(case h=>omega))
|(exact ai V)
|exact ae))
|fail)
         exact⟨.inr rfl,rfl⟩
       ·
        have ks:=DR (r:=c.row) (c:=((q/2:Nat):Int)) (f:=1) (b:=r.2) (by omega);have e3:(⟨[⟨((q/2:Nat):Int),1⟩],r.2⟩:Rw)=pZ (q/2) r:=rfl;rw[e3]at ks;rw[if_neg (by omega)]at u;rw[e2]at ks;have ag:¬((q %2:Nat):Int)=0:=by omega
        cases hd:decide (c.row=pZ (q/2) r)with
        |true=>
         rw[hd]at ks u
         repeat'(first
|(refine a8 ?_)
|(refine aw ?_)
|((with_reducible apply aa.av);(case hW=>exact rfl);(case hx=>first
|((with_reducible apply af.iI);(case hx|hy=>exact rfl);(case hn=>omega);(case h=>exact v);(case hb=>omega))
|(exact ai G)
|(exact ai ks)
|exact ae))
|((with_reducible apply aa.u0);(case hx=>first
|((with_reducible apply af.iI);(case hx|hy=>exact rfl);(case hn=>omega);(case h=>exact v);(case hb=>omega))
|((with_reducible apply af.nE);(case hx|hy=>exact rfl);(case hn=>omega);(case h=>exact D))
|(exact ai V)
|exact ae))
|fail)
         exact⟨q+1,rfl,rfl,⟨by omega,J u⟩,by omega⟩
        |false=>
         rw[hd]at ks u;rw[y (by rw[u];decide)]
         repeat'(first
|(refine a8 ?_)
|(refine aw ?_)
|((with_reducible apply aa.av);(case hW=>exact rfl);(case hx=>first
|((with_reducible apply af.iI);(case hx|hy=>exact rfl);(case hn=>omega);(case h=>exact v);(case hb=>omega))
|(exact ai G)
|(exact ai ks)
|exact ae))
|((with_reducible apply aa.u0);(case hx=>first
|((with_reducible apply af.iI);(case hx|hy=>exact rfl);(case hn=>omega);(case h=>exact v);(case hb=>omega))
|((with_reducible apply af.nE);(case hx|hy=>exact rfl);(case hn=>omega);(case h=>exact D))
|(exact ai V)
|exact ae))
|fail)
         exact⟨.inr rfl,rfl⟩
      ·
       rw[List.getElem?_eq_none hi]at u
       repeat'(first
|(refine a8 ?_)
|(refine aw ?_)
|((with_reducible apply aa.av);(case hW=>exact rfl);(case hx=>first
|(exact ai G)
|exact ae))
|((with_reducible apply aa.u0);(case hx=>first
|((with_reducible apply af.iI);(case hx|hy=>exact rfl);(case hn=>omega);(case h=>exact v);(case hb=>omega))
|(exact ai V)
|exact ae))
|fail)
       exact⟨q+1,rfl,rfl,⟨by omega,J u⟩,by omega⟩
     ·
      rw[y (by
       rw[u];intro h;rw[Bool.and_eq_true,Bool.and_eq_true,Bool.and_eq_true,decide_eq_true_eq,decide_eq_true_eq]at h;exact ab ⟨⟨h.1.1,h.1.2.1⟩,h.1.2.2⟩)]
      cases rb with
      |false=>
       exact ah
      |true=>
       by_cases aM:c.first=0
       ·
        have a1:¬c.size=0:=fun h=>ab ⟨⟨aM,h⟩,rfl⟩;exact ah
       ·
        exact ah
    ·
     rw[if_neg hk,decide_eq_false hk]at u;by_cases ad:c.kind=1/\g=true
     ·
      obtain⟨ax,aA⟩:=ad;rw[aA]at U;rw[decide_eq_true ax,aA,Bool.true_and,Bool.true_and]at u;rcases Nat.lt_or_ge (q/2) l.length with hi|hi
      ·
       obtain⟨r,z⟩:=am hi;have aG:=Rx z;have aF:=hr r (List.mem_of_getElem? z);rw[z]at u;dsimp only at u;rw[Bool.false_and]at u;rw[y (by rw[u];decide)];rcases Nat.mod_two_eq_zero_or_one q with hp|hp
       ·
        have ag:((q %2:Nat):Int)=0:=by omega
        repeat'(first
|(refine a8 ?_)
|(refine aw ?_)
|((with_reducible apply aa.av);(case hW=>exact rfl);(case hx=>first
|(exact ai U)
|exact ae))
|((with_reducible apply aa.u0);(case hx=>first
|((with_reducible apply af.iI);(case hx|hy=>exact rfl);(case hn=>omega);(case h=>exact v);(case hb=>omega))
|((with_reducible apply af.nE);(case hx|hy=>exact rfl);(case hn=>omega);(case h=>exact D))
|((with_reducible apply af.lK);(case hx=>exact rfl);(case h=>omega))
|(exact ai V)
|exact ae))
|fail)
        exact⟨.inr rfl,rfl⟩
       ·
        have ag:¬((q %2:Nat):Int)=0:=by omega
        repeat'(first
|(refine a8 ?_)
|(refine aw ?_)
|((with_reducible apply aa.av);(case hW=>exact rfl);(case hx=>first
|(exact ai U)
|exact ae))
|((with_reducible apply aa.u0);(case hx=>first
|((with_reducible apply af.iI);(case hx|hy=>exact rfl);(case hn=>omega);(case h=>exact v);(case hb=>omega))
|((with_reducible apply af.nE);(case hx|hy=>exact rfl);(case hn=>omega);(case h=>exact D))
|(exact ai V)
|exact ae))
|fail)
        exact⟨.inr rfl,rfl⟩
      ·
       rw[List.getElem?_eq_none hi]at u
       repeat'(first
|(refine a8 ?_)
|(refine aw ?_)
|((with_reducible apply aa.av);(case hW=>exact rfl);(case hx=>first
|(exact ai U)
|exact ae))
|((with_reducible apply aa.u0);(case hx=>first
|((with_reducible apply af.iI);(case hx|hy=>exact rfl);(case hn=>omega);(case h=>exact v);(case hb=>omega))
|(exact ai V)
|exact ae))
|fail)
       exact⟨q+1,rfl,rfl,⟨by omega,J u⟩,by omega⟩
     ·
      rw[y (by
       rw[u];intro h;rw[Bool.and_eq_true,Bool.and_eq_true,decide_eq_true_eq]at h;exact ad h.1)]
      cases g with
      |false=>
       exact ah
      |true=>
       have ax:¬c.kind=1:=fun h=>ad ⟨h,rfl⟩;exact ah
  ·
   rw[cL h3];exact ah
 ·
  have aN:(decide (m.cons.length<=512)&&decide (2*l.length<=m.cons.length))=false:=by
   rw[<- Bool.not_eq_true,Bool.and_eq_true,decide_eq_true_eq,decide_eq_true_eq];exact h0
  rw[aN]
  repeat'(first
|((with_reducible apply aa.cj);(case hp=>exact ak))
|((with_reducible apply aa.aX)<;>intro hq)
|(refine aw ?_)
|((with_reducible apply aa.av);(case hW=>exact rfl);(case hx=>first
|((with_reducible apply af.mul);(case hx|hy=>exact rfl);(case h=>omega))
|exact ae))
|((with_reducible apply aa.u0);(case hx=>exact ae))
|fail)
  all_goals first
   |exact⟨.inr rfl,rfl⟩
   |(exfalso;apply h0;constructor <;>omega)
def Kv{m:Md}{l:List (Int×Int)}{s:Int}(hm:bx m):Cl aj 144 [.t (.int .i64 s),.t (.tp (de m l))] [] (.t (.bool (!(decide (-1<=s)&&decide (s <(m.ao.length:Int)))))) []:=by
 have v:=aW m.ao;have u:=hm.ao;unfold de;refine Cl.ap rfl Tryz.func144 rfl rfl rfl ?_;exact ah
def L9{m:Md}{q:Nat}{o:fX}(ho:m.ops[q]?=some o):cq ((m.ops.take q).map (·.name))++[[.str o.name]]=cq ((m.ops.take (q+1)).map (·.name)):=by
 rw[List.take_add_one,ho];simp[cq]
def Kw{m:Md}{l:List (Int×Int)}(hm:bx m)(I:m.ops.length<=4398046511104):Cl aj 102 [.t (.agg (de m l))] [] (.t (.bool ((decide ((m.ops.map (·.name)).length<=8)&&gH (m.ops.map (·.name)))&&m.ops.all (dT m)))) []:=by
 have ag:=mB m.ops;have an:=hm.ops;have ko:=fun(o:fX) (y:o∈m.ops)=>Ip (C:=o.ao) (p:=fun s=>!(decide (-1<=s)&&decide (s <(m.ao.length:Int)))) (c1:=.tp (de m l)) (by have:=hm.rA o y;omega) (fun s _=>Kv hm);have kd:=DI (N:=m.ops.map (·.name)) (by rw[List.length_map];omega);have ad:(cq (m.ops.map (·.name))).length=m.ops.length:=by rw[ny,List.length_map]
 have ab:(m.ops.map (·.name)).length=m.ops.length:=List.length_map _;obtain⟨d,hd⟩:∃d,gH (m.ops.map (·.name))=d:=⟨_,rfl⟩;rw[hd]at kd⊢;obtain⟨Y,Z⟩:∃Y,(decide ((m.ops.map (·.name)).length<=8)&&d)=Y:=⟨_,rfl⟩;have J:(decide (m.ops.length<=8)&&d)=Y:=by rw[<- Z,List.length_map]
 rw[Z,Bool.and_comm];have e0:m.ops.all (dT m)=(m.ops.drop 0).all (dT m):=rfl;rw[e0];unfold de at ko⊢;refine Cl.ap rfl Tryz.func102 rfl rfl rfl ?_;refine aq ?_;refine az.c8 (fun x:Nat×Bool=>[(3,.ls 1),(10,.t (.int .i64 (x.1:Int)))]) (fun x=>[.box false 172 (([aD m.ao,.arr (bC m.tables),.arr (cq m.bH),.arr (fk m.cons),.arr (fv m.ops),.arr (eg m.ax),.arr (c7 m.aG),.arr (bO l)]:List AV).map .t),.row false x.2 1 (cq ((m.ops.take x.1).map (·.name)))]) (fun x=>x.1<=m.ops.length/\(m.ops.drop 0).all (dT m)=(m.ops.drop x.1).all (dT m)) (fun x=>m.ops.length - x.1) (0,false) rfl rfl ⟨by dsimp only;omega,rfl⟩ (fun x hq=>?_);obtain⟨q,aM⟩:=x;dsimp only at hq⊢;obtain⟨h1,h2⟩:=hq;rw[h2];rcases Nat.lt_or_ge q m.ops.length with h3|h3
 ·
  obtain⟨o,y⟩:=am h3;have au:=nz y;have aA:=hm.rA o (List.mem_of_getElem? y);have al:=aW o.ao;have D:=iT (dT m) y;have z:=L9 y
  have v:cn ((cq ((m.ops.take q).map (·.name))).length+1) 16=true:=by
   rw[ny];simp[cn];omega
  have U:=ko o (List.mem_of_getElem? y);obtain⟨b,hb⟩:∃b,(o.ao.any fun s=>!(decide (-1<=s)&&decide (s <(m.ao.length:Int))))=b:=⟨_,rfl⟩
  have I:dT m o=(!b&&decide (o.ao.length<=3)):=by
   unfold dT;rw[qv,hb]
  rw[hb]at U;rw[I]at D;rw[D];by_cases G:o.ao.length<=3
  ·
   rw[decide_eq_true G]
   cases b with
   |true=>
    repeat'(first
|(with_reducible first|apply ac.seq|apply ac.block)
|((with_reducible apply ac.text);(try case hm=>exact rfl))
|(with_reducible first|apply ac.skip|apply ac.ret|apply aH|apply bL|apply eV)
|((with_reducible apply ac.aR);(case hc=>exact rfl))
|((with_reducible apply aa.aF);(case hp=>exact ak))
|((with_reducible apply aa.bk);(case hp=>exact ak))
|(with_reducible apply aa.aB)
|((with_reducible apply aa.u);(case hx=>((with_reducible apply af.ei);(case hs=>exact fun _=>rfl);(case ha|ht=>exact rfl);(case hr=>first|(with_reducible exact ec)|(with_reducible exact rw1)|(with_reducible exact ed)|(with_reducible exact rw3)|(with_reducible exact rw4)|exact rfl);(case hx|hy|hn|hb|hok=>exact rfl);(case hlen=>exact v);(case hv=>exact z);(case hk=>exact ez);(case hf=>exact leq))))
|((with_reducible apply aa.av);(case hW=>exact rfl);(case hx=>first
|(exact ai U)
|exact ae))
|((with_reducible apply aa.u0);(case hx=>exact ae))
|fail)
    exact⟨.inr rfl,rfl⟩
   |false=>
    repeat'(first
|(with_reducible first|apply ac.seq|apply ac.block)
|((with_reducible apply ac.text);(try case hm=>exact rfl))
|(with_reducible first|apply ac.skip|apply aH|apply fH)
|((with_reducible apply ac.aR);(case hc=>exact rfl))
|((with_reducible apply ac.aY);(case hc=>exact rfl))
|((with_reducible apply aa.aF);(case hp=>exact ak))
|((with_reducible apply aa.bk);(case hp=>exact ak))
|(with_reducible apply aa.aB)
|((with_reducible apply aa.u);(case hx=>((with_reducible apply af.ei);(case hs=>exact fun _=>rfl);(case ha|ht=>exact rfl);(case hr=>first|(with_reducible exact ec)|(with_reducible exact rw1)|(with_reducible exact ed)|(with_reducible exact rw3)|(with_reducible exact rw4)|exact rfl);(case hx|hy|hn|hb|hok=>exact rfl);(case hlen=>exact v);(case hv=>exact z);(case hk=>exact ez);(case hf=>exact leq))))
|((with_reducible apply aa.av);(case hW=>exact rfl);(case hx=>first
|(exact ai U)
|exact ae))
|((with_reducible apply aa.u0);(case hx=>exact ae))
|fail)
    exact⟨(q+1,true),rfl,rfl,⟨by dsimp only;omega,rfl⟩,by dsimp only;omega⟩
  ·
   rw[decide_eq_false G,Bool.and_false]
   repeat'(first
|(with_reducible first|apply ac.seq|apply ac.block)
|((with_reducible apply ac.text);(try case hm=>exact rfl))
|(with_reducible first|apply ac.skip|apply ac.ret|apply aH|apply bL|apply eV)
|((with_reducible apply ac.aR);(case hc=>exact rfl))
|((with_reducible apply aa.aF);(case hp=>exact ak))
|(with_reducible apply aa.aB)
|((with_reducible apply aa.gf);(case hW=>exact rfl))
|((with_reducible apply aa.u);(case hx=>((with_reducible apply af.ei);(case hs=>exact fun _=>rfl);(case ha|ht=>exact rfl);(case hr=>first|(with_reducible exact ec)|(with_reducible exact rw1)|(with_reducible exact ed)|(with_reducible exact rw3)|(with_reducible exact rw4)|exact rfl);(case hx|hy|hn|hb|hok=>exact rfl);(case hlen=>exact v);(case hv=>exact z);(case hk=>exact ez);(case hf=>exact leq))))
|((with_reducible apply aa.u0);(case hx=>exact ae))
|fail)
   exact⟨.inr rfl,rfl⟩
 ·
  rw[gT _ h3,List.take_of_length_le h3,Bool.true_and,<- J];by_cases V:m.ops.length<=8
  ·
   rw[decide_eq_true V,Bool.true_and];exact ah
  ·
   rw[decide_eq_false V,Bool.false_and];exact ah
def BQ(x:Int):Cl aj 191 [.t (.int .i64 x)] [] (.t (.bool false)) []:=by
 refine Cl.ap rfl Tryz.func191 rfl rfl rfl ?_;exact ah
def qD(x y:Int):Int:=if x <y then -1 else if y <x then 1 else 0
def HP(x y:Int):Cl aj 177 [.t (.int .i64 x),.t (.int .i64 y)] [] (.t (.int .i64 (qD x y))) []:=by
 have u:=BQ x;have v:=BQ y;unfold qD;refine Cl.ap rfl Tryz.func177 rfl rfl rfl ?_;rcases Int.lt_trichotomy x y with h|h|h
 ·
  rw[if_pos h];exact ah
 ·
  rw[if_neg (by omega),if_neg (by omega)];exact ah
 ·
  rw[if_neg (by omega),if_pos h];exact ah
def Ig{A B:List Int}{q:Nat}{x y:Int}(hx:A[q]?=some x)(hy:B[q]?=some y):cmpL (A.drop q) (B.drop q)=if qD x y=0 then cmpL (A.drop (q+1)) (B.drop (q+1))else qD x y:=by
 rw[bG hx,bG hy];show(if x <y then -1 else if y <x then 1 else cmpL (A.drop (q+1)) (B.drop (q+1)))=_
 unfold qD;split
 ·rfl
 ·split
  ·rfl
  ·rfl
def Ih{A B:List Int}(hA:A.length<=140737488351232)(hB:B.length<=140737488351232):Cl aj 146 [.t (aD A),.t (aD B)] [] (.t (.int .i64 (cmpL A B))) []:=by
 have ad:=aW A;have ag:=aW B;have U:cmpL A B=cmpL (A.drop 0) (B.drop 0):=rfl;rw[U];refine Cl.ap rfl Tryz.func146 rfl rfl rfl ?_;refine aq ?_;refine az.ind (fun q:Nat=>[(11,.t (.int .i64 (q:Int)))]) (fun q=>q<=A.length/\q<=B.length/\cmpL (A.drop 0) (B.drop 0)=cmpL (A.drop q) (B.drop q)) (fun q=>A.length - q) 0 rfl ⟨by omega,by omega,rfl⟩ (fun q hq=>?_);obtain⟨h1,h2,h3⟩:=hq;rw[h3];rcases Nat.lt_or_ge q A.length with z|z
 ·
  obtain⟨x,hx⟩:=am z;have Z:=bg hx;rcases Nat.lt_or_ge q B.length with u|u
  ·
   obtain⟨y,v⟩:=am u;have ab:=bg v;have J:=HP x y;rw[Ig hx v];obtain⟨c,V⟩:∃c,qD x y=c:=⟨_,rfl⟩;rw[V]at J⊢;by_cases I:c=0
   ·
    rw[if_pos I]
    repeat'(first
|(refine a8 ?_)
|(refine aw ?_)
|((with_reducible apply aa.u0);(case hx=>first
|(exact ai J)
|exact ae))
|fail)
    exact⟨q+1,rfl,rfl,⟨by omega,by omega,rfl⟩,by omega⟩
   ·
    rw[if_neg I];exact ah
  ·
   have D:cmpL (A.drop q) (B.drop q)=1:=by rw[bG hx,eY u];rfl
   rw[D];exact ah
 ·
  have D:cmpL (A.drop q) (B.drop q)=if A.length <B.length then -1 else 0:=by
   rw[eY z];rcases Nat.lt_or_ge q B.length with u|u
   ·obtain⟨y,v⟩:=am u;rw[bG v,if_pos (by omega)];rfl
   ·rw[eY u,if_neg (by omega)];rfl
  rw[D];by_cases G:A.length <B.length
  ·
   rw[if_pos G];exact ah
  ·
   rw[if_neg G];exact ah
def Kn{m:Md}{l:List (Int×Int)}(hv:bJ m.ao m.tables=true)(hm:bx m)(aA:∀a∈m.ax,jj a.eff)(ag:m.ops.all (dT m)=true)(hl:l.length<=100000):Cl aj 103 [.t (.agg (de m l))] [] (.t (.bool (decide (m.ax.length<=256)&&allI (dk m l.length) m.ax))) []:=by
 have bf:=mB m.ops;have bb:=jl m.ax;have bi:=aW m.ao;have bd:=lQ l;have bo:=hm.ops;have ad:=hm.rA;have bm:=hm.ax;have I:=hm.args;have aX:=kK hv;have ke:=fun(a:eF) (ha:a∈m.ax)=>Kr (l:=l) hv hm (aA a ha) hl;have e0:allI (dk m l.length) m.ax=aK (dk m l.length) 0 (m.ax.drop 0):=rfl;rw[e0];unfold de at ke⊢;refine Cl.ap rfl Tryz.func103 rfl rfl rfl ?_;by_cases h0:m.ax.length<=256
 ·
  rw[decide_eq_true h0,Bool.true_and];refine aq ?_;refine az.ind (fun q:Nat=>[(18,.t (.int .i64 (q:Int)))]) (fun q=>q<=m.ax.length/\aK (dk m l.length) 0 (m.ax.drop 0)=aK (dk m l.length) q (m.ax.drop q)) (fun q=>m.ax.length - q) 0 rfl ⟨by omega,rfl⟩ (fun q hq=>?_);obtain⟨h1,h2⟩:=hq;rw[h2];rcases Nat.lt_or_ge q m.ax.length with h3|h3
  ·
   obtain⟨a,ha⟩:=am h3;have a1:=fF ha;have J:=List.mem_of_getElem? ha;have bj:=aW a.args;have a6:=I a J;have al:=ke a J;rw[IR]at al;have ki:=yZ a.op (m.ops.length:Int);have v:=dl (p:=dk m l.length) ha;have U:=dm (p:=dk m l.length) ha;by_cases V:0<=a.op/\a.op <m.ops.length
   ·
    obtain⟨k0,k1⟩:=V;obtain⟨o,ho⟩:=am (xs:=m.ops) (k:=a.op.toNat) (by omega);have bu:=nz ho;have bk:=aW o.ao;have bH:=ad o (List.mem_of_getElem? ho);have aM:=List.all_eq_true.1 ag o (List.mem_of_getElem? ho);rw[decide_eq_true k0,decide_eq_true k1,Bool.and_self]at ki;obtain⟨b,hb⟩:∃b,m.ax.getD (q - 1) fD=b:=⟨_,rfl⟩;have z:=RE (n:=l.length) (i:=q) k0 k1 ho hb;by_cases G:a.args.length=o.ao.length
    ·
     obtain⟨f,hf⟩:∃f:Nat->Int->Bool,(fun k x=>jY m (o.ao.getD k 0) x)=f:=⟨_,rfl⟩;rw[hf,decide_eq_true G,Bool.true_and]at z;obtain⟨Z,hZ⟩:∃Z,((decide (q=0)||(decide (b.op <a.op)||(decide (b.op=a.op)&&iD b.args a.args)))&&ll m l.length a.eff)=Z:=⟨_,rfl⟩;rw[hZ]at z;refine aq ?_;refine az.ind (fun k:Nat=>[(55,.t (.int .i64 (k:Int)))]) (fun k=>k<=o.ao.length/\dk m l.length q a=(aK f k (a.args.drop k)&&Z)) (fun k=>o.ao.length - k) 0 rfl ⟨by omega,z⟩ (fun k hk=>?_);obtain⟨g1,u⟩:=hk;rcases Nat.lt_or_ge k o.ao.length with g3|g3
     ·
      obtain⟨s,hs⟩:=am g3;obtain⟨x,hx⟩:=am (xs:=a.args) (k:=k) (by omega);have bS:=bg hs;have b1:=bg hx;have bZ:=vT aM hs;have ka:=vG x (m:=9999) (.inr (.inr rfl));rw[qt hx]at u;have aB:f k x=jY m s x:=by rw[<- hf];show jY m (o.ao.getD k 0) x=_;rw[List.getD_eq_getElem?_getD,hs];rfl
      rw[aB]at u;by_cases aN:s <0
      ·
       rw[Bb aN]at u
       cases y:cA x 9999 with
       |true=>
        rw[y]at ka;rw[y,Bool.true_and]at u
        repeat'(first
|(refine a8 ?_)
|(refine aw ?_)
|((with_reducible apply aa.av);(case hW=>exact rfl);(case hx=>first
|(exact ai ka)
|exact ae))
|((with_reducible apply aa.u0);(case hx=>exact ae))
|fail)
        exact⟨k+1,rfl,rfl,⟨by omega,u⟩,by omega⟩
       |false=>
        rw[y]at ka;rw[y,Bool.false_and,Bool.false_and]at u;rw[v (by rw[u];decide)];exact ah
      ·
       obtain⟨n,hn⟩:=am (xs:=m.ao) (k:=s.toNat) (by omega);have bt:=bg hn;have kx:=yZ x n;rw[Bc (by omega) hn]at u
       cases y:(decide (0<=x)&&decide (x <n))with
       |true=>
        rw[y]at kx;rw[y,Bool.true_and]at u
        repeat'(first
|(refine a8 ?_)
|(refine aw ?_)
|((with_reducible apply aa.av);(case hW=>exact rfl);(case hx=>first
|(exact ai kx)
|exact ae))
|((with_reducible apply aa.u0);(case hx=>exact ae))
|fail)
        exact⟨k+1,rfl,rfl,⟨by omega,u⟩,by omega⟩
       |false=>
        rw[y]at kx;rw[y,Bool.false_and,Bool.false_and]at u;rw[v (by rw[u];decide)];exact ah
     ·
      rw[cL (by omega),Bool.true_and,<- hZ]at u;obtain⟨be,an⟩:∃be,ll m l.length a.eff=be:=⟨_,rfl⟩;rw[an]at al u
      cases q with
      |zero=>
       rw[decide_eq_true rfl,Bool.true_or,Bool.true_and]at u
       cases be with
       |false=>
        rw[v (by rw[u];decide)];exact ah
       |true=>
        refine aq ?_;exact⟨0+1,rfl,rfl,⟨by omega,U u⟩,by omega⟩
      |succ p=>
       obtain⟨w,hw⟩:=am (xs:=m.ax) (k:=p) (by omega);have aR:=fF hw;have aY:(eg m.ax)[((p+1:Nat) - 1:Int).toNat]?=some [.int .i64 w.op,aD w.args,.arr (iV w.eff.delta),.arr (iK w.eff.hold),.arr (iO w.eff.b7)]:=by rw[show((p+1:Nat) - 1:Int).toNat=p by omega];exact aR
       have aF:m.ax.getD (p+1 - 1) fD=w:=by rw[Nat.add_sub_cancel,List.getD_eq_getElem?_getD,hw];rfl
       obtain rfl:w=b:=by rw[<- aF,hb]
       have bl:=aW w.args;have aT:=Ih (A:=w.args) (B:=a.args) (by have:=I w (List.mem_of_getElem? hw);omega) (by omega);rw[decide_eq_false (show¬p+1=0 by omega),Bool.false_or,<- BP]at u;obtain⟨cl,au⟩:∃cl,cmpL w.args a.args=cl:=⟨_,rfl⟩;rw[au]at aT u;rcases Int.lt_trichotomy w.op a.op with D|D|D
       ·
        rw[decide_eq_true D,Bool.true_or,Bool.true_and]at u
        cases be with
        |false=>
         rw[v (by rw[u];decide)];exact ah
        |true=>
         refine aq ?_;exact⟨p+1+1,rfl,rfl,⟨by omega,U u⟩,by omega⟩
       ·
        rw[decide_eq_false (show¬w.op <a.op by omega),decide_eq_true D,Bool.false_or,Bool.true_and]at u;by_cases ab:cl <0
        ·
         rw[decide_eq_true ab,Bool.true_and]at u
         cases be with
         |false=>
          rw[v (by rw[u];decide)];exact ah
         |true=>
          refine aq ?_;exact⟨p+1+1,rfl,rfl,⟨by omega,U u⟩,by omega⟩
        ·
         rw[decide_eq_false ab,Bool.false_and]at u;rw[v (by rw[u];simp)];exact ah
       ·
        rw[decide_eq_false (show¬w.op <a.op by omega),decide_eq_false (show¬w.op=a.op by omega)]at u;rw[v (by rw[u];simp)];exact ah
    ·
     rw[decide_eq_false G,Bool.false_and,Bool.false_and]at z;rw[v (by rw[z];decide)];exact ah
   ·
    have aG:(decide (0<=a.op)&&decide (a.op <(m.ops.length:Int)))=false:=by
     rw[<- Bool.not_eq_true,Bool.and_eq_true,decide_eq_true_eq,decide_eq_true_eq];exact V
    rw[aG]at ki;rw[v (by rw[A4 V];decide)];exact ah
  ·
   rw[cL h3];exact ah
 ·
  rw[decide_eq_false h0,Bool.false_and];exact ah
theorem B3:∀l:List Int,nZ (aL l)=some l
 |[]=>rfl
 |x::l=>by
  show nZ ([.int .i64 x]::aL l)=_
  unfold nZ;rw[B3 l]
theorem B4:∀l:List Tb,QZ (bC l)=some l
 |[]=>rfl
 |t::l=>by
  show QZ ([.str t.name,.int .i64 t.kind,.arr (aL t.au),.int .i64 t.lo,.int .i64 t.hi,.int .i64 t.first]::bC l)=_
  unfold QZ;rw[B4 l,B3]
theorem B2:∀l:List Hde,nY (c7 l)=some l
 |[]=>rfl
 |h::l=>by
  show nY ([.int .i64 h.table,.int .i64 h.eM,.int .i64 h.to]::c7 l)=_
  unfold nY;rw[B2 l]
def JW(m:Md):gh ⟨[],m.tables,[],[],[],[],m.aG⟩=gh m:=rfl
def Ku{m:Md}{l:List (Int×Int)}(hm:bx m):Cl aj 104 [.t (.agg (de m l))] [] (.t (.bool (gh m))) []:=by
 refine Cl.ext (xs:=[.agg (de m l)]) rfl rfl (Cx rfl ?_);have h1:=hm.tables;have h2:=hm.aG;have u:Nat.ble (bC m.tables).length 17592186044416=true:=by rw[Nat.ble_eq,fT];exact h1
 have v:Nat.ble (c7 m.aG).length 17592186044416=true:=by rw[Nat.ble_eq,qX];exact h2
 unfold mo de aD;simp only[Nat.beq_refl,u,v,Bool.and_self,B4,B2,JW]
def NJ{m:Md}(hv:bJ m.ao m.tables=true):∀r∈bW m.ao m.tables true,-1000000<=r.1/\r.1<=1000000:=by
 intro r v;unfold bW at v;rw[if_pos hv]at v;obtain⟨t,z,u⟩:=List.mem_flatMap.1 v;obtain⟨k,y⟩:=List.mem_iff_getElem?.1 z;have h1:=rf hv y;rw[Gq]at h1;unfold eC at u;split at u
 ·obtain rfl:=List.eq_of_mem_replicate u;have:=h1.2.2.2.2.1;dsimp only;omega
 ·cases u
def DU{m:Md}(hm:bx m)(ab:∀a∈m.ax,jj a.eff)(ad:m.ops.length<=4398046511104):Cl aj 56 [.t (bN m)] [] (.t (.bool (b6 m))) []:=by
 rw[<- LQ];have an:=ny m.bH;have av:=hm.bH;have kv:=xF (S:=m.ao) (L:=m.tables) (by have:=hm.ao;omega) (by have:=hm.tables;omega) (fun t ht=>by have:=hm.au t ht;omega);have kd:=DI (N:=m.bH) (by omega)
 cases u:bJ m.ao m.tables with
 |false=>
  have e0:rk m=false:=by unfold rk;rw[vz,u];rfl
  rw[u]at kv;rw[aZ,e0];refine Cl.ap rfl Tryz.func56 rfl rfl rfl ?_;exact ah
 |true=>
  have kr:=IA (S:=m.ao) (L:=m.tables) true u;have ag:=NJ u;have al:=vZ m.ao true m.tables
  have U:(bW m.ao m.tables true).length<=100000:=by
   have h1:=mj (S:=m.ao) true m.tables;have h2:=kK u;unfold bW;rw[if_pos u];omega
  have kc:=Ko u hm U ag;have Z:=Kw (l:=bW m.ao m.tables true) hm ad;have V:=fun h=>Kn (l:=bW m.ao m.tables true) u hm ab h U;have kh:=Ku (l:=bW m.ao m.tables true) hm;rw[u]at kv;obtain⟨R,hR⟩:∃R,bW m.ao m.tables true=R:=⟨_,rfl⟩;rw[hR]at kr kc Z V kh;obtain⟨d,hd⟩:∃d,gH m.bH=d:=⟨_,rfl⟩;obtain⟨b1,G⟩:∃b,qF m R=b:=⟨_,rfl⟩;obtain⟨D,v⟩:∃b,(decide ((m.ops.map (·.name)).length<=8)&&gH (m.ops.map (·.name)))=b:=⟨_,rfl⟩;obtain⟨b2,y⟩:∃b,m.ops.all (dT m)=b:=⟨_,rfl⟩;obtain⟨b3,I⟩:∃b,(decide (m.ax.length<=256)&&allI (dk m R.length) m.ax)=b:=⟨_,rfl⟩;obtain⟨b4,J⟩:∃b,gh m=b:=⟨_,rfl⟩;have e0:rk m=((decide (m.bH.length<=24)&&d)&&(b1&&((D&&b2)&&(b3&&b4)))):=by unfold rk;rw[vz,u,hR,hd,G,v,y,I,J];rfl
  rw[hd]at kd;rw[G]at kc;rw[v,y]at Z;rw[y,I]at V;rw[J]at kh;unfold de at kc Z V kh;rw[aZ];rw[e0];refine Cl.ap rfl Tryz.func56 rfl rfl rfl ?_;by_cases hf:m.bH.length<=24
  ·
   rw[decide_eq_true hf]
   cases d with
   |false=>
    exact ah
   |true=>
    cases b1 with
    |false=>
     exact ah
    |true=>
     obtain⟨o2,z⟩:∃o,(D&&b2)=o:=⟨_,rfl⟩;rw[z]at Z⊢
     cases o2 with
     |false=>
      exact ah
     |true=>
      rw[Bool.and_eq_true]at z;have V:=V z.2
      cases b3 with
      |false=>
       exact ah
      |true=>
       exact ah
  ·
   rw[decide_eq_false hf];exact ah
end Go.Proofs.YtcgdbhlnkificaaGreatDoor
