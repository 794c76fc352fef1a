/- The reference's models: when they are valid. No condition. -/
import Derived.Test.YtgbfedgghjcdcaaGreatDoorNF
import Derived.Test.YtgbfedgghjcdcaaGreatDoorTS
set_option linter.all false
namespace Go.Proofs.YtgbfedgghjcdcaaGreatDoor
open Go.RowKit
set_option maxRecDepth 100000
set_option maxHeartbeats 32000000
def GK{m:Md}(hm:cW m)(Q:∀a∈m.aJ,mD a.eff)(U:m.ops.length<=4398046511104):Cl ap 50 [.t (di m)] [] (.t (.bool (gN m))) []:=by
 have ad:=ru m.dq;have ag:=hm.dq;have u:=vj (S:=m.aq) (L:=m.tables) (by have:=hm.aq;omega) (by have:=hm.tables;omega) (fun t ht=>by have:=hm.aB t ht;omega);have I:=zk (L:=m.dq) (by omega)
 cases v:ce m.aq m.tables with
 |false=>
  have O:gN m=false:=by unfold gN;rw[v];rfl
  rw[v]at u;rw[cO,O];refine Cl.aE rfl Tryz.func50 rfl rfl rfl ?_
  repeat'(first
|(with_reducible apply aa.seq)
|((with_reducible apply aa.text);(try case hm=>exact rfl))
|(with_reducible first|apply aa.ret|apply ay)
|((with_reducible apply aa.am);(case hc=>exact rfl))
|(with_reducible apply ab.af)
|((with_reducible apply ab.gf);(case hW=>exact rfl))
|((with_reducible apply ab.u0);(case hx=>first
|(exact aj u)
|exact ac))
|fail)
  exact⟨.inr rfl,rfl⟩
 |true=>
  have G:=Gk hm v;have J:=Ge hm v Q U;have V:=GD hm v;rw[v]at u;obtain⟨d,hd⟩:∃d,lQ m.dq=d:=⟨_,rfl⟩;obtain⟨Z,y⟩:∃b,lP m (dA m.aq m.tables true)=b:=⟨_,rfl⟩;obtain⟨b2,z⟩:∃b,oD m (dA m.aq m.tables true).length=b:=⟨_,rfl⟩;obtain⟨b3,D⟩:∃b,l5 m=b:=⟨_,rfl⟩;have O:gN m=((decide (m.dq.length<=24)&&d)&&(Z&&(b2&&b3))):=by unfold gN;rw[v,hd,y,z,D];rfl
  rw[hd]at I;rw[y]at G;rw[z]at J;rw[D]at V;rw[cO]at G J V⊢;rw[O];refine Cl.aE rfl Tryz.func50 rfl rfl rfl ?_;by_cases hf:m.dq.length<=24
  ·
   rw[decide_eq_true hf]
   cases d with
   |false=>
    repeat'(first
|(with_reducible apply aa.seq)
|((with_reducible apply aa.text);(try case hm=>exact rfl))
|(with_reducible first|apply aa.ret|apply ay)
|((with_reducible apply aa.am);(case hc=>exact rfl))
|((with_reducible apply ab.aV);(case hp=>exact ae))
|(with_reducible apply ab.af)
|((with_reducible apply ab.au);(case hW=>exact rfl);(case hx=>first
|(exact aj I)
|exact ac))
|((with_reducible apply ab.u0);(case hx=>first
|(exact aj u)
|exact ac))
|fail)
    exact⟨.inr rfl,rfl⟩
   |true=>
    cases Z with
    |false=>
     repeat'(first
|(with_reducible apply aa.seq)
|((with_reducible apply aa.text);(try case hm=>exact rfl))
|(with_reducible first|apply aa.skip|apply aa.ret|apply ai)
|((with_reducible apply aa.ak);(case hc=>exact rfl))
|((with_reducible apply ab.aV);(case hp=>exact ae))
|(with_reducible apply ab.af)
|((with_reducible apply ab.gf);(case hW=>exact rfl))
|((with_reducible apply ab.au);(case hW=>exact rfl);(case hx=>first
|(exact aj I)
|exact ac))
|((with_reducible apply ab.u0);(case hx=>first
|(exact aj u)
|(exact aj G)
|exact ac))
|fail)
     exact⟨.inr rfl,rfl⟩
    |true=>
     cases b2 with
     |false=>
      repeat'(first
|(with_reducible apply aa.seq)
|((with_reducible apply aa.text);(try case hm=>exact rfl))
|(with_reducible first|apply aa.skip|apply aa.ret|apply ai)
|((with_reducible apply aa.ak);(case hc=>exact rfl))
|((with_reducible apply ab.aV);(case hp=>exact ae))
|(with_reducible apply ab.af)
|((with_reducible apply ab.gf);(case hW=>exact rfl))
|((with_reducible apply ab.au);(case hW=>exact rfl);(case hx=>first
|(exact aj I)
|(exact aj J)
|exact ac))
|((with_reducible apply ab.u0);(case hx=>first
|(exact aj u)
|(exact aj G)
|exact ac))
|fail)
      exact⟨.inr rfl,rfl⟩
     |true=>
      repeat'(first
|(with_reducible apply aa.seq)
|((with_reducible apply aa.text);(try case hm=>exact rfl))
|(with_reducible first|apply aa.skip|apply aa.ret|apply ai)
|((with_reducible apply aa.ak);(case hc=>exact rfl))
|((with_reducible apply ab.aV);(case hp=>exact ae))
|(with_reducible apply ab.af)
|((with_reducible apply ab.au);(case hW=>exact rfl);(case hx=>first
|(exact aj I)
|(exact aj J)
|(exact aj V)
|exact ac))
|((with_reducible apply ab.u0);(case hx=>first
|(exact aj u)
|(exact aj G)
|exact ac))
|fail)
      exact⟨.inr rfl,rfl⟩
  ·
   rw[decide_eq_false hf]
   repeat'(first
|(with_reducible apply aa.seq)
|((with_reducible apply aa.text);(try case hm=>exact rfl))
|(with_reducible first|apply aa.ret|apply ay)
|((with_reducible apply aa.am);(case hc=>exact rfl))
|((with_reducible apply ab.bh);(case hp=>exact ae))
|(with_reducible apply ab.af)
|((with_reducible apply ab.gf);(case hW=>exact rfl))
|((with_reducible apply ab.au);(case hW=>exact rfl);(case hx=>exact ac))
|((with_reducible apply ab.u0);(case hx=>first
|(exact aj u)
|exact ac))
|fail)
   exact⟨.inr rfl,rfl⟩
def zp(k:Int):Cl ap 80 [.t (.int .i64 k)] [] (.t (.bool (bz k))) []:=by
 refine Cl.aE rfl Tryz.func80 rfl rfl rfl ?_
 repeat'(first
|(with_reducible apply aa.seq)
|((with_reducible apply aa.text);(try case hm=>exact rfl))
|(with_reducible apply aa.ret)
|((with_reducible apply ab.aU)<;>intro u)
|((with_reducible apply ab.a_)<;>intro u)
|(with_reducible apply ab.af)
|((with_reducible apply ab.gf);(case hW=>exact rfl))
|((with_reducible apply ab.au);(case hW=>exact rfl);(case hx=>exact ac))
|((with_reducible apply ab.u0);(case hx=>exact ac))
|fail)
 all_goals(refine aS (.inr rfl) rfl ?_;unfold bz;first|(simp_all;done)|(simp_all;omega))
def yN{S C:List Int}(hs:c6 S=true)(hc:C.all (c_ S)=true)(hl:C.length<=3):bp S C=fG S C:=by
 unfold bp;rw[decide_eq_true hl,hs,hc];rfl
def zM{m:Md}{t:Tb}(hm:cW m)(hs:c6 m.aq=true)(ht:t.aB.all (c_ m.aq)=true)(hl:t.aB.length<=3):Cl ap 79 [.t (di m),.t (.agg (i_ t))] [] (.t (.int .i64 (bp m.aq t.aB))) []:=by
 rw[yN hs ht hl];have Q:=bC m.aq;have U:=hm.aq;obtain⟨nm,I,C,lo,G,D⟩:=t;have ht:C.all (c_ m.aq)=true:=ht;have hl:C.length<=3:=hl;have O:=bC C;have J:i_ ⟨nm,I,C,lo,G,D⟩=[.str nm,.int .i64 I,aF C,.int .i64 lo,.int .i64 G,.int .i64 D]:=rfl;rw[cO,J];show Cl ap _ _ [] (.t (.int .i64 (fG m.aq C))) []
 refine Cl.aE rfl Tryz.func79 rfl rfl rfl ?_
 repeat'(first
|(with_reducible first|apply aa.seq|apply aa.block)
|((with_reducible apply aa.text);(try case hm=>exact rfl))
|(with_reducible apply ab.af)
|((with_reducible apply ab.u0);(case hx=>exact ac))
|fail)
 apply aa.aM
 case ho=>exact rfl
 case hp=>exact rfl
 case hl=>exact rfl
 case hs=>exact slt
 refine aI.ind (fun q:Nat=>[(5,.t (.int .i64 (fG m.aq (C.take q)))),(6,.t (.int .i64 (q:Int)))]) (fun q=>q<=C.length) (fun q=>C.length - q) 0 rfl (by omega) (fun q hq=>?_);rcases Nat.lt_or_ge q C.length with h4|h4
 ·
  obtain⟨c,v⟩:=av h4;have hc:=bB v;have ho:=List.all_eq_true.1 ht c (List.mem_of_getElem? v);have z:=rE hs (C:=C.take (q+1)) (List.all_eq_true.2 fun x hx=>List.all_eq_true.1 ht x (List.mem_of_mem_take hx)) (by simp;omega);have u:=uY (S:=m.aq) v;rw[u]at z;simp only[c_,Bool.and_eq_true,decide_eq_true_eq]at ho;obtain⟨V,Z⟩:=ho;obtain⟨s,y⟩:=av (xs:=m.aq) (k:=c.toNat) (by omega);have hg:=bB y;rw[dt y]at z u;obtain⟨p,hp⟩:∃p,fG m.aq (C.take q)=p:=⟨_,rfl⟩;rw[hp]at z u⊢
  repeat'(first
|(with_reducible first|apply aa.seq|apply aa.block)
|((with_reducible apply aa.text);(try case hm=>exact rfl))
|((with_reducible apply aa.drawn);(case hm=>exact rfl))
|(with_reducible first|apply aa.skip|apply ai)
|((with_reducible apply aa.am);(case hc=>exact rfl))
|((with_reducible apply aa.ak);(case hc=>exact rfl))
|((with_reducible apply ab.ao);(case hp=>exact ae))
|((with_reducible apply ab.aw);(case hp=>exact ae))
|((with_reducible apply ab.aV);(case hp=>exact ae))
|(with_reducible first|apply ab.af|apply ab.bM)
|((with_reducible apply ab.au);(case hW=>exact rfl);(case hx=>exact ac))
|((with_reducible apply ab.u0);(case hx=>first
|((with_reducible apply ah.mul);(case hx|hy=>exact rfl);(case h=>omega))
|exact ac))
|fail)
  refine⟨q+1,?_,rfl,by omega,by omega⟩;rw[u];rfl
 ·
  rw[List.take_of_length_le h4]
  repeat'(first
|(with_reducible apply aa.seq)
|((with_reducible apply aa.text);(try case hm=>exact rfl))
|(with_reducible first|apply aa.exit|apply aa.ret|apply ai|apply aA|apply az)
|((with_reducible apply aa.ak);(case hc=>exact rfl))
|((with_reducible apply ab.aw);(case hp=>exact ae))
|(with_reducible apply ab.af)
|((with_reducible apply ab.u0);(case hx=>exact ac))
|fail)
  exact⟨.inr rfl,rfl⟩
def G5{m:Md}(hm:cW m)(hv:ce m.aq m.tables=true):Cl ap 51 [.t (di m)] [] (.t (.int .i64 (bQ m.aq true m.tables))) []:=by
 have ad:=gV m.tables;have Q:=k_ hv;have J:=q8 hv;have D:=fun(t:Tb) h1 h2=>zM (t:=t) hm J h1 h2;rw[cO]at D⊢;refine Cl.aE rfl Tryz.func51 rfl rfl rfl ?_
 repeat'(first
|(with_reducible first|apply aa.seq|apply aa.block)
|((with_reducible apply aa.text);(try case hm=>exact rfl))
|(with_reducible apply ab.af)
|((with_reducible apply ab.u0);(case hx=>exact ac))
|fail)
 apply aa.aM
 case ho=>exact rfl
 case hp=>exact rfl
 case hl=>exact rfl
 case hs=>exact slt
 refine aI.ind (fun q:Nat=>[(3,.t (.int .i64 (bQ m.aq true (m.tables.take q)))),(4,.t (.int .i64 (q:Int)))]) (fun q=>q<=m.tables.length) (fun q=>m.tables.length - q) 0 rfl (by omega) (fun q hq=>?_);rcases Nat.lt_or_ge q m.tables.length with h3|h3
 ·
  obtain⟨t,O⟩:=av h3;have hc:=fZ O;obtain⟨V,c2,Z⟩:=nw hv O;have U:=D t Z V;have y:=zp t.kind;have u:=tA (S:=m.aq) true O;have z:=lO (S:=m.aq) true (m.tables.take q);have G:=jI m.aq t.aB;have I:(m.tables.take q).length=q:=by simp;omega
  rw[I]at z;obtain⟨a,ha⟩:∃a,bQ m.aq true (m.tables.take q)=a:=⟨_,rfl⟩;obtain⟨N,hN⟩:∃N,bp m.aq t.aB=N:=⟨_,rfl⟩;rw[ha]at u z⊢;rw[hN]at u G U
  cases v:bz t.kind with
  |true=>
   rw[v]at y;rw[v,if_pos rfl]at u
   repeat'(first
|(with_reducible first|apply aa.seq|apply aa.block)
|((with_reducible apply aa.text);(try case hm=>exact rfl))
|((with_reducible apply aa.drawn);(case hm=>exact rfl))
|(with_reducible first|apply aa.skip|apply ai)
|((with_reducible apply aa.am);(case hc=>exact rfl))
|((with_reducible apply ab.ao);(case hp=>exact ae))
|(with_reducible first|apply ab.af|apply ab.bM)
|((with_reducible apply ab.u0);(case hx=>first
|(exact aj y)
|(exact aj U)
|exact ac))
|fail)
   refine⟨q+1,?_,rfl,by omega,by omega⟩;rw[u];rfl
  |false=>
   rw[v]at y;rw[v,if_neg (by decide)]at u
   repeat'(first
|(with_reducible first|apply aa.seq|apply aa.block)
|((with_reducible apply aa.text);(try case hm=>exact rfl))
|(with_reducible first|apply aa.skip|apply ai|apply aG)
|((with_reducible apply aa.am);(case hc=>exact rfl))
|((with_reducible apply aa.ak);(case hc=>exact rfl))
|((with_reducible apply ab.ao);(case hp=>exact ae))
|(with_reducible apply ab.af)
|((with_reducible apply ab.u0);(case hx=>first
|(exact aj y)
|exact ac))
|fail)
   refine⟨q+1,?_,rfl,by omega,by omega⟩;rw[u];rfl
 ·
  rw[List.take_of_length_le h3]
  repeat'(first
|(with_reducible apply aa.seq)
|((with_reducible apply aa.text);(try case hm=>exact rfl))
|(with_reducible first|apply aa.exit|apply aa.ret|apply ai|apply aA|apply az)
|((with_reducible apply aa.ak);(case hc=>exact rfl))
|((with_reducible apply ab.aw);(case hp=>exact ae))
|(with_reducible apply ab.af)
|((with_reducible apply ab.u0);(case hx=>exact ac))
|fail)
  exact⟨.inr rfl,rfl⟩
theorem yq(S:List Int):∀(l:List Tb) (a:Int),a+(l.flatMap (dj S)).length=l.foldl (fun n t=>if bz t.kind=false then n+bp S t.aB else n) a
 |[],a=>by simp
 |t::l,a=>by
  have v:=jI S t.aB;have u:=yq S l (if bz t.kind=false then a+bp S t.aB else a);rw[List.flatMap_cons,List.foldl_cons,<- u,List.length_append];unfold dj;cases bz t.kind <;>simp <;>omega
def yw(S:List Int)(l:List Tb):((fE S l).length:Int)=bQ S false l:=by
 have:=yq S l 0;unfold bQ fE;omega
def aZ(S:List Int)(L:List Tb)(q k:Nat)(t:Tb):List Tb:=(L.take q).flatMap (dj S)++List.replicate k t
def Ik(l m:List Tb):cR l++cR m=cR (l++m):=by unfold cR;rw[List.map_append]
def zr{m:Md}(hm:cW m)(hv:ce m.aq m.tables=true):Cl ap 28 [.t (di m)] [] (.ls 0) [.row false false 6 (cR (fE m.aq m.tables))]:=by
 have Z:=gV m.tables;have z:=k_ hv;have G:=q8 hv;have y:=fun(t:Tb) h1 h2=>zM (t:=t) hm G h1 h2;obtain⟨S,hS⟩:∃S,m.aq=S:=⟨_,rfl⟩;obtain⟨L,hL⟩:∃L,m.tables=L:=⟨_,rfl⟩;rw[cO]at y⊢;rw[hS]at hv z G y⊢;rw[hL]at hv z Z y⊢;unfold fE;refine Cl.aE rfl Tryz.func28 rfl rfl rfl ?_
 repeat'(first
|(with_reducible first|apply aa.seq|apply aa.block)
|((with_reducible apply aa.text);(try case hm=>exact rfl))
|(with_reducible apply ab.af)
|((with_reducible apply ab.u0);(case hx=>exact ac))
|fail)
 apply aa.aM
 case ho=>exact rfl
 case hp=>exact rfl
 case hl=>exact rfl
 case hs=>exact slt
 refine aI.cd (fun x:Nat×Bool=>[(3,.ls 1),(4,.t (.int .i64 (x.1:Int)))]) (fun x=>[.box false 30 (([aF S,.arr (cR L),.arr (d_ m.dq),.arr (jp m.cons),.arr (jJ m.ops),.arr (iL m.aJ),.arr (jz m.bq)]:List AV).map .t),.row false x.2 6 (cR ((L.take x.1).flatMap (dj S)))]) (fun x=>x.1<=L.length) (fun x=>L.length - x.1) (0,false) rfl rfl (by simp) (fun x hq=>?_);obtain⟨q,I⟩:=x;dsimp only at hq⊢;rcases Nat.lt_or_ge q L.length with h3|h3
 ·
  obtain⟨t,ht⟩:=av h3;have hc:=fZ ht;obtain⟨c1,c2,c3⟩:=nw hv ht;have O:=y t c3 c1;have v:=zp t.kind;have V:=jI S t.aB
  have al:bp S t.aB≠0:=by
   have h1:=nx hv ht;simp only[gU,Bool.and_eq_true,Bool.not_eq_true',decide_eq_false_iff_not]at h1;exact h1.2.2.2.1
  obtain⟨N,hN⟩:∃N,(bp S t.aB).toNat=N:=⟨_,rfl⟩;have U:bp S t.aB=(N:Int):=by omega
  rw[U]at O V al
  cases hs:bz t.kind with
  |false=>
   rw[hs]at v;have Q:(L.take q).flatMap (dj S)=aZ S L q 0 t:=by unfold aZ;simp
   have D:aZ S L q N t=(L.take (q+1)).flatMap (dj S):=by
    unfold aZ;rw[ng ht];unfold dj;rw[hs,if_neg (by decide),hN]
   rw[Q]
   have ad:∀k,k<=N->(aZ S L q k t).length<=4000:=fun k hk=>by
    have h1:=yw S (L.take q);have h2:=lO (S:=S) false (L.take q);have h4:(L.take q).length<=12:=by simp;omega
    unfold fE at h1;unfold aZ;rw[List.length_append,List.length_replicate];omega
   repeat'(first
|(with_reducible first|apply aa.seq|apply aa.block)
|((with_reducible apply aa.text);(try case hm=>exact rfl))
|(with_reducible first|apply aa.skip|apply ai)
|((with_reducible apply aa.am);(case hc=>exact rfl))
|((with_reducible apply ab.ao);(case hp=>exact ae))
|(with_reducible apply ab.af)
|((with_reducible apply ab.u0);(case hx=>exact ac))
|fail)
   apply aa.aM
   case ho=>exact rfl
   case hp=>exact rfl
   case hl=>exact rfl
   case hs=>exact slt
   refine aI.cd (fun x:Nat×Bool=>[(3,.ls 1),(5,.t (.int .i64 (x.1:Int)))]) (fun x=>[.box false 30 (([aF S,.arr (cR L),.arr (d_ m.dq),.arr (jp m.cons),.arr (jJ m.ops),.arr (iL m.aJ),.arr (jz m.bq)]:List AV).map .t),.row false x.2 6 (cR (aZ S L q x.1 t))]) (fun x=>x.1<=N) (fun x=>N - x.1) (0,I) rfl rfl (by simp) (fun x hk=>?_);obtain⟨k,J⟩:=x;dsimp only at hk⊢;rcases Nat.lt_or_ge k N with h4|h4
   ·
    have an:cR (aZ S L q k t)++[[.str t.name,.int .i64 t.kind,aF t.aB,.int .i64 t.lo,.int .i64 t.hi,.int .i64 t.first]]=cR (aZ S L q (k+1) t):=by
     have:aZ S L q (k+1) t=aZ S L q k t++[t]:=by unfold aZ;rw[vg,List.append_assoc]
     rw[this];exact Ik _ [t]
    have ag:bD ((cR (aZ S L q k t)).length+1) 72=true:=by
     have:=ad k hk;rw[gV];simp[bD];omega
    repeat'(first
|(with_reducible first|apply aa.seq|apply aa.block)
|((with_reducible apply aa.text);(try case hm=>exact rfl))
|((with_reducible apply aa.drawn);(case hm=>exact rfl))
|(with_reducible first|apply aa.skip|apply ai)
|((with_reducible apply aa.am);(case hc=>exact rfl))
|((with_reducible apply ab.ao);(case hp=>exact ae))
|(with_reducible first|apply ab.af|apply ab.bM)
|((with_reducible apply ab.u);(case hx=>((with_reducible apply ah.dI);(case hs=>exact fun _=>rfl);(case ha|ht=>exact rfl);(case hr=>first|(with_reducible exact dB)|(with_reducible exact dC)|(with_reducible exact dD)|(with_reducible exact rw3)|(with_reducible exact rw4)|exact rfl);(case hx|hy|hn|hb|hok=>exact rfl);(case hlen=>exact ag);(case hv=>exact an);(case hk=>exact dL);(case hf=>exact leq))))
|((with_reducible apply ab.au);(case hW=>exact rfl);(case hx=>first
|(exact aj v)
|exact ac))
|((with_reducible apply ab.u0);(case hx=>first
|(exact aj O)
|exact ac))
|fail)
    exact⟨(k+1,true),rfl,rfl,by dsimp only;omega,by dsimp only;omega⟩
   ·
    obtain rfl:k=N:=by omega
    rw[D]
    repeat'(first
|(with_reducible apply aa.seq)
|((with_reducible apply aa.text);(try case hm=>exact rfl))
|((with_reducible apply aa.drawn);(case hm=>exact rfl))
|(with_reducible first|apply aa.exit|apply ai|apply aA|apply aG|apply az)
|((with_reducible apply aa.ak);(case hc=>exact rfl))
|((with_reducible apply ab.aw);(case hp=>exact ae))
|(with_reducible apply ab.af)
|((with_reducible apply ab.gf);(case hW=>exact rfl))
|((with_reducible apply ab.u0);(case hx=>first
|(exact aj O)
|exact ac))
|fail)
    exact⟨(q+1,J),rfl,rfl,by dsimp only;omega,by dsimp only;omega⟩
  |true=>
   rw[hs]at v
   have Q:(L.take q).flatMap (dj S)=(L.take (q+1)).flatMap (dj S):=by
    rw[ng ht];unfold dj;rw[hs,if_pos rfl,List.append_nil]
   rw[Q]
   repeat'(first
|(with_reducible first|apply aa.seq|apply aa.block)
|((with_reducible apply aa.text);(try case hm=>exact rfl))
|(with_reducible first|apply aa.skip|apply ai)
|((with_reducible apply aa.am);(case hc=>exact rfl))
|((with_reducible apply ab.ao);(case hp=>exact ae))
|(with_reducible apply ab.af)
|((with_reducible apply ab.u0);(case hx=>exact ac))
|fail)
   apply aa.aM
   case ho=>exact rfl
   case hp=>exact rfl
   case hl=>exact rfl
   case hs=>exact slt
   refine aI.step ?_
   repeat'(first
|(with_reducible apply aa.seq)
|((with_reducible apply aa.text);(try case hm=>exact rfl))
|((with_reducible apply aa.drawn);(case hm=>exact rfl))
|(with_reducible first|apply aa.exit|apply ai|apply aA|apply aG|apply az)
|((with_reducible apply aa.ak);(case hc=>exact rfl))
|((with_reducible apply ab.ao);(case hp=>exact ae))
|(with_reducible apply ab.af)
|((with_reducible apply ab.au);(case hW=>exact rfl);(case hx=>first
|(exact aj v)
|exact ac))
|((with_reducible apply ab.u0);(case hx=>first
|(exact aj O)
|exact ac))
|fail)
   exact⟨(q+1,I),rfl,rfl,by dsimp only;omega,by dsimp only;omega⟩
 ·
  rw[List.take_of_length_le h3]
  repeat'(first
|(with_reducible apply aa.seq)
|((with_reducible apply aa.text);(try case hm=>exact rfl))
|(with_reducible first|apply aa.exit|apply aa.ret|apply ai|apply aA|apply az)
|((with_reducible apply aa.ak);(case hc=>exact rfl))
|((with_reducible apply ab.aw);(case hp=>exact ae))
|(with_reducible apply ab.af)
|((with_reducible apply ab.u0);(case hx=>exact ac))
|fail)
  exact⟨.inr rfl,rfl⟩
end Go.Proofs.YtgbfedgghjcdcaaGreatDoor
