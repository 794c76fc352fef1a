/- The code's models,part by part,as contracts:. No condition. -/
import Derived.Test.YtjolgbkkocjpgaaGreatDoorTLC
import Derived.Test.YtjolgbkkocjpgaaGreatDoorTNF
set_option linter.all false
namespace Go.Proofs.YtjolgbkkocjpgaaGreatDoor
open Go.RowKit
set_option maxRecDepth 100000
set_option maxHeartbeats 32000000
def LM{m:Md}{l:List (Int×Int)}(hv:bQ m.ai m.tables=true)(hm:bo m)(hl:l.length<=100000)(hr:∀r∈l,-1000000<=r.1/\r.1<=1000000):Cl ah 95 [.t (.agg (dp m l))] [] (.t (.bool (re m l))) []:=by
 have be:=nx m.cons;have bi:=nM m.bx;have bh:=k7 l;have bl:=hm.cons;have bm:=hm.bx;have U:=fun(c:Cn) (h:c.row.a8.length<=140737488351232)=>LQ (l:=l) hm hv h;have G:=fun(r:Rw) (h:r.a8.length<=140737488351232)=>DO (m:=m) (l:=l) h hl;have e0:re m l=((decide (m.cons.length<=512)&&decide (2*l.length<=m.cons.length))&&aL (ly m l) 0 (m.cons.drop 0)):=rfl;rw[e0];unfold dp at U G⊢;refine Cl.aq rfl Tryz.func95 rfl rfl rfl ?_;by_cases h0:m.cons.length<=512/\2*l.length<=m.cons.length
 ·
  rw[decide_eq_true h0.1,decide_eq_true h0.2,Bool.true_and,Bool.true_and];obtain⟨a1,a6⟩:=h0;refine ak ?_;refine ax.ind (fun q:Nat=>[(28,.t (.int .i64 (q:Int)))]) (fun q=>q<=m.cons.length/\aL (ly m l) 0 (m.cons.drop 0)=aL (ly m l) q (m.cons.drop q)) (fun q=>m.cons.length - q) 0 rfl ⟨by omega,rfl⟩ (fun q hq=>?_);obtain⟨h1,h2⟩:=hq;rw[h2];rcases Nat.lt_or_ge q m.cons.length with h3|h3
  ·
   obtain⟨c,I⟩:=aj h3;have hc:=mB I;have bb:=hm.a8 c (List.mem_of_getElem? I);have U:=U c (by omega);have G:=G c.row (by omega);have V:=z6 c.kF (m.bx.length:Int);have e1:lx c=[.int .i64 c.kind,.int .i64 c.kF,.arr (eg c.row.a8),.int .i64 c.row.ib,.int .i64 c.first,.int .i64 c.size]:=rfl;have e2:eU c.row=[.arr (eg c.row.a8),.int .i64 c.row.ib]:=rfl;rw[e1]at U;rw[e2]at G;have y:=dB (p:=ly m l) I;have J:=dC (p:=ly m l) I;obtain⟨bf,al⟩:∃b,(decide (0<=c.kF)&&decide (c.kF <(m.bx.length:Int)))=b:=⟨_,rfl⟩;obtain⟨rb,aD⟩:∃b,cD l.length c.row=b:=⟨_,rfl⟩;obtain⟨g,hg⟩:∃b,jH m c=b:=⟨_,rfl⟩
   have u:ly m l q c=(bf&&((if c.kind=0 then decide (c.first=0)&&(decide (c.size=0)&&rb)else decide (c.kind=1)&&g)&&(match l[q/2]? with|some r=>decide (c.kind=0)&&decide (c.row=if q %2=0 then nS (q/2) r else qB (q/2) r)|none=>true))):=by
    unfold ly;rw[al,aD,hg];rfl
   rw[al]at V;rw[aD]at G;rw[hg]at U;have v:((q:Nat):Int).tdiv 2=((q/2:Nat):Int):=rfl;have D:((q:Nat):Int).tmod 2=((q %2:Nat):Int):=rfl
   cases bf with
   |false=>
    rw[y (by rw[u];simp)];exact ae
   |true=>
    rw[Bool.true_and]at u;by_cases hk:c.kind=0
    ·
     rw[if_pos hk,decide_eq_true hk]at u;by_cases ab:(c.first=0/\c.size=0)/\rb=true
     ·
      obtain⟨⟨an,ao⟩,Z⟩:=ab;rw[Z]at G;rw[decide_eq_true an,decide_eq_true ao,Z]at u;simp only[Bool.and_self,Bool.true_and]at u;rcases Nat.lt_or_ge (q/2) l.length with hi|hi
      ·
       obtain⟨r,z⟩:=aj hi;have aJ:=AN z;have aG:=hr r (List.mem_of_getElem? z);rw[z]at u;dsimp only at u;rcases Nat.mod_two_eq_zero_or_one q with hp|hp
       ·
        have ks:=EC (r:=c.row) (c:=((q/2:Nat):Int)) (f := -1) (b:=0 - r.1) (by omega);have e3:(⟨[⟨((q/2:Nat):Int),-1⟩],0 - r.1⟩:Rw)=nS (q/2) r:=by unfold nS;rw[Int.zero_sub]
        rw[e3]at ks;rw[if_pos hp]at u;rw[e2]at ks;have ag:((q %2:Nat):Int)=0:=by omega
        cases hd:decide (c.row=nS (q/2) r)with
        |true=>
         rw[hd]at ks u
         repeat'(first
|(refine aY ?_)
|(refine ar ?_)
|((with_reducible apply aa.aB);(case hW=>exact rfl);(case hx=>first
|((with_reducible apply ac.gT);(case hx|hy=>exact rfl);(case hn=>omega);(case h=>exact v);(case hb=>omega))
|(exact ap G)
|(exact ap ks)
|exact af))
|((with_reducible apply aa.u0);(case hx=>first
|((with_reducible apply ac.gT);(case hx|hy=>exact rfl);(case hn=>omega);(case h=>exact v);(case hb=>omega))
|((with_reducible apply ac.lV);(case hx|hy=>exact rfl);(case hn=>omega);(case h=>exact D))
|((with_reducible apply ac.fZ);(case hx=>exact rfl);(case h=>omega))
|(exact ap V)
|exact af))
|fail)
         exact⟨q+1,rfl,rfl,⟨by omega,J u⟩,by omega⟩
        |false=>
         rw[hd]at ks u;rw[y (by rw[u];decide)]
         repeat'(first
|(refine aY ?_)
|(refine ar ?_)
|((with_reducible apply aa.aB);(case hW=>exact rfl);(case hx=>first
|((with_reducible apply ac.gT);(case hx|hy=>exact rfl);(case hn=>omega);(case h=>exact v);(case hb=>omega))
|(exact ap G)
|(exact ap ks)
|exact af))
|((with_reducible apply aa.u0);(case hx=>first
|((with_reducible apply ac.gT);(case hx|hy=>exact rfl);(case hn=>omega);(case h=>exact v);(case hb=>omega))
|((with_reducible apply ac.lV);(case hx|hy=>exact rfl);(case hn=>omega);(case h=>exact D))
|((with_reducible apply ac.fZ);(case hx=>exact rfl);(case h=>omega))
|(exact ap V)
|exact af))
|fail)
         exact⟨.inr rfl,rfl⟩
       ·
        have ks:=EC (r:=c.row) (c:=((q/2:Nat):Int)) (f:=1) (b:=r.2) (by omega);have e3:(⟨[⟨((q/2:Nat):Int),1⟩],r.2⟩:Rw)=qB (q/2) r:=rfl;rw[e3]at ks;rw[if_neg (by omega)]at u;rw[e2]at ks;have ag:¬((q %2:Nat):Int)=0:=by omega
        cases hd:decide (c.row=qB (q/2) r)with
        |true=>
         rw[hd]at ks u
         repeat'(first
|(refine aY ?_)
|(refine ar ?_)
|((with_reducible apply aa.aB);(case hW=>exact rfl);(case hx=>first
|((with_reducible apply ac.gT);(case hx|hy=>exact rfl);(case hn=>omega);(case h=>exact v);(case hb=>omega))
|(exact ap G)
|(exact ap ks)
|exact af))
|((with_reducible apply aa.u0);(case hx=>first
|((with_reducible apply ac.gT);(case hx|hy=>exact rfl);(case hn=>omega);(case h=>exact v);(case hb=>omega))
|((with_reducible apply ac.lV);(case hx|hy=>exact rfl);(case hn=>omega);(case h=>exact D))
|(exact ap V)
|exact af))
|fail)
         exact⟨q+1,rfl,rfl,⟨by omega,J u⟩,by omega⟩
        |false=>
         rw[hd]at ks u;rw[y (by rw[u];decide)]
         repeat'(first
|(refine aY ?_)
|(refine ar ?_)
|((with_reducible apply aa.aB);(case hW=>exact rfl);(case hx=>first
|((with_reducible apply ac.gT);(case hx|hy=>exact rfl);(case hn=>omega);(case h=>exact v);(case hb=>omega))
|(exact ap G)
|(exact ap ks)
|exact af))
|((with_reducible apply aa.u0);(case hx=>first
|((with_reducible apply ac.gT);(case hx|hy=>exact rfl);(case hn=>omega);(case h=>exact v);(case hb=>omega))
|((with_reducible apply ac.lV);(case hx|hy=>exact rfl);(case hn=>omega);(case h=>exact D))
|(exact ap V)
|exact af))
|fail)
         exact⟨.inr rfl,rfl⟩
      ·
       rw[List.getElem?_eq_none hi]at u
       repeat'(first
|(refine aY ?_)
|(refine ar ?_)
|((with_reducible apply aa.aB);(case hW=>exact rfl);(case hx=>first
|(exact ap G)
|exact af))
|((with_reducible apply aa.u0);(case hx=>first
|((with_reducible apply ac.gT);(case hx|hy=>exact rfl);(case hn=>omega);(case h=>exact v);(case hb=>omega))
|(exact ap V)
|exact af))
|fail)
       exact⟨q+1,rfl,rfl,⟨by omega,J u⟩,by omega⟩
     ·
      rw[y (by
       rw[u];intro h;rw[Bool.and_eq_true,Bool.and_eq_true,Bool.and_eq_true,decide_eq_true_eq,decide_eq_true_eq]at h;exact ab ⟨⟨h.1.1,h.1.2.1⟩,h.1.2.2⟩)]
      cases rb with
      |false=>
       exact ae
      |true=>
       by_cases aR:c.first=0
       ·
        have bd:¬c.size=0:=fun h=>ab ⟨⟨aR,h⟩,rfl⟩;exact ae
       ·
        exact ae
    ·
     rw[if_neg hk,decide_eq_false hk]at u;by_cases ad:c.kind=1/\g=true
     ·
      obtain⟨au,av⟩:=ad;rw[av]at U;rw[decide_eq_true au,av,Bool.true_and,Bool.true_and]at u;rcases Nat.lt_or_ge (q/2) l.length with hi|hi
      ·
       obtain⟨r,z⟩:=aj hi;have aJ:=AN z;have aG:=hr r (List.mem_of_getElem? z);rw[z]at u;dsimp only at u;rw[Bool.false_and]at u;rw[y (by rw[u];decide)];rcases Nat.mod_two_eq_zero_or_one q with hp|hp
       ·
        have ag:((q %2:Nat):Int)=0:=by omega
        repeat'(first
|(refine aY ?_)
|(refine ar ?_)
|((with_reducible apply aa.aB);(case hW=>exact rfl);(case hx=>first
|(exact ap U)
|exact af))
|((with_reducible apply aa.u0);(case hx=>first
|((with_reducible apply ac.gT);(case hx|hy=>exact rfl);(case hn=>omega);(case h=>exact v);(case hb=>omega))
|((with_reducible apply ac.lV);(case hx|hy=>exact rfl);(case hn=>omega);(case h=>exact D))
|((with_reducible apply ac.fZ);(case hx=>exact rfl);(case h=>omega))
|(exact ap V)
|exact af))
|fail)
        exact⟨.inr rfl,rfl⟩
       ·
        have ag:¬((q %2:Nat):Int)=0:=by omega
        repeat'(first
|(refine aY ?_)
|(refine ar ?_)
|((with_reducible apply aa.aB);(case hW=>exact rfl);(case hx=>first
|(exact ap U)
|exact af))
|((with_reducible apply aa.u0);(case hx=>first
|((with_reducible apply ac.gT);(case hx|hy=>exact rfl);(case hn=>omega);(case h=>exact v);(case hb=>omega))
|((with_reducible apply ac.lV);(case hx|hy=>exact rfl);(case hn=>omega);(case h=>exact D))
|(exact ap V)
|exact af))
|fail)
        exact⟨.inr rfl,rfl⟩
      ·
       rw[List.getElem?_eq_none hi]at u
       repeat'(first
|(refine aY ?_)
|(refine ar ?_)
|((with_reducible apply aa.aB);(case hW=>exact rfl);(case hx=>first
|(exact ap U)
|exact af))
|((with_reducible apply aa.u0);(case hx=>first
|((with_reducible apply ac.gT);(case hx|hy=>exact rfl);(case hn=>omega);(case h=>exact v);(case hb=>omega))
|(exact ap V)
|exact af))
|fail)
       exact⟨q+1,rfl,rfl,⟨by omega,J u⟩,by omega⟩
     ·
      rw[y (by
       rw[u];intro h;rw[Bool.and_eq_true,Bool.and_eq_true,decide_eq_true_eq]at h;exact ad h.1)]
      cases g with
      |false=>
       exact ae
      |true=>
       have au:¬c.kind=1:=fun h=>ad ⟨h,rfl⟩;exact ae
  ·
   rw[cU h3];exact ae
 ·
  have aV:(decide (m.cons.length<=512)&&decide (2*l.length<=m.cons.length))=false:=by
   rw[<- Bool.not_eq_true,Bool.and_eq_true,decide_eq_true_eq,decide_eq_true_eq];exact h0
  rw[aV]
  repeat'(first
|((with_reducible apply aa.ee);(case hp=>exact aA))
|((with_reducible apply aa.aX)<;>intro hq)
|(refine ar ?_)
|((with_reducible apply aa.aB);(case hW=>exact rfl);(case hx=>first
|((with_reducible apply ac.mul);(case hx|hy=>exact rfl);(case h=>omega))
|exact af))
|((with_reducible apply aa.u0);(case hx=>exact af))
|fail)
  all_goals first
   |exact⟨.inr rfl,rfl⟩
   |(exfalso;apply h0;constructor <;>omega)
def LS{m:Md}{l:List (Int×Int)}{s:Int}(hm:bo m):Cl ah 146 [.t (.int .i64 s),.t (.tp (dp m l))] [] (.t (.bool (!(decide (-1<=s)&&decide (s <(m.ai.length:Int)))))) []:=by
 have v:=aO m.ai;have u:=hm.ai;unfold dp;refine Cl.aq rfl Tryz.func146 rfl rfl rfl ?_;exact ae
def Nr{m:Md}{q:Nat}{o:gq}(ho:m.ops[q]?=some o):bX ((m.ops.take q).map (·.name))++[[.str o.name]]=bX ((m.ops.take (q+1)).map (·.name)):=by
 rw[List.take_add_one,ho];simp[bX]
def LU{m:Md}{l:List (Int×Int)}(hm:bo m)(I:m.ops.length<=4398046511104):Cl ah 96 [.t (.agg (dp m l))] [] (.t (.bool ((decide ((m.ops.map (·.name)).length<=8)&&gP (m.ops.map (·.name)))&&m.ops.all (eF m)))) []:=by
 have ag:=mU m.ops;have an:=hm.ops;have ko:=fun(o:gq) (y:o∈m.ops)=>Jr (C:=o.ai) (p:=fun s=>!(decide (-1<=s)&&decide (s <(m.ai.length:Int)))) (c1:=.tp (dp m l)) (by have:=hm.rX o y;omega) (fun s _=>LS hm);have kd:=Eo (N:=m.ops.map (·.name)) (by rw[List.length_map];omega);have ad:(bX (m.ops.map (·.name))).length=m.ops.length:=by rw[nM,List.length_map]
 have ab:(m.ops.map (·.name)).length=m.ops.length:=List.length_map _;obtain⟨d,hd⟩:∃d,gP (m.ops.map (·.name))=d:=⟨_,rfl⟩;rw[hd]at kd⊢;obtain⟨Y,Z⟩:∃Y,(decide ((m.ops.map (·.name)).length<=8)&&d)=Y:=⟨_,rfl⟩;have J:(decide (m.ops.length<=8)&&d)=Y:=by rw[<- Z,List.length_map]
 rw[Z,Bool.and_comm];have e0:m.ops.all (eF m)=(m.ops.drop 0).all (eF m):=rfl;rw[e0];unfold dp at ko⊢;refine Cl.aq rfl Tryz.func96 rfl rfl rfl ?_;refine ak ?_;refine ax.cA (fun x:Nat×Bool=>[(3,.ls 1),(10,.t (.int .i64 (x.1:Int)))]) (fun x=>[.box false 152 (([ay m.ai,.arr (bq m.tables),.arr (bX m.bx),.arr (dc m.cons),.arr (dk m.ops),.arr (cK m.au),.arr (cu m.aG),.arr (bR l)]:List AV).map .t),.row false x.2 1 (bX ((m.ops.take x.1).map (·.name)))]) (fun x=>x.1<=m.ops.length/\(m.ops.drop 0).all (eF m)=(m.ops.drop x.1).all (eF m)) (fun x=>m.ops.length - x.1) (0,false) rfl rfl ⟨by dsimp only;omega,rfl⟩ (fun x hq=>?_);obtain⟨q,aD⟩:=x;dsimp only at hq⊢;obtain⟨h1,h2⟩:=hq;rw[h2];rcases Nat.lt_or_ge q m.ops.length with h3|h3
 ·
  obtain⟨o,y⟩:=aj h3;have ao:=nO y;have av:=hm.rX o (List.mem_of_getElem? y);have al:=aO o.ai;have D:=i_ (eF m) y;have z:=Nr y
  have v:b6 ((bX ((m.ops.take q).map (·.name))).length+1) 16=true:=by
   rw[nM];simp[b6];omega
  have U:=ko o (List.mem_of_getElem? y);obtain⟨b,hb⟩:∃b,(o.ai.any fun s=>!(decide (-1<=s)&&decide (s <(m.ai.length:Int))))=b:=⟨_,rfl⟩
  have I:eF m o=(!b&&decide (o.ai.length<=3)):=by
   unfold eF;rw[pD,hb]
  rw[hb]at U;rw[I]at D;rw[D];by_cases G:o.ai.length<=3
  ·
   rw[decide_eq_true G]
   cases b with
   |true=>
    repeat'(first
|(with_reducible first|apply am.seq|apply am.block)
|((with_reducible apply am.text);(try case hm=>exact rfl))
|(with_reducible first|apply am.skip|apply am.ret|apply dx|apply pg|apply pJ)
|((with_reducible apply am.ew);(case hc=>exact rfl))
|((with_reducible apply aa.aR);(case hp=>exact aA))
|((with_reducible apply aa.cQ);(case hp=>exact aA))
|(with_reducible apply aa.cI)
|((with_reducible apply aa.u);(case hx=>((with_reducible apply ac.da);(case hs=>exact fun _=>rfl);(case ha|ht=>exact rfl);(case hr=>first|(with_reducible exact c7)|(with_reducible exact rw1)|(with_reducible exact c8)|(with_reducible exact rw3)|(with_reducible exact rw4)|exact rfl);(case hx|hy|hn|hb|hok=>exact rfl);(case hlen=>exact v);(case hv=>exact z);(case hk=>exact de);(case hf=>exact leq))))
|((with_reducible apply aa.aB);(case hW=>exact rfl);(case hx=>first
|(exact ap U)
|exact af))
|((with_reducible apply aa.u0);(case hx=>exact af))
|fail)
    exact⟨.inr rfl,rfl⟩
   |false=>
    repeat'(first
|(with_reducible first|apply am.seq|apply am.block)
|((with_reducible apply am.text);(try case hm=>exact rfl))
|(with_reducible first|apply am.skip|apply dx|apply q6)
|((with_reducible apply am.ew);(case hc=>exact rfl))
|((with_reducible apply am.jB);(case hc=>exact rfl))
|((with_reducible apply aa.aR);(case hp=>exact aA))
|((with_reducible apply aa.cQ);(case hp=>exact aA))
|(with_reducible apply aa.cI)
|((with_reducible apply aa.u);(case hx=>((with_reducible apply ac.da);(case hs=>exact fun _=>rfl);(case ha|ht=>exact rfl);(case hr=>first|(with_reducible exact c7)|(with_reducible exact rw1)|(with_reducible exact c8)|(with_reducible exact rw3)|(with_reducible exact rw4)|exact rfl);(case hx|hy|hn|hb|hok=>exact rfl);(case hlen=>exact v);(case hv=>exact z);(case hk=>exact de);(case hf=>exact leq))))
|((with_reducible apply aa.aB);(case hW=>exact rfl);(case hx=>first
|(exact ap U)
|exact af))
|((with_reducible apply aa.u0);(case hx=>exact af))
|fail)
    exact⟨(q+1,true),rfl,rfl,⟨by dsimp only;omega,rfl⟩,by dsimp only;omega⟩
  ·
   rw[decide_eq_false G,Bool.and_false]
   repeat'(first
|(with_reducible first|apply am.seq|apply am.block)
|((with_reducible apply am.text);(try case hm=>exact rfl))
|(with_reducible first|apply am.skip|apply am.ret|apply dx|apply pg|apply pJ)
|((with_reducible apply am.ew);(case hc=>exact rfl))
|((with_reducible apply aa.aR);(case hp=>exact aA))
|(with_reducible apply aa.cI)
|((with_reducible apply aa.gf);(case hW=>exact rfl))
|((with_reducible apply aa.u);(case hx=>((with_reducible apply ac.da);(case hs=>exact fun _=>rfl);(case ha|ht=>exact rfl);(case hr=>first|(with_reducible exact c7)|(with_reducible exact rw1)|(with_reducible exact c8)|(with_reducible exact rw3)|(with_reducible exact rw4)|exact rfl);(case hx|hy|hn|hb|hok=>exact rfl);(case hlen=>exact v);(case hv=>exact z);(case hk=>exact de);(case hf=>exact leq))))
|((with_reducible apply aa.u0);(case hx=>exact af))
|fail)
   exact⟨.inr rfl,rfl⟩
 ·
  rw[g_ _ h3,List.take_of_length_le h3,Bool.true_and,<- J];by_cases V:m.ops.length<=8
  ·
   rw[decide_eq_true V,Bool.true_and];exact ae
  ·
   rw[decide_eq_false V,Bool.false_and];exact ae
def CF(x:Int):Cl ah 191 [.t (.int .i64 x)] [] (.t (.bool false)) []:=by
 refine Cl.aq rfl Tryz.func191 rfl rfl rfl ?_;exact ae
def ra(x y:Int):Int:=if x <y then -1 else if y <x then 1 else 0
def IQ(x y:Int):Cl ah 174 [.t (.int .i64 x),.t (.int .i64 y)] [] (.t (.int .i64 (ra x y))) []:=by
 have u:=CF x;have v:=CF y;unfold ra;refine Cl.aq rfl Tryz.func174 rfl rfl rfl ?_;rcases Int.lt_trichotomy x y with h|h|h
 ·
  rw[if_pos h];exact ae
 ·
  rw[if_neg (by omega),if_neg (by omega)];exact ae
 ·
  rw[if_neg (by omega),if_pos h];exact ae
def Jh{A B:List Int}{q:Nat}{x y:Int}(hx:A[q]?=some x)(hy:B[q]?=some y):cmpL (A.drop q) (B.drop q)=if ra x y=0 then cmpL (A.drop (q+1)) (B.drop (q+1))else ra x y:=by
 rw[bK hx,bK hy];show(if x <y then -1 else if y <x then 1 else cmpL (A.drop (q+1)) (B.drop (q+1)))=_
 unfold ra;split
 ·rfl
 ·split
  ·rfl
  ·rfl
def Ji{A B:List Int}(hA:A.length<=140737488351232)(hB:B.length<=140737488351232):Cl ah 148 [.t (ay A),.t (ay B)] [] (.t (.int .i64 (cmpL A B))) []:=by
 have ad:=aO A;have ag:=aO B;have U:cmpL A B=cmpL (A.drop 0) (B.drop 0):=rfl;rw[U];refine Cl.aq rfl Tryz.func148 rfl rfl rfl ?_;refine ak ?_;refine ax.ind (fun q:Nat=>[(11,.t (.int .i64 (q:Int)))]) (fun q=>q<=A.length/\q<=B.length/\cmpL (A.drop 0) (B.drop 0)=cmpL (A.drop q) (B.drop q)) (fun q=>A.length - q) 0 rfl ⟨by omega,by omega,rfl⟩ (fun q hq=>?_);obtain⟨h1,h2,h3⟩:=hq;rw[h3];rcases Nat.lt_or_ge q A.length with z|z
 ·
  obtain⟨x,hx⟩:=aj z;have Z:=aW hx;rcases Nat.lt_or_ge q B.length with u|u
  ·
   obtain⟨y,v⟩:=aj u;have ab:=aW v;have J:=IQ x y;rw[Jh hx v];obtain⟨c,V⟩:∃c,ra x y=c:=⟨_,rfl⟩;rw[V]at J⊢;by_cases I:c=0
   ·
    rw[if_pos I]
    repeat'(first
|(refine aY ?_)
|(refine ar ?_)
|((with_reducible apply aa.u0);(case hx=>first
|(exact ap J)
|exact af))
|fail)
    exact⟨q+1,rfl,rfl,⟨by omega,by omega,rfl⟩,by omega⟩
   ·
    rw[if_neg I];exact ae
  ·
   have D:cmpL (A.drop q) (B.drop q)=1:=by rw[bK hx,ez u];rfl
   rw[D];exact ae
 ·
  have D:cmpL (A.drop q) (B.drop q)=if A.length <B.length then -1 else 0:=by
   rw[ez z];rcases Nat.lt_or_ge q B.length with u|u
   ·obtain⟨y,v⟩:=aj u;rw[bK v,if_pos (by omega)];rfl
   ·rw[ez u,if_neg (by omega)];rfl
  rw[D];by_cases G:A.length <B.length
  ·
   rw[if_pos G];exact ae
  ·
   rw[if_neg G];exact ae
def LL{m:Md}{l:List (Int×Int)}(hv:bQ m.ai m.tables=true)(hm:bo m)(av:∀a∈m.au,iB a.eff)(ag:m.ops.all (eF m)=true)(hl:l.length<=100000):Cl ah 97 [.t (.agg (dp m l))] [] (.t (.bool (decide (m.au.length<=256)&&allI (dA m l.length) m.au))) []:=by
 have bi:=mU m.ops;have bf:=fN m.au;have bl:=aO m.ai;have bh:=k7 l;have bT:=hm.ops;have ad:=hm.rX;have bz:=hm.au;have I:=hm.args;have a6:=jk hv;have ke:=fun(a:dU) (ha:a∈m.au)=>LO (l:=l) hv hm (av a ha) hl;have e0:allI (dA m l.length) m.au=aL (dA m l.length) 0 (m.au.drop 0):=rfl;rw[e0];unfold dp at ke⊢;refine Cl.aq rfl Tryz.func97 rfl rfl rfl ?_;by_cases h0:m.au.length<=256
 ·
  rw[decide_eq_true h0,Bool.true_and];refine ak ?_;refine ax.ind (fun q:Nat=>[(18,.t (.int .i64 (q:Int)))]) (fun q=>q<=m.au.length/\aL (dA m l.length) 0 (m.au.drop 0)=aL (dA m l.length) q (m.au.drop q)) (fun q=>m.au.length - q) 0 rfl ⟨by omega,rfl⟩ (fun q hq=>?_);obtain⟨h1,h2⟩:=hq;rw[h2];rcases Nat.lt_or_ge q m.au.length with h3|h3
  ·
   obtain⟨a,ha⟩:=aj h3;have bb:=ei ha;have J:=List.mem_of_getElem? ha;have bm:=aO a.args;have bd:=I a J;have al:=ke a J;rw[te]at al;have ki:=z6 a.op (m.ops.length:Int);have v:=dB (p:=dA m l.length) ha;have U:=dC (p:=dA m l.length) ha;by_cases V:0<=a.op/\a.op <m.ops.length
   ·
    obtain⟨k0,k1⟩:=V;obtain⟨o,ho⟩:=aj (xs:=m.ops) (k:=a.op.toNat) (by omega);have b0:=nO ho;have bw:=aO o.ai;have b1:=ad o (List.mem_of_getElem? ho);have aR:=List.all_eq_true.1 ag o (List.mem_of_getElem? ho);rw[decide_eq_true k0,decide_eq_true k1,Bool.and_self]at ki;obtain⟨b,hb⟩:∃b,m.au.getD (q - 1) fv=b:=⟨_,rfl⟩;have z:=BP (n:=l.length) (i:=q) k0 k1 ho hb;by_cases G:a.args.length=o.ai.length
    ·
     obtain⟨f,hf⟩:∃f:Nat->Int->Bool,(fun k x=>j9 m (o.ai.getD k 0) x)=f:=⟨_,rfl⟩;rw[hf,decide_eq_true G,Bool.true_and]at z;obtain⟨Z,hZ⟩:∃Z,((decide (q=0)||(decide (b.op <a.op)||(decide (b.op=a.op)&&iN b.args a.args)))&&lC m l.length a.eff)=Z:=⟨_,rfl⟩;rw[hZ]at z;refine ak ?_;refine ax.ind (fun k:Nat=>[(55,.t (.int .i64 (k:Int)))]) (fun k=>k<=o.ai.length/\dA m l.length q a=(aL f k (a.args.drop k)&&Z)) (fun k=>o.ai.length - k) 0 rfl ⟨by omega,z⟩ (fun k hk=>?_);obtain⟨g1,u⟩:=hk;rcases Nat.lt_or_ge k o.ai.length with g3|g3
     ·
      obtain⟨s,hs⟩:=aj g3;obtain⟨x,hx⟩:=aj (xs:=a.args) (k:=k) (by omega);have b2:=aW hs;have b4:=aW hx;have b3:=E4 aR hs;have ka:=ww x (m:=9999) (.inr (.inr rfl));rw[qV hx]at u;have aD:f k x=j9 m s x:=by rw[<- hf];show j9 m (o.ai.getD k 0) x=_;rw[List.getD_eq_getElem?_getD,hs];rfl
      rw[aD]at u;by_cases aV:s <0
      ·
       rw[B2 aV]at u
       cases y:cH x 9999 with
       |true=>
        rw[y]at ka;rw[y,Bool.true_and]at u
        repeat'(first
|(refine aY ?_)
|(refine ar ?_)
|((with_reducible apply aa.aB);(case hW=>exact rfl);(case hx=>first
|(exact ap ka)
|exact af))
|((with_reducible apply aa.u0);(case hx=>exact af))
|fail)
        exact⟨k+1,rfl,rfl,⟨by omega,u⟩,by omega⟩
       |false=>
        rw[y]at ka;rw[y,Bool.false_and,Bool.false_and]at u;rw[v (by rw[u];decide)];exact ae
      ·
       obtain⟨n,hn⟩:=aj (xs:=m.ai) (k:=s.toNat) (by omega);have bU:=aW hn;have kx:=z6 x n;rw[B3 (by omega) hn]at u
       cases y:(decide (0<=x)&&decide (x <n))with
       |true=>
        rw[y]at kx;rw[y,Bool.true_and]at u
        repeat'(first
|(refine aY ?_)
|(refine ar ?_)
|((with_reducible apply aa.aB);(case hW=>exact rfl);(case hx=>first
|(exact ap kx)
|exact af))
|((with_reducible apply aa.u0);(case hx=>exact af))
|fail)
        exact⟨k+1,rfl,rfl,⟨by omega,u⟩,by omega⟩
       |false=>
        rw[y]at kx;rw[y,Bool.false_and,Bool.false_and]at u;rw[v (by rw[u];decide)];exact ae
     ·
      rw[cU (by omega),Bool.true_and,<- hZ]at u;obtain⟨be,an⟩:∃be,lC m l.length a.eff=be:=⟨_,rfl⟩;rw[an]at al u
      cases q with
      |zero=>
       rw[decide_eq_true rfl,Bool.true_or,Bool.true_and]at u
       cases be with
       |false=>
        rw[v (by rw[u];decide)];exact ae
       |true=>
        refine ak ?_;exact⟨0+1,rfl,rfl,⟨by omega,U u⟩,by omega⟩
      |succ p=>
       obtain⟨w,hw⟩:=aj (xs:=m.au) (k:=p) (by omega);have aX:=ei hw;have a8:(cK m.au)[((p+1:Nat) - 1:Int).toNat]?=some [.int .i64 w.op,ay w.args,.arr (jb w.eff.delta),.arr (iT w.eff.hold),.arr (iW w.eff.cg)]:=by rw[show((p+1:Nat) - 1:Int).toNat=p by omega];exact aX
       have aG:m.au.getD (p+1 - 1) fv=w:=by rw[Nat.add_sub_cancel,List.getD_eq_getElem?_getD,hw];rfl
       obtain rfl:w=b:=by rw[<- aG,hb]
       have bx:=aO w.args;have a1:=Ji (A:=w.args) (B:=a.args) (by have:=I w (List.mem_of_getElem? hw);omega) (by omega);rw[decide_eq_false (show¬p+1=0 by omega),Bool.false_or,<- CE]at u;obtain⟨cl,ao⟩:∃cl,cmpL w.args a.args=cl:=⟨_,rfl⟩;rw[ao]at a1 u;rcases Int.lt_trichotomy w.op a.op with D|D|D
       ·
        rw[decide_eq_true D,Bool.true_or,Bool.true_and]at u
        cases be with
        |false=>
         rw[v (by rw[u];decide)];exact ae
        |true=>
         refine ak ?_;exact⟨p+1+1,rfl,rfl,⟨by omega,U u⟩,by omega⟩
       ·
        rw[decide_eq_false (show¬w.op <a.op by omega),decide_eq_true D,Bool.false_or,Bool.true_and]at u;by_cases ab:cl <0
        ·
         rw[decide_eq_true ab,Bool.true_and]at u
         cases be with
         |false=>
          rw[v (by rw[u];decide)];exact ae
         |true=>
          refine ak ?_;exact⟨p+1+1,rfl,rfl,⟨by omega,U u⟩,by omega⟩
        ·
         rw[decide_eq_false ab,Bool.false_and]at u;rw[v (by rw[u];simp)];exact ae
       ·
        rw[decide_eq_false (show¬w.op <a.op by omega),decide_eq_false (show¬w.op=a.op by omega)]at u;rw[v (by rw[u];simp)];exact ae
    ·
     rw[decide_eq_false G,Bool.false_and,Bool.false_and]at z;rw[v (by rw[z];decide)];exact ae
   ·
    have aJ:(decide (0<=a.op)&&decide (a.op <(m.ops.length:Int)))=false:=by
     rw[<- Bool.not_eq_true,Bool.and_eq_true,decide_eq_true_eq,decide_eq_true_eq];exact V
    rw[aJ]at ki;rw[v (by rw[BQ V];decide)];exact ae
  ·
   rw[cU h3];exact ae
 ·
  rw[decide_eq_false h0,Bool.false_and];exact ae
theorem CO:∀l:List Int,oA (aE l)=some l
 |[]=>rfl
 |x::l=>by
  show oA ([.int .i64 x]::aE l)=_
  unfold oA;rw[CO l]
theorem CP:∀l:List Tb,oB (bq l)=some l
 |[]=>rfl
 |t::l=>by
  show oB ([.str t.name,.int .i64 t.kind,.arr (aE t.av),.int .i64 t.lo,.int .i64 t.hi,.int .i64 t.first]::bq l)=_
  unfold oB;rw[CP l,CO]
theorem CN:∀l:List Hde,oz (cu l)=some l
 |[]=>rfl
 |h::l=>by
  show oz ([.int .i64 h.table,.int .i64 h.fa,.int .i64 h.to]::cu l)=_
  unfold oz;rw[CN l]
def La(m:Md):gC ⟨[],m.tables,[],[],[],[],m.aG⟩=gC m:=rfl
def LR{m:Md}{l:List (Int×Int)}(hm:bo m):Cl ah 98 [.t (.agg (dp m l))] [] (.t (.bool (gC m))) []:=by
 refine Cl.ext (xs:=[.agg (dp m l)]) rfl rfl (Db rfl ?_);have h1:=hm.tables;have h2:=hm.aG;have u:Nat.ble (bq m.tables).length 17592186044416=true:=by rw[Nat.ble_eq,fJ];exact h1
 have v:Nat.ble (cu m.aG).length 17592186044416=true:=by rw[Nat.ble_eq,rA];exact h2
 unfold mH dp ay;simp only[Nat.beq_refl,u,v,Bool.and_self,CP,CN,La]
def Pa{m:Md}(hv:bQ m.ai m.tables=true):∀r∈bH m.ai m.tables true,-1000000<=r.1/\r.1<=1000000:=by
 intro r v;unfold bH at v;rw[if_pos hv]at v;obtain⟨t,z,u⟩:=List.mem_flatMap.1 v;obtain⟨k,y⟩:=List.mem_iff_getElem?.1 z;have h1:=rM hv y;rw[Hh]at h1;unfold eQ at u;split at u
 ·obtain rfl:=List.eq_of_mem_replicate u;have:=h1.2.2.2.2.1;dsimp only;omega
 ·cases u
def z_{m:Md}(hm:bo m)(ab:∀a∈m.au,iB a.eff)(ad:m.ops.length<=4398046511104):Cl ah 56 [.t (bk m)] [] (.t (.bool (b7 m))) []:=by
 rw[<- M7];have an:=nM m.bx;have ao:=hm.bx;have kv:=yI (S:=m.ai) (L:=m.tables) (by have:=hm.ai;omega) (by have:=hm.tables;omega) (fun t ht=>by have:=hm.av t ht;omega);have kd:=Eo (N:=m.bx) (by omega)
 cases u:bQ m.ai m.tables with
 |false=>
  have e0:rP m=false:=by unfold rP;rw[wj,u];rfl
  rw[u]at kv;rw[aS,e0];refine Cl.aq rfl Tryz.func56 rfl rfl rfl ?_;exact ae
 |true=>
  have kr:=CK (S:=m.ai) (L:=m.tables) true u;have ag:=Pa u;have al:=uq m.ai true m.tables
  have U:(bH m.ai m.tables true).length<=100000:=by
   have h1:=ky (S:=m.ai) true m.tables;have h2:=jk u;unfold bH;rw[if_pos u];omega
  have kc:=LM u hm U ag;have Z:=LU (l:=bH m.ai m.tables true) hm ad;have V:=fun h=>LL (l:=bH m.ai m.tables true) u hm ab h U;have kh:=LR (l:=bH m.ai m.tables true) hm;rw[u]at kv;obtain⟨R,hR⟩:∃R,bH m.ai m.tables true=R:=⟨_,rfl⟩;rw[hR]at kr kc Z V kh;obtain⟨d,hd⟩:∃d,gP m.bx=d:=⟨_,rfl⟩;obtain⟨b1,G⟩:∃b,re m R=b:=⟨_,rfl⟩;obtain⟨D,v⟩:∃b,(decide ((m.ops.map (·.name)).length<=8)&&gP (m.ops.map (·.name)))=b:=⟨_,rfl⟩;obtain⟨b2,y⟩:∃b,m.ops.all (eF m)=b:=⟨_,rfl⟩;obtain⟨b3,I⟩:∃b,(decide (m.au.length<=256)&&allI (dA m R.length) m.au)=b:=⟨_,rfl⟩;obtain⟨b4,J⟩:∃b,gC m=b:=⟨_,rfl⟩;have e0:rP m=((decide (m.bx.length<=24)&&d)&&(b1&&((D&&b2)&&(b3&&b4)))):=by unfold rP;rw[wj,u,hR,hd,G,v,y,I,J];rfl
  rw[hd]at kd;rw[G]at kc;rw[v,y]at Z;rw[y,I]at V;rw[J]at kh;unfold dp at kc Z V kh;rw[aS];rw[e0];refine Cl.aq rfl Tryz.func56 rfl rfl rfl ?_;by_cases hf:m.bx.length<=24
  ·
   rw[decide_eq_true hf]
   cases d with
   |false=>
    exact ae
   |true=>
    cases b1 with
    |false=>
     exact ae
    |true=>
     obtain⟨o2,z⟩:∃o,(D&&b2)=o:=⟨_,rfl⟩;rw[z]at Z⊢
     cases o2 with
     |false=>
      exact ae
     |true=>
      rw[Bool.and_eq_true]at z;have V:=V z.2
      cases b3 with
      |false=>
       exact ae
      |true=>
       exact ae
  ·
   rw[decide_eq_false hf];exact ae
def M9{m:Md}(hm:bo m)(u:∀a∈m.au,iB a.eff)(v:m.ops.length<=4398046511104)(h:b7 m=true):Cl ah 71 [.t (bk m),.t (.bool true)] [] (.ls 0) [.row false false 2 (bR (bH m.ai m.tables true))]:=by
 have y:=z_ hm u v
 have z:bQ m.ai m.tables=true:=by
  unfold b7 at h;simp only[Bool.and_eq_true]at h;exact h.1.1.1
 have D:=CK (S:=m.ai) (L:=m.tables) true z;rw[h]at y;rw[aS]at y⊢;refine Cl.aq rfl Tryz.func71 rfl rfl rfl ?_;exact ae
def Na{m:Md}(hm:bo m)(u:∀a∈m.au,iB a.eff)(v:m.ops.length<=4398046511104)(h:b7 m=true):Cl ah 30 [.t (bk m)] [] (.ls 0) [.row false false 2 (bR (bH m.ai m.tables true))]:=by
 have y:=M9 hm u v h;rw[aS]at y⊢;refine Cl.aq rfl Tryz.func30 rfl rfl rfl ?_;exact ae
end Go.Proofs.YtjolgbkkocjpgaaGreatDoor
