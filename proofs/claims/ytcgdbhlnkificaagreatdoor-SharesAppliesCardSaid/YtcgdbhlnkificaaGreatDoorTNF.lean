/- The reference's models,part by part,as contracts:. No condition. -/
import Derived.Test.YtcgdbhlnkificaaGreatDoorTNB
import Derived.Test.YtcgdbhlnkificaaGreatDoorTS
set_option linter.all false
namespace Go.Proofs.YtcgdbhlnkificaaGreatDoor
open Go.RowKit
set_option maxRecDepth 100000
set_option maxHeartbeats 32000000
def Mj{m:Md}{o:fX}:dT m o=((o.ao.drop 0).all (fun s=>decide (-1<=s)&&decide (s <m.ao.length))&&decide (o.ao.length<=3)):=rfl
def vT{m:Md}{o:fX}(h:dT m o=true){k:Nat}{s:Int}(hs:o.ao[k]?=some s): -1<=s/\s <m.ao.length:=by
 unfold dT at h;simp only[Bool.and_eq_true]at h;have:=List.all_eq_true.1 h.1 s (List.mem_of_getElem? hs);simpa using this
def Bb{m:Md}{s a:Int}(h:s <0):jY m s a=cA a 9999:=by unfold jY;rw[if_pos h]
def Bc{m:Md}{s a n:Int}(h:0<=s)(hn:m.ao[s.toNat]?=some n):jY m s a=(decide (0<=a)&&decide (a <n)):=by unfold jY;rw[if_neg (by omega),fL hn]
def RE{m:Md}{n:Int}{i:Nat}{a b:eF}{o:fX}(h0:0<=a.op)(h1:a.op <m.ops.length)(ho:m.ops[a.op.toNat]?=some o)(hb:m.ax.getD (i - 1) fD=b):dk m n i a=((decide (a.args.length=o.ao.length)&&aK (fun k x=>jY m (o.ao.getD k 0) x) 0 (a.args.drop 0))&&
  ((decide (i=0)||(decide (b.op <a.op)||(decide (b.op=a.op)&&iD b.args a.args)))&&ll m n a.eff)):=by
 have e:m.ops.getD a.op.toNat uf=o:=by rw[List.getD_eq_getElem?_getD,ho];rfl
 unfold dk;rw[e,hb,decide_eq_true h0,decide_eq_true h1];rfl
def A4{m:Md}{n:Int}{i:Nat}{a:eF}(h:¬(0<=a.op/\a.op <m.ops.length)):dk m n i a=false:=by
 rw[<- Bool.not_eq_true];intro u;unfold dk at u;simp only[Bool.and_eq_true,decide_eq_true_eq]at u;exact h u.1.1.1
def M4{m:Md}(hm:bx m)(hv:bJ m.ao m.tables=true)(bj:∀a∈m.ax,jj a.eff)(G:m.ops.length<=4398046511104):Cl aj 118 [.t (bN m)] [] (.t (.bool (nP m (bW m.ao m.tables true).length))) []:=by
 have c0:=mB m.ops;have cC:=jl m.ax;have c4:=aW m.ao;have df:=hm.ops;have ad:=hm.rA;have dd:=hm.ax;have V:=hm.args;have ch:=kK hv;have ke:=fun(a:eF) (ha:a∈m.ax)=>Ni hm (bj a ha);obtain⟨n,hn⟩:∃n,(bW m.ao m.tables true).length=n:=⟨_,rfl⟩;rw[hn]at ke⊢;obtain⟨Y1,aA⟩:∃Y,(decide (m.ops.length<=8)&&(gH (m.ops.map (·.name))&&decide (m.ax.length<=256)))=Y:=⟨_,rfl⟩;obtain⟨Y2,aG⟩:∃Y,allI (dk m n) m.ax=Y:=⟨_,rfl⟩;have e0:nP m n=(((m.ops.drop 0).all (dT m)&&Y1)&&Y2):=by rw[<- aA,<- aG];rfl
 have kd:=EI (L:=m.ops.map (·.name)) (by simp;omega);rw[e0];rw[aZ]at ke⊢;refine Cl.ap rfl Tryz.func118 rfl rfl rfl ?_;refine aq ?_;refine az.c8 (fun x:Nat×Bool=>[(3,.ls 1),(4,.t (.int .i64 (x.1:Int)))]) (fun x=>[.box false 30 ((gm m).map .t),.row false x.2 1 (cq ((m.ops.take x.1).map (·.name)))]) (fun x=>x.1<=m.ops.length/\(m.ops.drop 0).all (dT m)=(m.ops.drop x.1).all (dT m)/\(m.ops.take x.1).all (dT m)=true) (fun x=>m.ops.length - x.1) (0,false) rfl rfl ⟨by dsimp only;omega,rfl,by simp⟩ (fun x I=>?_);obtain⟨q,dr⟩:=x;dsimp only at I⊢;obtain⟨h1,h2,au⟩:=I;rw[h2];rcases Nat.lt_or_ge q m.ops.length with h3|h3
 ·
  obtain⟨o,ho⟩:=am h3;have bZ:=nz ho;have b1:=ad o (List.mem_of_getElem? ho);have bS:=aW o.ao;have bu:=iT (dT m) ho
  have b3:cq ((m.ops.take q).map (·.name))++[[.str o.name]]=cq ((m.ops.take (q+1)).map (·.name)):=by
   rw[List.take_add_one,ho];simp[cq]
  have bH:cn ((cq ((m.ops.take q).map (·.name))).length+1) 16=true:=by
   rw[ny];simp[cn];omega
  have e1:=Mj (m:=m) (o:=o);obtain⟨f,hf⟩:∃f:Int->Bool,(fun s:Int=>decide (-1<=s)&&decide (s <m.ao.length))=f:=⟨_,rfl⟩;rw[hf]at e1;obtain⟨Z,hZ⟩:∃Z,(m.ops.drop (q+1)).all (dT m)=Z:=⟨_,rfl⟩;rw[bu,hZ,e1]
  repeat'(first
|(with_reducible first|apply ac.seq|apply ac.block)
|((with_reducible apply ac.text);(try case hm=>exact rfl))
|(with_reducible first|apply ac.skip|apply aH)
|((with_reducible apply ac.aR);(case hc=>exact rfl))
|((with_reducible apply aa.aF);(case hp=>exact ak))
|(with_reducible apply aa.aB)
|((with_reducible apply aa.u);(case hx=>((with_reducible apply af.ei);(case hs=>exact fun _=>rfl);(case ha|ht=>exact rfl);(case hr=>first|(with_reducible exact ec)|(with_reducible exact rw1)|(with_reducible exact ed)|(with_reducible exact rw3)|(with_reducible exact rw4)|exact rfl);(case hx|hy|hn|hb|hok=>exact rfl);(case hlen=>exact bH);(case hv=>exact b3);(case hk=>exact ez);(case hf=>exact leq))))
|((with_reducible apply aa.u0);(case hx=>exact ae))
|fail)
  apply ac.cR
  case ho=>exact rfl
  case hp=>exact rfl
  case hl=>exact rfl
  case hs=>exact slt
  refine az.ind (fun k:Nat=>[(6,.t (.int .i64 (k:Int)))]) (fun k=>k<=o.ao.length/\(o.ao.drop 0).all f=(o.ao.drop k).all f) (fun k=>o.ao.length - k) 0 rfl ⟨by omega,rfl⟩ (fun k hk=>?_);obtain⟨g1,U⟩:=hk;rw[U];rcases Nat.lt_or_ge k o.ao.length with g3|g3
  ·
   obtain⟨s,hs⟩:=am g3;have b2:=bg hs;have b4:=iT f hs;have bo:f s=(decide (-1<=s)&&decide (s <m.ao.length)):=by rw[<- hf]
   rw[b4,bo]
   repeat'(first
|((with_reducible apply aa.aF);(case hp=>exact ak))
|((with_reducible apply aa.aX)<;>intro I)
|((with_reducible apply aa.bi)<;>intro I)
|(refine aw ?_)
|((with_reducible apply aa.av);(case hW=>exact rfl);(case hx=>exact ae))
|((with_reducible apply aa.u0);(case hx=>exact ae))
|fail)
   all_goals first
    |exact⟨k+1,rfl,rfl,⟨by omega,by rw[decide_eq_true (show -1<=s by omega),decide_eq_true (show s <m.ao.length by omega)];rfl⟩,by omega⟩
    |exact ba (.inr rfl) rfl (by rw[decide_eq_false (show¬ -1<=s by omega)];rfl)
    |exact ba (.inr rfl) rfl (by rw[decide_eq_false (show¬s <m.ao.length by omega),Bool.and_false];rfl)
  ·
   rw[gT _ g3,Bool.true_and];by_cases g4:o.ao.length<=3
   ·
    have al:dT m o=true:=by rw[e1,U,gT _ g3,decide_eq_true g4];rfl
    rw[decide_eq_true g4,Bool.true_and];refine aq ?_;exact⟨(q+1,true),rfl,rfl,⟨by dsimp only;omega,by dsimp only;exact hZ.symm,sj au ho al⟩,by dsimp only;omega⟩
   ·
    rw[decide_eq_false g4];exact ah
 ·
  rw[gT _ h3,Bool.true_and];have aN:∀o∈m.ops,dT m o=true:=fun o ho=>List.all_eq_true.1 (uy au h3) o ho;rw[List.take_of_length_le h3,<- aA];obtain⟨d,hd⟩:∃d,gH (m.ops.map (·.name))=d:=⟨_,rfl⟩;rw[hd]at kd⊢;by_cases h8:m.ops.length<=8/\d=true/\m.ax.length<=256
  ·
   obtain⟨aY,rfl,a1⟩:=h8;rw[decide_eq_true aY,decide_eq_true a1];rw[show(true&&(true&&true))=true by rfl,Bool.true_and,<- aG];have e2:allI (dk m n) m.ax=aK (dk m n) 0 (m.ax.drop 0):=rfl;rw[e2];refine aq ?_;refine az.ind (fun q:Nat=>[(7,.t (.int .i64 (q:Int)))]) (fun q=>q<=m.ax.length/\aK (dk m n) 0 (m.ax.drop 0)=aK (dk m n) q (m.ax.drop q)) (fun q=>m.ax.length - q) 0 rfl ⟨by omega,rfl⟩ (fun q I=>?_);obtain⟨k1,k2⟩:=I;rw[k2];rcases Nat.lt_or_ge q m.ax.length with k3|k3
   ·
    obtain⟨a,ha⟩:=am k3;have ct:=fF ha;have ab:=List.mem_of_getElem? ha;have cc:=ke a ab;have c_:=aW a.args;have cj:=V a ab;have y:=dl (p:=dk m n) ha;have hok:=dm (p:=dk m n) ha;by_cases G:0<=a.op/\a.op <m.ops.length
    ·
     obtain⟨o,ho⟩:=am (xs:=m.ops) (k:=a.op.toNat) (by omega);have bZ:=nz ho;have al:=aN o (List.mem_of_getElem? ho);have bS:=aW o.ao;have b1:=ad o (List.mem_of_getElem? ho);obtain⟨b,hb⟩:∃b,m.ax.getD (q - 1) fD=b:=⟨_,rfl⟩;have v:=RE (m:=m) (n:=n) (i:=q) (a:=a) (b:=b) (o:=o) G.1 G.2 ho hb;obtain⟨o1,o2⟩:=G;by_cases aM:a.args.length=o.ao.length
     ·
      rw[decide_eq_true aM,Bool.true_and]at v;obtain⟨f,hf⟩:∃f:Nat->Int->Bool,(fun k x=>jY m (o.ao.getD k 0) x)=f:=⟨_,rfl⟩;rw[hf]at v;refine aq ?_;refine az.ind (fun k:Nat=>[(9,.t (.int .i64 (k:Int)))]) (fun k=>k<=a.args.length/\aK f 0 (a.args.drop 0)=aK f k (a.args.drop k)) (fun k=>a.args.length - k) 0 rfl ⟨by omega,rfl⟩ (fun k hk=>?_);obtain⟨g1,U⟩:=hk;rcases Nat.lt_or_ge k a.args.length with g3|g3
      ·
       obtain⟨x,hx⟩:=am g3;have dj:=bg hx;obtain⟨s,hs⟩:=am (xs:=o.ao) (k:=k) (by omega);have b2:=bg hs;obtain⟨s1,s2⟩:=vT al hs;have z:=dl (p:=f) hx;have D:=dm (p:=f) hx;have bm:f k x=jY m s x:=by rw[<- hf];dsimp only;rw[fL hs]
       rw[bm]at z D;rcases Int.lt_or_le s 0 with an|an
       ·
        rw[Bb an]at z D;have kb:=M7 x;obtain⟨bb,a6⟩:∃bb,cA x 9999=bb:=⟨_,rfl⟩;rw[a6]at kb z D
        cases bb with
        |false=>
         rw[y (by rw[v,U,z (by decide)];simp)];exact ah
        |true=>
         refine aq ?_;exact⟨k+1,rfl,rfl,⟨by omega,by rw[U];exact D rfl⟩,by omega⟩
       ·
        obtain⟨N,hN⟩:=am (xs:=m.ao) (k:=s.toNat) (by omega);have cp:=bg hN;rw[Bc an hN]at z D;by_cases aT:0<=x/\x <N
        ·
         obtain⟨r1,r2⟩:=aT;refine aq ?_;exact⟨k+1,rfl,rfl,⟨by omega,by rw[U];exact D (by rw[decide_eq_true r1,decide_eq_true r2];rfl)⟩,by omega⟩
        ·
         have ag:(decide (0<=x)&&decide (x <N))=false:=by rw[<- Bool.not_eq_true];simpa using aT
         rw[y (by rw[v,U,z (by rw[ag];decide)];simp)]
         repeat'(first
|(refine a8 ?_)
|((with_reducible apply aa.bi)<;>intro I)
|(refine aw ?_)
|((with_reducible apply aa.av);(case hW=>exact rfl);(case hx=>exact ae))
|((with_reducible apply aa.u0);(case hx=>exact ae))
|fail)
         all_goals first
          |exact⟨.inr rfl,rfl⟩
          |(exfalso;omega)
      ·
       rw[U,cL g3,Bool.true_and]at v;obtain⟨be,bd⟩:∃be,ll m n a.eff=be:=⟨_,rfl⟩;rw[bd]at cc v
       cases q with
       |zero=>
        rw[decide_eq_true (show(0:Nat)=0 by rfl),Bool.true_or,Bool.true_and]at v
        cases be with
        |false=>
         rw[y (by rw[v];decide)];exact ah
        |true=>
         refine aq ?_;exact⟨0+1,rfl,rfl,⟨by omega,hok v⟩,by omega⟩
       |succ p=>
        obtain⟨w,hw⟩:=am (xs:=m.ax) (k:=p) (by omega);have b5:=fF hw;have cl:(eg m.ax)[((p+1:Nat) - 1:Int).toNat]?=some [.int .i64 w.op,aD w.args,.arr (iV w.eff.delta),.arr (iK w.eff.hold),.arr (iO w.eff.b7)]:=by rw[show((p+1:Nat) - 1:Int).toNat=p by omega];exact b5
        have bt:m.ax.getD (p+1 - 1) fD=w:=by rw[Nat.add_sub_cancel,List.getD_eq_getElem?_getD,hw];rfl
        obtain rfl:w=b:=by rw[<- bt,hb]
        have dc:=aW w.args;have cf:=NB (A:=w.args) (B:=a.args) (by have:=V w (List.mem_of_getElem? hw);omega) (by omega);rw[decide_eq_false (show¬p+1=0 by omega),Bool.false_or]at v;obtain⟨bl,bf⟩:∃bl,iD w.args a.args=bl:=⟨_,rfl⟩;rw[bf]at cf v;rcases Int.lt_trichotomy w.op a.op with J|J|J
        ·
         rw[decide_eq_true J,Bool.true_or,Bool.true_and]at v
         cases be with
         |false=>
          rw[y (by rw[v];decide)];exact ah
         |true=>
          refine aq ?_;exact⟨p+1+1,rfl,rfl,⟨by omega,hok v⟩,by omega⟩
        ·
         rw[decide_eq_false (show¬w.op <a.op by omega),decide_eq_true J,Bool.false_or,Bool.true_and]at v
         cases bl with
         |false=>
          rw[y (by rw[v];simp)];exact ah
         |true=>
          rw[Bool.true_and]at v
          cases be with
          |false=>
           rw[y (by rw[v];decide)];exact ah
          |true=>
           refine aq ?_;exact⟨p+1+1,rfl,rfl,⟨by omega,hok v⟩,by omega⟩
        ·
         rw[decide_eq_false (show¬w.op <a.op by omega),decide_eq_false (show¬w.op=a.op by omega)]at v;rw[y (by rw[v];simp)];exact ah
     ·
      rw[decide_eq_false aM,Bool.false_and,Bool.false_and]at v;rw[y (by rw[v];decide)];exact ah
    ·
     rw[y (by rw[A4 G];decide)]
     repeat'(first
|(refine a8 ?_)
|((with_reducible apply aa.aX)<;>intro I)
|(refine aw ?_)
|((with_reducible apply aa.av);(case hW=>exact rfl);(case hx=>exact ae))
|((with_reducible apply aa.u0);(case hx=>exact ae))
|fail)
     all_goals first
      |exact⟨.inr rfl,rfl⟩
      |(exfalso;omega)
   ·
    rw[cL k3];exact ah
  ·
   have ag:(decide (m.ops.length<=8)&&(d&&decide (m.ax.length<=256)))=false:=by
    rw[<- Bool.not_eq_true];simpa using h8
   rw[ag]
   cases d with
   |true=>
    repeat'(first
|((with_reducible apply aa.bk);(case hp=>exact ak))
|((with_reducible apply aa.aX)<;>intro I)
|((with_reducible apply aa.bi)<;>intro I)
|(refine aw ?_)
|((with_reducible apply aa.av);(case hW=>exact rfl);(case hx=>first
|(exact ai kd)
|exact ae))
|((with_reducible apply aa.u0);(case hx=>exact ae))
|fail)
    all_goals first
     |exact⟨.inr rfl,rfl⟩
     |(exfalso;apply h8;exact⟨by omega,rfl,by omega⟩)
   |false=>
    exact ah
def ES{m:Md}(hm:bx m)(G:∀a∈m.ax,jj a.eff)(I:m.ops.length<=4398046511104):Cl aj 81 [.t (bN m)] [] (.t (.bool (b6 m))) []:=by
 have ab:=ny m.bH;have ad:=hm.bH;have kv:=zT (S:=m.ao) (L:=m.tables) (by have:=hm.ao;omega) (by have:=hm.tables;omega) (fun t ht=>by have:=hm.au t ht;omega);have kd:=EI (L:=m.bH) (by omega)
 cases u:bJ m.ao m.tables with
 |false=>
  have D:b6 m=false:=by unfold b6;rw[u];rfl
  rw[u]at kv;rw[aZ,D];refine Cl.ap rfl Tryz.func81 rfl rfl rfl ?_;exact ah
 |true=>
  have kc:=M9 hm u;have Z:=M4 hm u G I;have kh:=Nt hm u;rw[u]at kv;obtain⟨d,hd⟩:∃d,gH m.bH=d:=⟨_,rfl⟩;obtain⟨J,v⟩:∃b,li m (bW m.ao m.tables true)=b:=⟨_,rfl⟩;obtain⟨U,y⟩:∃b,nP m (bW m.ao m.tables true).length=b:=⟨_,rfl⟩;obtain⟨b3,z⟩:∃b,gh m=b:=⟨_,rfl⟩;have D:b6 m=((decide (m.bH.length<=24)&&d)&&(J&&(U&&b3))):=by unfold b6;rw[u,hd,v,y,z];rfl
  rw[hd]at kd;rw[v]at kc;rw[y]at Z;rw[z]at kh;rw[aZ]at kc Z kh⊢;rw[D];refine Cl.ap rfl Tryz.func81 rfl rfl rfl ?_;by_cases V:m.bH.length<=24
  ·
   rw[decide_eq_true V]
   cases d with
   |false=>
    exact ah
   |true=>
    cases J with
    |false=>
     exact ah
    |true=>
     cases U with
     |false=>
      exact ah
     |true=>
      exact ah
  ·
   rw[decide_eq_false V];exact ah
def EP(k:Int):Cl aj 120 [.t (.int .i64 k)] [] (.t (.bool (bz k))) []:=by
 refine Cl.ap rfl Tryz.func120 rfl rfl rfl ?_
 repeat'(first
|((with_reducible apply aa.aX)<;>intro u)
|((with_reducible apply aa.bi)<;>intro u)
|(refine aw ?_)
|((with_reducible apply aa.av);(case hW=>exact rfl);(case hx=>exact ae))
|((with_reducible apply aa.u0);(case hx=>exact ae))
|fail)
 all_goals(refine ba (.inr rfl) rfl ?_;unfold bz;first|(simp_all;done)|(simp_all;omega))
def Ma{S C:List Int}(hs:ck S=true)(hc:C.all (cr S)=true)(hl:C.length<=3):bE S C=dx S C:=by
 unfold bE;rw[decide_eq_true hl,hs,hc];rfl
def Ff{m:Md}{t:Tb}(hm:bx m)(hs:ck m.ao=true)(ht:t.au.all (cr m.ao)=true)(hl:t.au.length<=3):Cl aj 121 [.t (bN m),.t (.agg (gC t))] [] (.t (.int .i64 (bE m.ao t.au))) []:=by
 rw[Ma hs ht hl];have Z:=aW m.ao;have ab:=hm.ao;obtain⟨nm,J,C,lo,G,D⟩:=t;have ht:C.all (cr m.ao)=true:=ht;have hl:C.length<=3:=hl;have V:=aW C;have U:gC ⟨nm,J,C,lo,G,D⟩=[.str nm,.int .i64 J,aD C,.int .i64 lo,.int .i64 G,.int .i64 D]:=rfl;rw[aZ,U];show Cl aj _ _ [] (.t (.int .i64 (dx m.ao C))) []
 refine Cl.ap rfl Tryz.func121 rfl rfl rfl ?_;refine aq ?_;refine az.ind (fun q:Nat=>[(5,.t (.int .i64 (dx m.ao (C.take q)))),(6,.t (.int .i64 (q:Int)))]) (fun q=>q<=C.length) (fun q=>C.length - q) 0 rfl (by omega) (fun q hq=>?_);rcases Nat.lt_or_ge q C.length with h4|h4
 ·
  obtain⟨c,v⟩:=am h4;have hc:=bg v;have I:=List.all_eq_true.1 ht c (List.mem_of_getElem? v);have z:=nC hs (C:=C.take (q+1)) (List.all_eq_true.2 fun x hx=>List.all_eq_true.1 ht x (List.mem_of_mem_take hx)) (by simp;omega);have u:=zA (S:=m.ao) v;rw[u]at z;simp only[cr,Bool.and_eq_true,decide_eq_true_eq]at I;obtain⟨h0,h5⟩:=I;obtain⟨s,y⟩:=am (xs:=m.ao) (k:=c.toNat) (by omega);have hg:=bg y;rw[fL y]at z u;obtain⟨p,hp⟩:∃p,dx m.ao (C.take q)=p:=⟨_,rfl⟩;rw[hp]at z u⊢;refine aq ?_;refine⟨q+1,?_,rfl,by omega,by omega⟩;rw[u];rfl
 ·
  rw[List.take_of_length_le h4];exact ah
def N0{m:Md}(hm:bx m)(hv:bJ m.ao m.tables=true):Cl aj 82 [.t (bN m)] [] (.t (.int .i64 (bF m.ao true m.tables))) []:=by
 have ab:=fT m.tables;have V:=kK hv;have J:=tf hv;have D:=fun(t:Tb) h1 h2=>Ff (t:=t) hm J h1 h2;rw[aZ]at D⊢;refine Cl.ap rfl Tryz.func82 rfl rfl rfl ?_;refine aq ?_;refine az.ind (fun q:Nat=>[(3,.t (.int .i64 (bF m.ao true (m.tables.take q)))),(4,.t (.int .i64 (q:Int)))]) (fun q=>q<=m.tables.length) (fun q=>m.tables.length - q) 0 rfl (by omega) (fun q hq=>?_);rcases Nat.lt_or_ge q m.tables.length with h3|h3
 ·
  obtain⟨t,U⟩:=am h3;have hc:=fB U;obtain⟨Z,c2,c3⟩:=lD hv U;have kn:=D t c3 Z;have z:=EP t.kind;have u:=uI (S:=m.ao) true U;have y:=mj (S:=m.ao) true (m.tables.take q);have G:=oG m.ao t.au;have I:(m.tables.take q).length=q:=by simp;omega
  rw[I]at y;obtain⟨a,ha⟩:∃a,bF m.ao true (m.tables.take q)=a:=⟨_,rfl⟩;obtain⟨N,hN⟩:∃N,bE m.ao t.au=N:=⟨_,rfl⟩;rw[ha]at u y⊢;rw[hN]at u G kn
  cases v:bz t.kind with
  |true=>
   rw[v]at z;rw[v,if_pos rfl]at u;refine aq ?_;refine⟨q+1,?_,rfl,by omega,by omega⟩;rw[u];rfl
  |false=>
   rw[v]at z;rw[v,if_neg (by decide)]at u;refine aq ?_;refine⟨q+1,?_,rfl,by omega,by omega⟩;rw[u];rfl
 ·
  rw[List.take_of_length_le h3];exact ah
theorem DK(S:List Int):∀(l:List Tb) (a:Int),a+(l.flatMap (lJ S)).length=l.foldl (fun n t=>if bz t.kind=false then n+bE S t.au else n) a
 |[],a=>by simp
 |t::l,a=>by
  have v:=oG S t.au;have u:=DK S l (if bz t.kind=false then a+bE S t.au else a);rw[List.flatMap_cons,List.foldl_cons,<- u,List.length_append];unfold lJ;cases bz t.kind <;>simp <;>omega
def DQ(S:List Int)(l:List Tb):((lI S l).length:Int)=bF S false l:=by
 have:=DK S l 0;unfold bF lI;omega
def jJ(S:List Int)(L:List Tb)(q k:Nat)(t:Tb):List Tb:=(L.take q).flatMap (lJ S)++List.replicate k t
def PQ(l m:List Tb):bC l++bC m=bC (l++m):=by unfold bC;rw[List.map_append]
def ND{m:Md}(hm:bx m)(hv:bJ m.ao m.tables=true):Cl aj 83 [.t (bN m)] [] (.ls 0) [.row false false 6 (bC (lI m.ao m.tables))]:=by
 have ab:=fT m.tables;have y:=kK hv;have G:=tf hv;have v:=fun(t:Tb) h1 h2=>Ff (t:=t) hm G h1 h2;obtain⟨S,hS⟩:∃S,m.ao=S:=⟨_,rfl⟩;obtain⟨L,hL⟩:∃L,m.tables=L:=⟨_,rfl⟩;rw[aZ]at v⊢;rw[hS]at hv y G v⊢;rw[hL]at hv y ab v⊢;unfold lI;refine Cl.ap rfl Tryz.func83 rfl rfl rfl ?_;refine aq ?_;refine az.c8 (fun x:Nat×Bool=>[(3,.ls 1),(4,.t (.int .i64 (x.1:Int)))]) (fun x=>[.box false 30 (([aD S,.arr (bC L),.arr (cq m.bH),.arr (fk m.cons),.arr (fv m.ops),.arr (eg m.ax),.arr (c7 m.aG)]:List AV).map .t),.row false x.2 6 (bC ((L.take x.1).flatMap (lJ S)))]) (fun x=>x.1<=L.length) (fun x=>L.length - x.1) (0,false) rfl rfl (by simp) (fun x hq=>?_);obtain⟨q,I⟩:=x;dsimp only at hq⊢;rcases Nat.lt_or_ge q L.length with h3|h3
 ·
  obtain⟨t,ht⟩:=am h3;have hc:=fB ht;obtain⟨c1,c2,c3⟩:=lD hv ht;have kN:=v t c3 c1;have z:=EP t.kind;have Z:=oG S t.au
  have al:bE S t.au≠0:=by
   have h1:=rf hv ht;simp only[io,Bool.and_eq_true,Bool.not_eq_true',decide_eq_false_iff_not]at h1;exact h1.2.2.2.1
  obtain⟨N,hN⟩:∃N,(bE S t.au).toNat=N:=⟨_,rfl⟩;have V:bE S t.au=(N:Int):=by omega
  rw[V]at kN Z al
  cases hs:bz t.kind with
  |false=>
   rw[hs]at z;have U:(L.take q).flatMap (lJ S)=jJ S L q 0 t:=by unfold jJ;simp
   have D:jJ S L q N t=(L.take (q+1)).flatMap (lJ S):=by
    unfold jJ;rw[sQ ht];unfold lJ;rw[hs,if_neg (by decide),hN]
   rw[U]
   have ad:∀k,k<=N->(jJ S L q k t).length<=4000:=fun k hk=>by
    have h1:=DQ S (L.take q);have h2:=mj (S:=S) false (L.take q);have h4:(L.take q).length<=12:=by simp;omega
    unfold lI at h1;unfold jJ;rw[List.length_append,List.length_replicate];omega
   refine aq ?_;refine az.c8 (fun x:Nat×Bool=>[(3,.ls 1),(5,.t (.int .i64 (x.1:Int)))]) (fun x=>[.box false 30 (([aD S,.arr (bC L),.arr (cq m.bH),.arr (fk m.cons),.arr (fv m.ops),.arr (eg m.ax),.arr (c7 m.aG)]:List AV).map .t),.row false x.2 6 (bC (jJ S L q x.1 t))]) (fun x=>x.1<=N) (fun x=>N - x.1) (0,I) rfl rfl (by simp) (fun x hk=>?_);obtain⟨k,J⟩:=x;dsimp only at hk⊢;rcases Nat.lt_or_ge k N with h4|h4
   ·
    have an:bC (jJ S L q k t)++[[.str t.name,.int .i64 t.kind,aD t.au,.int .i64 t.lo,.int .i64 t.hi,.int .i64 t.first]]=bC (jJ S L q (k+1) t):=by
     have:jJ S L q (k+1) t=jJ S L q k t++[t]:=by unfold jJ;rw[EL,List.append_assoc]
     rw[this];exact PQ _ [t]
    have ag:cn ((bC (jJ S L q k t)).length+1) 72=true:=by
     have:=ad k hk;rw[fT];simp[cn];omega
    repeat'(first
|(with_reducible first|apply ac.seq|apply ac.block)
|((with_reducible apply ac.text);(try case hm=>exact rfl))
|((with_reducible apply ac.drawn);(case hm=>exact rfl))
|(with_reducible first|apply ac.skip|apply aH)
|((with_reducible apply ac.aR);(case hc=>exact rfl))
|((with_reducible apply aa.aF);(case hp=>exact ak))
|(with_reducible first|apply aa.aB|apply aa.dF)
|((with_reducible apply aa.u);(case hx=>((with_reducible apply af.ei);(case hs=>exact fun _=>rfl);(case ha|ht=>exact rfl);(case hr=>first|(with_reducible exact ec)|(with_reducible exact rw1)|(with_reducible exact ed)|(with_reducible exact rw3)|(with_reducible exact rw4)|exact rfl);(case hx|hy|hn|hb|hok=>exact rfl);(case hlen=>exact ag);(case hv=>exact an);(case hk=>exact ez);(case hf=>exact leq))))
|((with_reducible apply aa.av);(case hW=>exact rfl);(case hx=>first
|(exact ai z)
|exact ae))
|((with_reducible apply aa.u0);(case hx=>first
|(exact ai kN)
|exact ae))
|fail)
    exact⟨(k+1,true),rfl,rfl,by dsimp only;omega,by dsimp only;omega⟩
   ·
    obtain rfl:k=N:=by omega
    rw[D];refine aq ?_;exact⟨(q+1,J),rfl,rfl,by dsimp only;omega,by dsimp only;omega⟩
  |true=>
   rw[hs]at z
   have U:(L.take q).flatMap (lJ S)=(L.take (q+1)).flatMap (lJ S):=by
    rw[sQ ht];unfold lJ;rw[hs,if_pos rfl,List.append_nil]
   rw[U];refine aq ?_;refine az.step ?_;refine aq ?_;exact⟨(q+1,I),rfl,rfl,by dsimp only;omega,by dsimp only;omega⟩
 ·
  rw[List.take_of_length_le h3];exact ah
end Go.Proofs.YtcgdbhlnkificaaGreatDoor
