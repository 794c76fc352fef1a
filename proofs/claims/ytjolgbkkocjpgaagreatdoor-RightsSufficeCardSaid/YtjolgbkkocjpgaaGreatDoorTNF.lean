/- The reference's models,part by part,as contracts:. No condition. -/
import Derived.Test.YtjolgbkkocjpgaaGreatDoorTNB
import Derived.Test.YtjolgbkkocjpgaaGreatDoorTS
set_option linter.all false
namespace Go.Proofs.YtjolgbkkocjpgaaGreatDoor
open Go.RowKit
set_option maxRecDepth 100000
set_option maxHeartbeats 32000000
def ND{m:Md}{o:gq}:eF m o=((o.ai.drop 0).all (fun s=>decide (-1<=s)&&decide (s <m.ai.length))&&decide (o.ai.length<=3)):=rfl
def E4{m:Md}{o:gq}(h:eF m o=true){k:Nat}{s:Int}(hs:o.ai[k]?=some s): -1<=s/\s <m.ai.length:=by
 unfold eF at h;simp only[Bool.and_eq_true]at h;have:=List.all_eq_true.1 h.1 s (List.mem_of_getElem? hs);simpa using this
def B2{m:Md}{s a:Int}(h:s <0):j9 m s a=cH a 9999:=by unfold j9;rw[if_pos h]
def B3{m:Md}{s a n:Int}(h:0<=s)(hn:m.ai[s.toNat]?=some n):j9 m s a=(decide (0<=a)&&decide (a <n)):=by unfold j9;rw[if_neg (by omega),fb hn]
def BP{m:Md}{n:Int}{i:Nat}{a b:dU}{o:gq}(h0:0<=a.op)(h1:a.op <m.ops.length)(ho:m.ops[a.op.toNat]?=some o)(hb:m.au.getD (i - 1) fv=b):dA m n i a=((decide (a.args.length=o.ai.length)&&aL (fun k x=>j9 m (o.ai.getD k 0) x) 0 (a.args.drop 0))&&
  ((decide (i=0)||(decide (b.op <a.op)||(decide (b.op=a.op)&&iN b.args a.args)))&&lC m n a.eff)):=by
 have e:m.ops.getD a.op.toNat uN=o:=by rw[List.getD_eq_getElem?_getD,ho];rfl
 unfold dA;rw[e,hb,decide_eq_true h0,decide_eq_true h1];rfl
def BQ{m:Md}{n:Int}{i:Nat}{a:dU}(h:¬(0<=a.op/\a.op <m.ops.length)):dA m n i a=false:=by
 rw[<- Bool.not_eq_true];intro u;unfold dA at u;simp only[Bool.and_eq_true,decide_eq_true_eq]at u;exact h u.1.1.1
def On{m:Md}(hm:bo m)(hv:bQ m.ai m.tables=true)(bh:∀a∈m.au,iB a.eff)(G:m.ops.length<=4398046511104):Cl ah 88 [.t (bk m)] [] (.t (.bool (pB m (bH m.ai m.tables true).length))) []:=by
 have c0:=mU m.ops;have cM:=fN m.au;have c4:=aO m.ai;have dm:=hm.ops;have ad:=hm.rX;have dj:=hm.au;have V:=hm.args;have ch:=jk hv;have ke:=fun(a:dU) (ha:a∈m.au)=>OE hm (bh a ha);obtain⟨n,hn⟩:∃n,(bH m.ai m.tables true).length=n:=⟨_,rfl⟩;rw[hn]at ke⊢;obtain⟨Y1,av⟩:∃Y,(decide (m.ops.length<=8)&&(gP (m.ops.map (·.name))&&decide (m.au.length<=256)))=Y:=⟨_,rfl⟩;obtain⟨Y2,aD⟩:∃Y,allI (dA m n) m.au=Y:=⟨_,rfl⟩;have e0:pB m n=(((m.ops.drop 0).all (eF m)&&Y1)&&Y2):=by rw[<- av,<- aD];rfl
 have kd:=FD (L:=m.ops.map (·.name)) (by simp;omega);rw[e0];rw[aS]at ke⊢;refine Cl.aq rfl Tryz.func88 rfl rfl rfl ?_;refine ak ?_;refine ax.cA (fun x:Nat×Bool=>[(3,.ls 1),(4,.t (.int .i64 (x.1:Int)))]) (fun x=>[.box false 30 ((eD m).map .t),.row false x.2 1 (bX ((m.ops.take x.1).map (·.name)))]) (fun x=>x.1<=m.ops.length/\(m.ops.drop 0).all (eF m)=(m.ops.drop x.1).all (eF m)/\(m.ops.take x.1).all (eF m)=true) (fun x=>m.ops.length - x.1) (0,false) rfl rfl ⟨by dsimp only;omega,rfl,by simp⟩ (fun x I=>?_);obtain⟨q,eb⟩:=x;dsimp only at I⊢;obtain⟨h1,h2,ao⟩:=I;rw[h2];rcases Nat.lt_or_ge q m.ops.length with h3|h3
 ·
  obtain⟨o,ho⟩:=aj h3;have b0:=nO ho;have b1:=ad o (List.mem_of_getElem? ho);have bU:=aO o.ai;have bz:=i_ (eF m) ho
  have b3:bX ((m.ops.take q).map (·.name))++[[.str o.name]]=bX ((m.ops.take (q+1)).map (·.name)):=by
   rw[List.take_add_one,ho];simp[bX]
  have bT:b6 ((bX ((m.ops.take q).map (·.name))).length+1) 16=true:=by
   rw[nM];simp[b6];omega
  have e1:=ND (m:=m) (o:=o);obtain⟨f,hf⟩:∃f:Int->Bool,(fun s:Int=>decide (-1<=s)&&decide (s <m.ai.length))=f:=⟨_,rfl⟩;rw[hf]at e1;obtain⟨Z,hZ⟩:∃Z,(m.ops.drop (q+1)).all (eF m)=Z:=⟨_,rfl⟩;rw[bz,hZ,e1]
  repeat'(first
|(with_reducible first|apply am.seq|apply am.block)
|((with_reducible apply am.text);(try case hm=>exact rfl))
|(with_reducible first|apply am.skip|apply dx)
|((with_reducible apply am.ew);(case hc=>exact rfl))
|((with_reducible apply aa.aR);(case hp=>exact aA))
|(with_reducible apply aa.cI)
|((with_reducible apply aa.u);(case hx=>((with_reducible apply ac.da);(case hs=>exact fun _=>rfl);(case ha|ht=>exact rfl);(case hr=>first|(with_reducible exact c7)|(with_reducible exact rw1)|(with_reducible exact c8)|(with_reducible exact rw3)|(with_reducible exact rw4)|exact rfl);(case hx|hy|hn|hb|hok=>exact rfl);(case hlen=>exact bT);(case hv=>exact b3);(case hk=>exact de);(case hf=>exact leq))))
|((with_reducible apply aa.u0);(case hx=>exact af))
|fail)
  apply am.lK
  case ho=>exact rfl
  case hp=>exact rfl
  case hl=>exact rfl
  case hs=>exact slt
  refine ax.ind (fun k:Nat=>[(6,.t (.int .i64 (k:Int)))]) (fun k=>k<=o.ai.length/\(o.ai.drop 0).all f=(o.ai.drop k).all f) (fun k=>o.ai.length - k) 0 rfl ⟨by omega,rfl⟩ (fun k hk=>?_);obtain⟨g1,U⟩:=hk;rw[U];rcases Nat.lt_or_ge k o.ai.length with g3|g3
  ·
   obtain⟨s,hs⟩:=aj g3;have b2:=aW hs;have b4:=i_ f hs;have bw:f s=(decide (-1<=s)&&decide (s <m.ai.length)):=by rw[<- hf]
   rw[b4,bw]
   repeat'(first
|((with_reducible apply aa.aR);(case hp=>exact aA))
|((with_reducible apply aa.aX)<;>intro I)
|((with_reducible apply aa.bi)<;>intro I)
|(refine ar ?_)
|((with_reducible apply aa.aB);(case hW=>exact rfl);(case hx=>exact af))
|((with_reducible apply aa.u0);(case hx=>exact af))
|fail)
   all_goals first
    |exact⟨k+1,rfl,rfl,⟨by omega,by rw[decide_eq_true (show -1<=s by omega),decide_eq_true (show s <m.ai.length by omega)];rfl⟩,by omega⟩
    |exact a_ (.inr rfl) rfl (by rw[decide_eq_false (show¬ -1<=s by omega)];rfl)
    |exact a_ (.inr rfl) rfl (by rw[decide_eq_false (show¬s <m.ai.length by omega),Bool.and_false];rfl)
  ·
   rw[g_ _ g3,Bool.true_and];by_cases g4:o.ai.length<=3
   ·
    have al:eF m o=true:=by rw[e1,U,g_ _ g3,decide_eq_true g4];rfl
    rw[decide_eq_true g4,Bool.true_and];refine ak ?_;exact⟨(q+1,true),rfl,rfl,⟨by dsimp only;omega,by dsimp only;exact hZ.symm,qW ao ho al⟩,by dsimp only;omega⟩
   ·
    rw[decide_eq_false g4];exact ae
 ·
  rw[g_ _ h3,Bool.true_and];have aJ:∀o∈m.ops,eF m o=true:=fun o ho=>List.all_eq_true.1 (sO ao h3) o ho;rw[List.take_of_length_le h3,<- av];obtain⟨d,hd⟩:∃d,gP (m.ops.map (·.name))=d:=⟨_,rfl⟩;rw[hd]at kd⊢;by_cases h8:m.ops.length<=8/\d=true/\m.au.length<=256
  ·
   obtain⟨a1,rfl,a6⟩:=h8;rw[decide_eq_true a1,decide_eq_true a6];rw[show(true&&(true&&true))=true by rfl,Bool.true_and,<- aD];have e2:allI (dA m n) m.au=aL (dA m n) 0 (m.au.drop 0):=rfl;rw[e2];refine ak ?_;refine ax.ind (fun q:Nat=>[(7,.t (.int .i64 (q:Int)))]) (fun q=>q<=m.au.length/\aL (dA m n) 0 (m.au.drop 0)=aL (dA m n) q (m.au.drop q)) (fun q=>m.au.length - q) 0 rfl ⟨by omega,rfl⟩ (fun q I=>?_);obtain⟨k1,k2⟩:=I;rw[k2];rcases Nat.lt_or_ge q m.au.length with k3|k3
   ·
    obtain⟨a,ha⟩:=aj k3;have cL:=ei ha;have ab:=List.mem_of_getElem? ha;have cc:=ke a ab;have dd:=aO a.args;have cl:=V a ab;have y:=dB (p:=dA m n) ha;have hok:=dC (p:=dA m n) ha;by_cases G:0<=a.op/\a.op <m.ops.length
    ·
     obtain⟨o,ho⟩:=aj (xs:=m.ops) (k:=a.op.toNat) (by omega);have b0:=nO ho;have al:=aJ o (List.mem_of_getElem? ho);have bU:=aO o.ai;have b1:=ad o (List.mem_of_getElem? ho);obtain⟨b,hb⟩:∃b,m.au.getD (q - 1) fv=b:=⟨_,rfl⟩;have v:=BP (m:=m) (n:=n) (i:=q) (a:=a) (b:=b) (o:=o) G.1 G.2 ho hb;obtain⟨o1,o2⟩:=G;by_cases aG:a.args.length=o.ai.length
     ·
      rw[decide_eq_true aG,Bool.true_and]at v;obtain⟨f,hf⟩:∃f:Nat->Int->Bool,(fun k x=>j9 m (o.ai.getD k 0) x)=f:=⟨_,rfl⟩;rw[hf]at v;refine ak ?_;refine ax.ind (fun k:Nat=>[(9,.t (.int .i64 (k:Int)))]) (fun k=>k<=a.args.length/\aL f 0 (a.args.drop 0)=aL f k (a.args.drop k)) (fun k=>a.args.length - k) 0 rfl ⟨by omega,rfl⟩ (fun k hk=>?_);obtain⟨g1,U⟩:=hk;rcases Nat.lt_or_ge k a.args.length with g3|g3
      ·
       obtain⟨x,hx⟩:=aj g3;have dr:=aW hx;obtain⟨s,hs⟩:=aj (xs:=o.ai) (k:=k) (by omega);have b2:=aW hs;obtain⟨s1,s2⟩:=E4 al hs;have z:=dB (p:=f) hx;have D:=dC (p:=f) hx;have bm:f k x=j9 m s x:=by rw[<- hf];dsimp only;rw[fb hs]
       rw[bm]at z D;rcases Int.lt_or_le s 0 with an|an
       ·
        rw[B2 an]at z D;have kb:=Ou x;obtain⟨bb,a8⟩:∃bb,cH x 9999=bb:=⟨_,rfl⟩;rw[a8]at kb z D
        cases bb with
        |false=>
         rw[y (by rw[v,U,z (by decide)];simp)];exact ae
        |true=>
         refine ak ?_;exact⟨k+1,rfl,rfl,⟨by omega,by rw[U];exact D rfl⟩,by omega⟩
       ·
        obtain⟨N,hN⟩:=aj (xs:=m.ai) (k:=s.toNat) (by omega);have ct:=aW hN;rw[B3 an hN]at z D;by_cases aV:0<=x/\x <N
        ·
         obtain⟨r1,r2⟩:=aV;refine ak ?_;exact⟨k+1,rfl,rfl,⟨by omega,by rw[U];exact D (by rw[decide_eq_true r1,decide_eq_true r2];rfl)⟩,by omega⟩
        ·
         have ag:(decide (0<=x)&&decide (x <N))=false:=by rw[<- Bool.not_eq_true];simpa using aV
         rw[y (by rw[v,U,z (by rw[ag];decide)];simp)]
         repeat'(first
|(refine aY ?_)
|((with_reducible apply aa.bi)<;>intro I)
|(refine ar ?_)
|((with_reducible apply aa.aB);(case hW=>exact rfl);(case hx=>exact af))
|((with_reducible apply aa.u0);(case hx=>exact af))
|fail)
         all_goals first
          |exact⟨.inr rfl,rfl⟩
          |(exfalso;omega)
      ·
       rw[U,cU g3,Bool.true_and]at v;obtain⟨be,bd⟩:∃be,lC m n a.eff=be:=⟨_,rfl⟩;rw[bd]at cc v
       cases q with
       |zero=>
        rw[decide_eq_true (show(0:Nat)=0 by rfl),Bool.true_or,Bool.true_and]at v
        cases be with
        |false=>
         rw[y (by rw[v];decide)];exact ae
        |true=>
         refine ak ?_;exact⟨0+1,rfl,rfl,⟨by omega,hok v⟩,by omega⟩
       |succ p=>
        obtain⟨w,hw⟩:=aj (xs:=m.au) (k:=p) (by omega);have b5:=ei hw;have cp:(cK m.au)[((p+1:Nat) - 1:Int).toNat]?=some [.int .i64 w.op,ay w.args,.arr (jb w.eff.delta),.arr (iT w.eff.hold),.arr (iW w.eff.cg)]:=by rw[show((p+1:Nat) - 1:Int).toNat=p by omega];exact b5
        have bx:m.au.getD (p+1 - 1) fv=w:=by rw[Nat.add_sub_cancel,List.getD_eq_getElem?_getD,hw];rfl
        obtain rfl:w=b:=by rw[<- bx,hb]
        have df:=aO w.args;have cf:=O1 (A:=w.args) (B:=a.args) (by have:=V w (List.mem_of_getElem? hw);omega) (by omega);rw[decide_eq_false (show¬p+1=0 by omega),Bool.false_or]at v;obtain⟨bl,bf⟩:∃bl,iN w.args a.args=bl:=⟨_,rfl⟩;rw[bf]at cf v;rcases Int.lt_trichotomy w.op a.op with J|J|J
        ·
         rw[decide_eq_true J,Bool.true_or,Bool.true_and]at v
         cases be with
         |false=>
          rw[y (by rw[v];decide)];exact ae
         |true=>
          refine ak ?_;exact⟨p+1+1,rfl,rfl,⟨by omega,hok v⟩,by omega⟩
        ·
         rw[decide_eq_false (show¬w.op <a.op by omega),decide_eq_true J,Bool.false_or,Bool.true_and]at v
         cases bl with
         |false=>
          rw[y (by rw[v];simp)];exact ae
         |true=>
          rw[Bool.true_and]at v
          cases be with
          |false=>
           rw[y (by rw[v];decide)];exact ae
          |true=>
           refine ak ?_;exact⟨p+1+1,rfl,rfl,⟨by omega,hok v⟩,by omega⟩
        ·
         rw[decide_eq_false (show¬w.op <a.op by omega),decide_eq_false (show¬w.op=a.op by omega)]at v;rw[y (by rw[v];simp)];exact ae
     ·
      rw[decide_eq_false aG,Bool.false_and,Bool.false_and]at v;rw[y (by rw[v];decide)];exact ae
    ·
     rw[y (by rw[BQ G];decide)]
     repeat'(first
|(refine aY ?_)
|((with_reducible apply aa.aX)<;>intro I)
|(refine ar ?_)
|((with_reducible apply aa.aB);(case hW=>exact rfl);(case hx=>exact af))
|((with_reducible apply aa.u0);(case hx=>exact af))
|fail)
     all_goals first
      |exact⟨.inr rfl,rfl⟩
      |(exfalso;omega)
   ·
    rw[cU k3];exact ae
  ·
   have ag:(decide (m.ops.length<=8)&&(d&&decide (m.au.length<=256)))=false:=by
    rw[<- Bool.not_eq_true];simpa using h8
   rw[ag]
   cases d with
   |true=>
    repeat'(first
|((with_reducible apply aa.cQ);(case hp=>exact aA))
|((with_reducible apply aa.aX)<;>intro I)
|((with_reducible apply aa.bi)<;>intro I)
|(refine ar ?_)
|((with_reducible apply aa.aB);(case hW=>exact rfl);(case hx=>first
|(exact ap kd)
|exact af))
|((with_reducible apply aa.u0);(case hx=>exact af))
|fail)
    all_goals first
     |exact⟨.inr rfl,rfl⟩
     |(exfalso;apply h8;exact⟨by omega,rfl,by omega⟩)
   |false=>
    exact ae
def FP{m:Md}(hm:bo m)(G:∀a∈m.au,iB a.eff)(I:m.ops.length<=4398046511104):Cl ah 53 [.t (bk m)] [] (.t (.bool (b7 m))) []:=by
 have ab:=nM m.bx;have ad:=hm.bx;have kv:=AQ (S:=m.ai) (L:=m.tables) (by have:=hm.ai;omega) (by have:=hm.tables;omega) (fun t ht=>by have:=hm.av t ht;omega);have kd:=FD (L:=m.bx) (by omega)
 cases u:bQ m.ai m.tables with
 |false=>
  have D:b7 m=false:=by unfold b7;rw[u];rfl
  rw[u]at kv;rw[aS,D];refine Cl.aq rfl Tryz.func53 rfl rfl rfl ?_;exact ae
 |true=>
  have kc:=Ov hm u;have Z:=On hm u G I;have kh:=OR hm u;rw[u]at kv;obtain⟨d,hd⟩:∃d,gP m.bx=d:=⟨_,rfl⟩;obtain⟨J,v⟩:∃b,lz m (bH m.ai m.tables true)=b:=⟨_,rfl⟩;obtain⟨U,y⟩:∃b,pB m (bH m.ai m.tables true).length=b:=⟨_,rfl⟩;obtain⟨b3,z⟩:∃b,gC m=b:=⟨_,rfl⟩;have D:b7 m=((decide (m.bx.length<=24)&&d)&&(J&&(U&&b3))):=by unfold b7;rw[u,hd,v,y,z];rfl
  rw[hd]at kd;rw[v]at kc;rw[y]at Z;rw[z]at kh;rw[aS]at kc Z kh⊢;rw[D];refine Cl.aq rfl Tryz.func53 rfl rfl rfl ?_;by_cases V:m.bx.length<=24
  ·
   rw[decide_eq_true V]
   cases d with
   |false=>
    exact ae
   |true=>
    cases J with
    |false=>
     exact ae
    |true=>
     cases U with
     |false=>
      exact ae
     |true=>
      exact ae
  ·
   rw[decide_eq_false V];exact ae
def FL(k:Int):Cl ah 90 [.t (.int .i64 k)] [] (.t (.bool (bA k))) []:=by
 refine Cl.aq rfl Tryz.func90 rfl rfl rfl ?_
 repeat'(first
|((with_reducible apply aa.aX)<;>intro u)
|((with_reducible apply aa.bi)<;>intro u)
|(refine ar ?_)
|((with_reducible apply aa.aB);(case hW=>exact rfl);(case hx=>exact af))
|((with_reducible apply aa.u0);(case hx=>exact af))
|fail)
 all_goals(refine a_ (.inr rfl) rfl ?_;unfold bA;first|(simp_all;done)|(simp_all;omega))
def EV{S C:List Int}(hs:cx S=true)(hc:C.all (cr S)=true)(hl:C.length<=3):bG S C=c6 S C:=by
 unfold bG;rw[decide_eq_true hl,hs,hc];rfl
def Gd{m:Md}{t:Tb}(hm:bo m)(hs:cx m.ai=true)(ht:t.av.all (cr m.ai)=true)(hl:t.av.length<=3):Cl ah 91 [.t (bk m),.t (.agg (eJ t))] [] (.t (.int .i64 (bG m.ai t.av))) []:=by
 rw[EV hs ht hl];have Z:=aO m.ai;have ab:=hm.ai;obtain⟨nm,J,C,lo,G,D⟩:=t;have ht:C.all (cr m.ai)=true:=ht;have hl:C.length<=3:=hl;have V:=aO C;have U:eJ ⟨nm,J,C,lo,G,D⟩=[.str nm,.int .i64 J,ay C,.int .i64 lo,.int .i64 G,.int .i64 D]:=rfl;rw[aS,U];show Cl ah _ _ [] (.t (.int .i64 (c6 m.ai C))) []
 refine Cl.aq rfl Tryz.func91 rfl rfl rfl ?_;refine ak ?_;refine ax.ind (fun q:Nat=>[(5,.t (.int .i64 (c6 m.ai (C.take q)))),(6,.t (.int .i64 (q:Int)))]) (fun q=>q<=C.length) (fun q=>C.length - q) 0 rfl (by omega) (fun q hq=>?_);rcases Nat.lt_or_ge q C.length with h4|h4
 ·
  obtain⟨c,v⟩:=aj h4;have hc:=aW v;have I:=List.all_eq_true.1 ht c (List.mem_of_getElem? v);have z:=mY hs (C:=C.take (q+1)) (List.all_eq_true.2 fun x hx=>List.all_eq_true.1 ht x (List.mem_of_mem_take hx)) (by simp;omega);have u:=wP (S:=m.ai) v;rw[u]at z;simp only[cr,Bool.and_eq_true,decide_eq_true_eq]at I;obtain⟨h0,h5⟩:=I;obtain⟨s,y⟩:=aj (xs:=m.ai) (k:=c.toNat) (by omega);have hg:=aW y;rw[fb y]at z u;obtain⟨p,hp⟩:∃p,c6 m.ai (C.take q)=p:=⟨_,rfl⟩;rw[hp]at z u⊢;refine ak ?_;refine⟨q+1,?_,rfl,by omega,by omega⟩;rw[u];rfl
 ·
  rw[List.take_of_length_le h4];exact ae
def Px{m:Md}(hm:bo m)(hv:bQ m.ai m.tables=true):Cl ah 54 [.t (bk m)] [] (.t (.int .i64 (bp m.ai true m.tables))) []:=by
 have ab:=fJ m.tables;have V:=jk hv;have J:=p_ hv;have D:=fun(t:Tb) h1 h2=>Gd (t:=t) hm J h1 h2;rw[aS]at D⊢;refine Cl.aq rfl Tryz.func54 rfl rfl rfl ?_;refine ak ?_;refine ax.ind (fun q:Nat=>[(3,.t (.int .i64 (bp m.ai true (m.tables.take q)))),(4,.t (.int .i64 (q:Int)))]) (fun q=>q<=m.tables.length) (fun q=>m.tables.length - q) 0 rfl (by omega) (fun q hq=>?_);rcases Nat.lt_or_ge q m.tables.length with h3|h3
 ·
  obtain⟨t,U⟩:=aj h3;have hc:=fo U;obtain⟨Z,c2,c3⟩:=jL hv U;have kn:=D t c3 Z;have z:=FL t.kind;have u:=rc (S:=m.ai) true U;have y:=ky (S:=m.ai) true (m.tables.take q);have G:=mS m.ai t.av;have I:(m.tables.take q).length=q:=by simp;omega
  rw[I]at y;obtain⟨a,ha⟩:∃a,bp m.ai true (m.tables.take q)=a:=⟨_,rfl⟩;obtain⟨N,hN⟩:∃N,bG m.ai t.av=N:=⟨_,rfl⟩;rw[ha]at u y⊢;rw[hN]at u G kn
  cases v:bA t.kind with
  |true=>
   rw[v]at z;rw[v,if_pos rfl]at u;refine ak ?_;refine⟨q+1,?_,rfl,by omega,by omega⟩;rw[u];rfl
  |false=>
   rw[v]at z;rw[v,if_neg (by decide)]at u;refine ak ?_;refine⟨q+1,?_,rfl,by omega,by omega⟩;rw[u];rfl
 ·
  rw[List.take_of_length_le h3];exact ae
theorem Es(S:List Int):∀(l:List Tb) (a:Int),a+(l.flatMap (lO S)).length=l.foldl (fun n t=>if bA t.kind=false then n+bG S t.av else n) a
 |[],a=>by simp
 |t::l,a=>by
  have v:=mS S t.av;have u:=Es S l (if bA t.kind=false then a+bG S t.av else a);rw[List.flatMap_cons,List.foldl_cons,<- u,List.length_append];unfold lO;cases bA t.kind <;>simp <;>omega
def EA(S:List Int)(l:List Tb):((lN S l).length:Int)=bp S false l:=by
 have:=Es S l 0;unfold bp lN;omega
def jO(S:List Int)(L:List Tb)(q k:Nat)(t:Tb):List Tb:=(L.take q).flatMap (lO S)++List.replicate k t
def Q8(l m:List Tb):bq l++bq m=bq (l++m):=by unfold bq;rw[List.map_append]
def O3{m:Md}(hm:bo m)(hv:bQ m.ai m.tables=true):Cl ah 55 [.t (bk m)] [] (.ls 0) [.row false false 6 (bq (lN m.ai m.tables))]:=by
 have ab:=fJ m.tables;have y:=jk hv;have G:=p_ hv;have v:=fun(t:Tb) h1 h2=>Gd (t:=t) hm G h1 h2;obtain⟨S,hS⟩:∃S,m.ai=S:=⟨_,rfl⟩;obtain⟨L,hL⟩:∃L,m.tables=L:=⟨_,rfl⟩;rw[aS]at v⊢;rw[hS]at hv y G v⊢;rw[hL]at hv y ab v⊢;unfold lN;refine Cl.aq rfl Tryz.func55 rfl rfl rfl ?_;refine ak ?_;refine ax.cA (fun x:Nat×Bool=>[(3,.ls 1),(4,.t (.int .i64 (x.1:Int)))]) (fun x=>[.box false 30 (([ay S,.arr (bq L),.arr (bX m.bx),.arr (dc m.cons),.arr (dk m.ops),.arr (cK m.au),.arr (cu m.aG)]:List AV).map .t),.row false x.2 6 (bq ((L.take x.1).flatMap (lO S)))]) (fun x=>x.1<=L.length) (fun x=>L.length - x.1) (0,false) rfl rfl (by simp) (fun x hq=>?_);obtain⟨q,I⟩:=x;dsimp only at hq⊢;rcases Nat.lt_or_ge q L.length with h3|h3
 ·
  obtain⟨t,ht⟩:=aj h3;have hc:=fo ht;obtain⟨c1,c2,c3⟩:=jL hv ht;have kN:=v t c3 c1;have z:=FL t.kind;have Z:=mS S t.av
  have al:bG S t.av≠0:=by
   have h1:=rM hv ht;simp only[iz,Bool.and_eq_true,Bool.not_eq_true',decide_eq_false_iff_not]at h1;exact h1.2.2.2.1
  obtain⟨N,hN⟩:∃N,(bG S t.av).toNat=N:=⟨_,rfl⟩;have V:bG S t.av=(N:Int):=by omega
  rw[V]at kN Z al
  cases hs:bA t.kind with
  |false=>
   rw[hs]at z;have U:(L.take q).flatMap (lO S)=jO S L q 0 t:=by unfold jO;simp
   have D:jO S L q N t=(L.take (q+1)).flatMap (lO S):=by
    unfold jO;rw[tw ht];unfold lO;rw[hs,if_neg (by decide),hN]
   rw[U]
   have ad:∀k,k<=N->(jO S L q k t).length<=4000:=fun k hk=>by
    have h1:=EA S (L.take q);have h2:=ky (S:=S) false (L.take q);have h4:(L.take q).length<=12:=by simp;omega
    unfold lN at h1;unfold jO;rw[List.length_append,List.length_replicate];omega
   refine ak ?_;refine ax.cA (fun x:Nat×Bool=>[(3,.ls 1),(5,.t (.int .i64 (x.1:Int)))]) (fun x=>[.box false 30 (([ay S,.arr (bq L),.arr (bX m.bx),.arr (dc m.cons),.arr (dk m.ops),.arr (cK m.au),.arr (cu m.aG)]:List AV).map .t),.row false x.2 6 (bq (jO S L q x.1 t))]) (fun x=>x.1<=N) (fun x=>N - x.1) (0,I) rfl rfl (by simp) (fun x hk=>?_);obtain⟨k,J⟩:=x;dsimp only at hk⊢;rcases Nat.lt_or_ge k N with h4|h4
   ·
    have an:bq (jO S L q k t)++[[.str t.name,.int .i64 t.kind,ay t.av,.int .i64 t.lo,.int .i64 t.hi,.int .i64 t.first]]=bq (jO S L q (k+1) t):=by
     have:jO S L q (k+1) t=jO S L q k t++[t]:=by unfold jO;rw[FH,List.append_assoc]
     rw[this];exact Q8 _ [t]
    have ag:b6 ((bq (jO S L q k t)).length+1) 72=true:=by
     have:=ad k hk;rw[fJ];simp[b6];omega
    repeat'(first
|(with_reducible first|apply am.seq|apply am.block)
|((with_reducible apply am.text);(try case hm=>exact rfl))
|((with_reducible apply am.drawn);(case hm=>exact rfl))
|(with_reducible first|apply am.skip|apply dx)
|((with_reducible apply am.ew);(case hc=>exact rfl))
|((with_reducible apply aa.aR);(case hp=>exact aA))
|(with_reducible first|apply aa.cI|apply aa.eE)
|((with_reducible apply aa.u);(case hx=>((with_reducible apply ac.da);(case hs=>exact fun _=>rfl);(case ha|ht=>exact rfl);(case hr=>first|(with_reducible exact c7)|(with_reducible exact rw1)|(with_reducible exact c8)|(with_reducible exact rw3)|(with_reducible exact rw4)|exact rfl);(case hx|hy|hn|hb|hok=>exact rfl);(case hlen=>exact ag);(case hv=>exact an);(case hk=>exact de);(case hf=>exact leq))))
|((with_reducible apply aa.aB);(case hW=>exact rfl);(case hx=>first
|(exact ap z)
|exact af))
|((with_reducible apply aa.u0);(case hx=>first
|(exact ap kN)
|exact af))
|fail)
    exact⟨(k+1,true),rfl,rfl,by dsimp only;omega,by dsimp only;omega⟩
   ·
    obtain rfl:k=N:=by omega
    rw[D];refine ak ?_;exact⟨(q+1,J),rfl,rfl,by dsimp only;omega,by dsimp only;omega⟩
  |true=>
   rw[hs]at z
   have U:(L.take q).flatMap (lO S)=(L.take (q+1)).flatMap (lO S):=by
    rw[tw ht];unfold lO;rw[hs,if_pos rfl,List.append_nil]
   rw[U];refine ak ?_;refine ax.step ?_;refine ak ?_;exact⟨(q+1,I),rfl,rfl,by dsimp only;omega,by dsimp only;omega⟩
 ·
  rw[List.take_of_length_le h3];exact ae
end Go.Proofs.YtjolgbkkocjpgaaGreatDoor
