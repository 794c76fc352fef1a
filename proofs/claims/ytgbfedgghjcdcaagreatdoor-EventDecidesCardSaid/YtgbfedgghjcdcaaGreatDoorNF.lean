/- The reference's models,part by part,as contracts:. No condition. -/
import Derived.Test.YtgbfedgghjcdcaaGreatDoorNE
set_option linter.all false
namespace Go.Proofs.YtgbfedgghjcdcaaGreatDoor
open Go.RowKit
set_option maxRecDepth 100000
set_option maxHeartbeats 32000000
def FO{m:Md}{o:gm}:iA m o=((o.aq.drop 0).all (fun s=>decide (-1<=s)&&decide (s <m.aq.length))&&decide (o.aq.length<=3)):=rfl
def FP{m:Md}{o:gm}(h:iA m o=true){k:Nat}{s:Int}(hs:o.aq[k]?=some s): -1<=s/\s <m.aq.length:=by
 unfold iA at h;simp only[Bool.and_eq_true]at h;have:=List.all_eq_true.1 h.1 s (List.mem_of_getElem? hs);simpa using this
def Br{m:Md}{s a:Int}(h:s <0):kP m s a=eF a 9999:=by unfold kP;rw[if_pos h]
def Bs{m:Md}{s a n:Int}(h:0<=s)(hn:m.aq[s.toNat]?=some n):kP m s a=(decide (0<=a)&&decide (a <n)):=by unfold kP;rw[if_neg (by omega),dt hn]
def Ba{m:Md}{n:Int}{i:Nat}{a b:dT}{o:gm}(h0:0<=a.op)(h1:a.op <m.ops.length)(ho:m.ops[a.op.toNat]?=some o)(hb:m.aJ.getD (i - 1) ou=b):gu m n i a=((decide (a.args.length=o.aq.length)&&bE (fun k x=>kP m (o.aq.getD k 0) x) 0 (a.args.drop 0))&&
  ((decide (i=0)||(decide (b.op <a.op)||(decide (b.op=a.op)&&iw b.args a.args)))&&mZ m n a.eff)):=by
 have e:m.ops.getD a.op.toNat v8=o:=by rw[List.getD_eq_getElem?_getD,ho];rfl
 unfold gu;rw[e,hb,decide_eq_true h0,decide_eq_true h1];rfl
def Bb{m:Md}{n:Int}{i:Nat}{a:dT}(h:¬(0<=a.op/\a.op <m.ops.length)):gu m n i a=false:=by
 rw[<- Bool.not_eq_true];intro u;unfold gu at u;simp only[Bool.and_eq_true,decide_eq_true_eq]at u;exact h u.1.1.1
def Ge{m:Md}(hm:cW m)(hv:ce m.aq m.tables=true)(bq:∀a∈m.aJ,mD a.eff)(I:m.ops.length<=4398046511104):Cl ap 100 [.t (di m)] [] (.t (.bool (oD m (dA m.aq m.tables true).length))) []:=by
 have cZ:=yS m.ops;have cz:=mH m.aJ;have c1:=bC m.aq;have dr:=hm.ops;have ag:=hm.FW;have dq:=hm.aJ;have V:=hm.args;have ch:=k_ hv;have ke:=fun(a:dT) (ha:a∈m.aJ)=>Gu hm (bq a ha);obtain⟨n,hn⟩:∃n,(dA m.aq m.tables true).length=n:=⟨_,rfl⟩;rw[hn]at ke⊢;obtain⟨Y1,aN⟩:∃Y,(decide (m.ops.length<=8)&&(lQ (m.ops.map (·.name))&&decide (m.aJ.length<=256)))=Y:=⟨_,rfl⟩;obtain⟨Y2,aY⟩:∃Y,allI (gu m n) m.aJ=Y:=⟨_,rfl⟩;have e0:oD m n=(((m.ops.drop 0).all (iA m)&&Y1)&&Y2):=by rw[<- aN,<- aY];rfl
 have kd:=zk (L:=m.ops.map (·.name)) (by simp;omega);rw[e0];rw[cO]at ke⊢;refine Cl.aE rfl Tryz.func100 rfl rfl rfl ?_
 repeat'(first
|(with_reducible first|apply aa.seq|apply aa.block)
|((with_reducible apply aa.text);(try case hm=>exact rfl))
|(with_reducible apply ab.af)
|((with_reducible apply ab.u0);(case hx=>exact ac))
|fail)
 apply aa.aM
 case ho=>exact rfl
 case hp=>exact rfl
 case hl=>exact rfl
 case hs=>exact slt
 refine aI.cd (fun x:Nat×Bool=>[(3,.ls 1),(4,.t (.int .i64 (x.1:Int)))]) (fun x=>[.box false 30 ((cg m).map .t),.row false x.2 1 (d_ ((m.ops.take x.1).map (·.name)))]) (fun x=>x.1<=m.ops.length/\(m.ops.drop 0).all (iA m)=(m.ops.drop x.1).all (iA m)/\(m.ops.take x.1).all (iA m)=true) (fun x=>m.ops.length - x.1) (0,false) rfl rfl ⟨by dsimp only;omega,rfl,by simp⟩ (fun x J=>?_);obtain⟨q,eb⟩:=x;dsimp only at J⊢;obtain⟨h1,h2,aL⟩:=J;rw[h2];rcases Nat.lt_or_ge q m.ops.length with h3|h3
 ·
  obtain⟨o,ho⟩:=av h3;have b3:=yR ho;have b4:=ag o (List.mem_of_getElem? ho);have b2:=bC o.aq;have b0:=ib (iA m) ho
  have ca:d_ ((m.ops.take q).map (·.name))++[[.str o.name]]=d_ ((m.ops.take (q+1)).map (·.name)):=by
   rw[List.take_add_one,ho];simp[d_]
  have b1:bD ((d_ ((m.ops.take q).map (·.name))).length+1) 16=true:=by
   rw[ru];simp[bD];omega
  have e1:=FO (m:=m) (o:=o);obtain⟨f,hf⟩:∃f:Int->Bool,(fun s:Int=>decide (-1<=s)&&decide (s <m.aq.length))=f:=⟨_,rfl⟩;rw[hf]at e1;obtain⟨Z,hZ⟩:∃Z,(m.ops.drop (q+1)).all (iA m)=Z:=⟨_,rfl⟩;rw[b0,hZ,e1]
  repeat'(first
|(with_reducible first|apply aa.seq|apply aa.block)
|((with_reducible apply aa.text);(try case hm=>exact rfl))
|(with_reducible first|apply aa.skip|apply ai)
|((with_reducible apply aa.am);(case hc=>exact rfl))
|((with_reducible apply ab.ao);(case hp=>exact ae))
|(with_reducible apply ab.af)
|((with_reducible apply ab.u);(case hx=>((with_reducible apply ah.dI);(case hs=>exact fun _=>rfl);(case ha|ht=>exact rfl);(case hr=>first|(with_reducible exact dB)|(with_reducible exact dC)|(with_reducible exact dD)|(with_reducible exact rw3)|(with_reducible exact rw4)|exact rfl);(case hx|hy|hn|hb|hok=>exact rfl);(case hlen=>exact b1);(case hv=>exact ca);(case hk=>exact dL);(case hf=>exact leq))))
|((with_reducible apply ab.u0);(case hx=>exact ac))
|fail)
  apply aa.aM
  case ho=>exact rfl
  case hp=>exact rfl
  case hl=>exact rfl
  case hs=>exact slt
  refine aI.ind (fun k:Nat=>[(6,.t (.int .i64 (k:Int)))]) (fun k=>k<=o.aq.length/\(o.aq.drop 0).all f=(o.aq.drop k).all f) (fun k=>o.aq.length - k) 0 rfl ⟨by omega,rfl⟩ (fun k hk=>?_);obtain⟨g1,U⟩:=hk;rw[U];rcases Nat.lt_or_ge k o.aq.length with g3|g3
  ·
   obtain⟨s,hs⟩:=av g3;have b5:=bB hs;have cc:=ib f hs;have bN:f s=(decide (-1<=s)&&decide (s <m.aq.length)):=by rw[<- hf]
   rw[cc,bN]
   repeat'(first
|(with_reducible first|apply aa.seq|apply aa.block)
|((with_reducible apply aa.text);(try case hm=>exact rfl))
|((with_reducible apply aa.drawn);(case hm=>exact rfl))
|(with_reducible first|apply aa.skip|apply aa.ret|apply ai|apply ay|apply aG|apply aO)
|((with_reducible apply aa.am);(case hc=>exact rfl))
|((with_reducible apply aa.ak);(case hc=>exact rfl))
|((with_reducible apply ab.ao);(case hp=>exact ae))
|((with_reducible apply ab.aU)<;>intro J)
|((with_reducible apply ab.a_)<;>intro J)
|(with_reducible apply ab.af)
|((with_reducible apply ab.gf);(case hW=>exact rfl))
|((with_reducible apply ab.au);(case hW=>exact rfl);(case hx=>exact ac))
|((with_reducible apply ab.u0);(case hx=>exact ac))
|fail)
   all_goals first
    |exact⟨k+1,rfl,rfl,⟨by omega,by rw[decide_eq_true (show -1<=s by omega),decide_eq_true (show s <m.aq.length by omega)];rfl⟩,by omega⟩
    |exact aS (.inr rfl) rfl (by rw[decide_eq_false (show¬ -1<=s by omega)];rfl)
    |exact aS (.inr rfl) rfl (by rw[decide_eq_false (show¬s <m.aq.length by omega),Bool.and_false];rfl)
  ·
   rw[gv _ g3,Bool.true_and];by_cases g4:o.aq.length<=3
   ·
    have an:iA m o=true:=by rw[e1,U,gv _ g3,decide_eq_true g4];rfl
    rw[decide_eq_true g4,Bool.true_and]
    repeat'(first
|(with_reducible apply aa.seq)
|((with_reducible apply aa.text);(try case hm=>exact rfl))
|(with_reducible first|apply aa.skip|apply aa.exit|apply ai|apply aA|apply aG|apply az)
|((with_reducible apply aa.ak);(case hc=>exact rfl))
|((with_reducible apply ab.aw);(case hp=>exact ae))
|(with_reducible apply ab.af)
|((with_reducible apply ab.u0);(case hx=>exact ac))
|fail)
    exact⟨(q+1,true),rfl,rfl,⟨by dsimp only;omega,by dsimp only;exact hZ.symm,mK aL ho an⟩,by dsimp only;omega⟩
   ·
    rw[decide_eq_false g4]
    repeat'(first
|(with_reducible apply aa.seq)
|((with_reducible apply aa.text);(try case hm=>exact rfl))
|(with_reducible first|apply aa.exit|apply aa.ret|apply ai|apply aA|apply ay|apply aO|apply az)
|((with_reducible apply aa.am);(case hc=>exact rfl))
|((with_reducible apply aa.ak);(case hc=>exact rfl))
|((with_reducible apply ab.ao);(case hp=>exact ae))
|((with_reducible apply ab.aw);(case hp=>exact ae))
|(with_reducible apply ab.af)
|((with_reducible apply ab.u0);(case hx=>exact ac))
|fail)
    exact⟨.inr rfl,rfl⟩
 ·
  rw[gv _ h3,Bool.true_and];have a6:∀o∈m.ops,iA m o=true:=fun o ho=>List.all_eq_true.1 (oG aL h3) o ho;rw[List.take_of_length_le h3,<- aN];obtain⟨d,hd⟩:∃d,lQ (m.ops.map (·.name))=d:=⟨_,rfl⟩;rw[hd]at kd⊢;by_cases h8:m.ops.length<=8/\d=true/\m.aJ.length<=256
  ·
   obtain⟨bc,rfl,bd⟩:=h8;rw[decide_eq_true bc,decide_eq_true bd];rw[show(true&&(true&&true))=true by rfl,Bool.true_and,<- aY];have e2:allI (gu m n) m.aJ=bE (gu m n) 0 (m.aJ.drop 0):=rfl;rw[e2]
   repeat'(first
|(with_reducible first|apply aa.seq|apply aa.block)
|((with_reducible apply aa.text);(try case hm=>exact rfl))
|(with_reducible first|apply aa.skip|apply aa.exit|apply ai|apply aA|apply az)
|((with_reducible apply aa.ak);(case hc=>exact rfl))
|((with_reducible apply ab.aw);(case hp=>exact ae))
|((with_reducible apply ab.aV);(case hp=>exact ae))
|(with_reducible apply ab.af)
|((with_reducible apply ab.au);(case hW=>exact rfl);(case hx=>first
|(exact aj kd)
|exact ac))
|((with_reducible apply ab.u0);(case hx=>exact ac))
|fail)
   apply aa.aM
   case ho=>exact rfl
   case hp=>exact rfl
   case hl=>exact rfl
   case hs=>exact slt
   refine aI.ind (fun q:Nat=>[(7,.t (.int .i64 (q:Int)))]) (fun q=>q<=m.aJ.length/\bE (gu m n) 0 (m.aJ.drop 0)=bE (gu m n) q (m.aJ.drop q)) (fun q=>m.aJ.length - q) 0 rfl ⟨by omega,rfl⟩ (fun q J=>?_);obtain⟨k1,k2⟩:=J;rw[k2];rcases Nat.lt_or_ge q m.aJ.length with k3|k3
   ·
    obtain⟨a,ha⟩:=av k3;have cu:=mG ha;have ad:=List.mem_of_getElem? ha;have G:=ke a ad;have dd:=bC a.args;have cl:=V a ad;have y:=lH (p:=gu m n) ha;have hok:=lI (p:=gu m n) ha;by_cases I:0<=a.op/\a.op <m.ops.length
    ·
     obtain⟨o,ho⟩:=av (xs:=m.ops) (k:=a.op.toNat) (by omega);have b3:=yR ho;have an:=a6 o (List.mem_of_getElem? ho);have b2:=bC o.aq;have b4:=ag o (List.mem_of_getElem? ho);obtain⟨b,hb⟩:∃b,m.aJ.getD (q - 1) ou=b:=⟨_,rfl⟩;have v:=Ba (m:=m) (n:=n) (i:=q) (a:=a) (b:=b) (o:=o) I.1 I.2 ho hb;obtain⟨o1,o2⟩:=I;by_cases a1:a.args.length=o.aq.length
     ·
      rw[decide_eq_true a1,Bool.true_and]at v;obtain⟨f,hf⟩:∃f:Nat->Int->Bool,(fun k x=>kP m (o.aq.getD k 0) x)=f:=⟨_,rfl⟩;rw[hf]at v
      repeat'(first
|(with_reducible first|apply aa.seq|apply aa.block)
|((with_reducible apply aa.text);(try case hm=>exact rfl))
|((with_reducible apply aa.drawn);(case hm=>exact rfl))
|(with_reducible first|apply aa.skip|apply ai)
|((with_reducible apply aa.am);(case hc=>exact rfl))
|((with_reducible apply aa.ak);(case hc=>exact rfl))
|((with_reducible apply ab.ao);(case hp=>exact ae))
|((with_reducible apply ab.aw);(case hp=>exact ae))
|((with_reducible apply ab.aV);(case hp=>exact ae))
|((with_reducible apply ab.dF);(case hp=>exact ae))
|(with_reducible apply ab.af)
|((with_reducible apply ab.au);(case hW=>exact rfl);(case hx=>exact ac))
|((with_reducible apply ab.u0);(case hx=>exact ac))
|fail)
      apply aa.aM
      case ho=>exact rfl
      case hp=>exact rfl
      case hl=>exact rfl
      case hs=>exact slt
      refine aI.ind (fun k:Nat=>[(9,.t (.int .i64 (k:Int)))]) (fun k=>k<=a.args.length/\bE f 0 (a.args.drop 0)=bE f k (a.args.drop k)) (fun k=>a.args.length - k) 0 rfl ⟨by omega,rfl⟩ (fun k hk=>?_);obtain⟨g1,U⟩:=hk;rcases Nat.lt_or_ge k a.args.length with g3|g3
      ·
       obtain⟨x,hx⟩:=av g3;have ea:=bB hx;obtain⟨s,hs⟩:=av (xs:=o.aq) (k:=k) (by omega);have b5:=bB hs;obtain⟨s1,s2⟩:=FP an hs;have z:=lH (p:=f) hx;have D:=lI (p:=f) hx;have bM:f k x=kP m s x:=by rw[<- hf];dsimp only;rw[dt hs]
       rw[bM]at z D;rcases Int.lt_or_le s 0 with aB|aB
       ·
        rw[Br aB]at z D;have kb:=Gi x;obtain⟨bb,bf⟩:∃bb,eF x 9999=bb:=⟨_,rfl⟩;rw[bf]at kb z D
        cases bb with
        |false=>
         rw[y (by rw[v,U,z (by decide)];simp)]
         repeat'(first
|(with_reducible first|apply aa.seq|apply aa.block)
|((with_reducible apply aa.text);(try case hm=>exact rfl))
|((with_reducible apply aa.drawn);(case hm=>exact rfl))
|(with_reducible first|apply aa.skip|apply aa.ret|apply ai|apply ay|apply aO)
|((with_reducible apply aa.am);(case hc=>exact rfl))
|((with_reducible apply ab.ao);(case hp=>exact ae))
|(with_reducible apply ab.af)
|((with_reducible apply ab.gf);(case hW=>exact rfl))
|((with_reducible apply ab.au);(case hW=>exact rfl);(case hx=>first
|(exact aj kb)
|exact ac))
|((with_reducible apply ab.u0);(case hx=>exact ac))
|fail)
         exact⟨.inr rfl,rfl⟩
        |true=>
         repeat'(first
|(with_reducible first|apply aa.seq|apply aa.block)
|((with_reducible apply aa.text);(try case hm=>exact rfl))
|((with_reducible apply aa.drawn);(case hm=>exact rfl))
|(with_reducible first|apply aa.skip|apply ai|apply aG)
|((with_reducible apply aa.am);(case hc=>exact rfl))
|((with_reducible apply aa.ak);(case hc=>exact rfl))
|((with_reducible apply ab.ao);(case hp=>exact ae))
|((with_reducible apply ab.aV);(case hp=>exact ae))
|(with_reducible apply ab.af)
|((with_reducible apply ab.gf);(case hW=>exact rfl))
|((with_reducible apply ab.au);(case hW=>exact rfl);(case hx=>first
|(exact aj kb)
|exact ac))
|((with_reducible apply ab.u0);(case hx=>exact ac))
|fail)
         exact⟨k+1,rfl,rfl,⟨by omega,by rw[U];exact D rfl⟩,by omega⟩
       ·
        obtain⟨N,hN⟩:=av (xs:=m.aq) (k:=s.toNat) (by omega);have ct:=bB hN;rw[Bs aB hN]at z D;by_cases a7:0<=x/\x <N
        ·
         obtain⟨r1,r2⟩:=a7
         repeat'(first
|(with_reducible first|apply aa.seq|apply aa.block)
|((with_reducible apply aa.text);(try case hm=>exact rfl))
|((with_reducible apply aa.drawn);(case hm=>exact rfl))
|(with_reducible first|apply aa.skip|apply ai|apply aG)
|((with_reducible apply aa.am);(case hc=>exact rfl))
|((with_reducible apply aa.ak);(case hc=>exact rfl))
|((with_reducible apply ab.ao);(case hp=>exact ae))
|((with_reducible apply ab.aw);(case hp=>exact ae))
|((with_reducible apply ab.bh);(case hp=>exact ae))
|((with_reducible apply ab.aV);(case hp=>exact ae))
|(with_reducible apply ab.af)
|((with_reducible apply ab.gf);(case hW=>exact rfl))
|((with_reducible apply ab.au);(case hW=>exact rfl);(case hx=>exact ac))
|((with_reducible apply ab.u0);(case hx=>exact ac))
|fail)
         exact⟨k+1,rfl,rfl,⟨by omega,by rw[U];exact D (by rw[decide_eq_true r1,decide_eq_true r2];rfl)⟩,by omega⟩
        ·
         have al:(decide (0<=x)&&decide (x <N))=false:=by rw[<- Bool.not_eq_true];simpa using a7
         rw[y (by rw[v,U,z (by rw[al];decide)];simp)]
         repeat'(first
|(with_reducible first|apply aa.seq|apply aa.block)
|((with_reducible apply aa.text);(try case hm=>exact rfl))
|((with_reducible apply aa.drawn);(case hm=>exact rfl))
|(with_reducible first|apply aa.skip|apply aa.ret|apply ai|apply ay|apply aO)
|((with_reducible apply aa.am);(case hc=>exact rfl))
|((with_reducible apply ab.ao);(case hp=>exact ae))
|((with_reducible apply ab.aw);(case hp=>exact ae))
|((with_reducible apply ab.bh);(case hp=>exact ae))
|((with_reducible apply ab.a_)<;>intro J)
|(with_reducible apply ab.af)
|((with_reducible apply ab.gf);(case hW=>exact rfl))
|((with_reducible apply ab.au);(case hW=>exact rfl);(case hx=>exact ac))
|((with_reducible apply ab.u0);(case hx=>exact ac))
|fail)
         all_goals first
          |exact⟨.inr rfl,rfl⟩
          |(exfalso;omega)
      ·
       rw[U,jV g3,Bool.true_and]at v;obtain⟨be,bj⟩:∃be,mZ m n a.eff=be:=⟨_,rfl⟩;rw[bj]at G v
       cases q with
       |zero=>
        rw[decide_eq_true (show(0:Nat)=0 by rfl),Bool.true_or,Bool.true_and]at v
        cases be with
        |false=>
         rw[y (by rw[v];decide)]
         repeat'(first
|(with_reducible apply aa.seq)
|((with_reducible apply aa.text);(try case hm=>exact rfl))
|(with_reducible first|apply aa.skip|apply aa.exit|apply aa.ret|apply ai|apply aA|apply ay|apply aO|apply az)
|((with_reducible apply aa.am);(case hc=>exact rfl))
|((with_reducible apply aa.ak);(case hc=>exact rfl))
|((with_reducible apply ab.aw);(case hp=>exact ae))
|(with_reducible apply ab.af)
|((with_reducible apply ab.u0);(case hx=>first
|(exact aj G)
|exact ac))
|fail)
         exact⟨.inr rfl,rfl⟩
        |true=>
         repeat'(first
|(with_reducible apply aa.seq)
|((with_reducible apply aa.text);(try case hm=>exact rfl))
|(with_reducible first|apply aa.skip|apply aa.exit|apply ai|apply aA|apply aG|apply az)
|((with_reducible apply aa.ak);(case hc=>exact rfl))
|((with_reducible apply ab.aw);(case hp=>exact ae))
|(with_reducible apply ab.af)
|((with_reducible apply ab.u0);(case hx=>first
|(exact aj G)
|exact ac))
|fail)
         exact⟨0+1,rfl,rfl,⟨by omega,hok v⟩,by omega⟩
       |succ p=>
        obtain⟨w,hw⟩:=av (xs:=m.aJ) (k:=p) (by omega);have cf:=mG hw;have cp:(iL m.aJ)[((p+1:Nat) - 1:Int).toNat]?=some [.int .i64 w.op,aF w.args,.arr (jo w.eff.delta),.arr (kI w.eff.hold),.arr (bL w.eff.aQ)]:=by rw[show((p+1:Nat) - 1:Int).toNat=p by omega];exact cf
        have bW:m.aJ.getD (p+1 - 1) ou=w:=by rw[Nat.add_sub_cancel,List.getD_eq_getElem?_getD,hw];rfl
        obtain rfl:w=b:=by rw[<- bW,hb]
        have dm:=bC w.args;have Q:=GJ (A:=w.args) (B:=a.args) (by have:=V w (List.mem_of_getElem? hw);omega) (by omega);rw[decide_eq_false (show¬p+1=0 by omega),Bool.false_or]at v;obtain⟨bl,bk⟩:∃bl,iw w.args a.args=bl:=⟨_,rfl⟩;rw[bk]at Q v;rcases Int.lt_trichotomy w.op a.op with O|O|O
        ·
         rw[decide_eq_true O,Bool.true_or,Bool.true_and]at v
         cases be with
         |false=>
          rw[y (by rw[v];decide)]
          repeat'(first
|(with_reducible apply aa.seq)
|((with_reducible apply aa.text);(try case hm=>exact rfl))
|(with_reducible first|apply aa.skip|apply aa.exit|apply aa.ret|apply ai|apply aA|apply ay|apply aO|apply az)
|((with_reducible apply aa.am);(case hc=>exact rfl))
|((with_reducible apply aa.ak);(case hc=>exact rfl))
|((with_reducible apply ab.ao);(case hp=>exact ae))
|((with_reducible apply ab.aw);(case hp=>exact ae))
|((with_reducible apply ab.aV);(case hp=>exact ae))
|(with_reducible apply ab.af)
|((with_reducible apply ab.gf);(case hW=>exact rfl))
|((with_reducible apply ab.au);(case hW=>exact rfl);(case hx=>exact ac))
|((with_reducible apply ab.u0);(case hx=>first
|(exact aj G)
|exact ac))
|fail)
          exact⟨.inr rfl,rfl⟩
         |true=>
          repeat'(first
|(with_reducible apply aa.seq)
|((with_reducible apply aa.text);(try case hm=>exact rfl))
|(with_reducible first|apply aa.skip|apply aa.exit|apply ai|apply aA|apply aG|apply az)
|((with_reducible apply aa.am);(case hc=>exact rfl))
|((with_reducible apply aa.ak);(case hc=>exact rfl))
|((with_reducible apply ab.ao);(case hp=>exact ae))
|((with_reducible apply ab.aw);(case hp=>exact ae))
|((with_reducible apply ab.aV);(case hp=>exact ae))
|(with_reducible apply ab.af)
|((with_reducible apply ab.gf);(case hW=>exact rfl))
|((with_reducible apply ab.au);(case hW=>exact rfl);(case hx=>exact ac))
|((with_reducible apply ab.u0);(case hx=>first
|(exact aj G)
|exact ac))
|fail)
          exact⟨p+1+1,rfl,rfl,⟨by omega,hok v⟩,by omega⟩
        ·
         rw[decide_eq_false (show¬w.op <a.op by omega),decide_eq_true O,Bool.false_or,Bool.true_and]at v
         cases bl with
         |false=>
          rw[y (by rw[v];simp)]
          repeat'(first
|(with_reducible apply aa.seq)
|((with_reducible apply aa.text);(try case hm=>exact rfl))
|(with_reducible first|apply aa.exit|apply aa.ret|apply ai|apply aA|apply ay|apply aO|apply az)
|((with_reducible apply aa.am);(case hc=>exact rfl))
|((with_reducible apply aa.ak);(case hc=>exact rfl))
|((with_reducible apply ab.ao);(case hp=>exact ae))
|((with_reducible apply ab.aw);(case hp=>exact ae))
|((with_reducible apply ab.bh);(case hp=>exact ae))
|(with_reducible apply ab.af)
|((with_reducible apply ab.au);(case hW=>exact rfl);(case hx=>first
|(exact aj Q)
|exact ac))
|((with_reducible apply ab.u0);(case hx=>exact ac))
|fail)
          exact⟨.inr rfl,rfl⟩
         |true=>
          rw[Bool.true_and]at v
          cases be with
          |false=>
           rw[y (by rw[v];decide)]
           repeat'(first
|(with_reducible apply aa.seq)
|((with_reducible apply aa.text);(try case hm=>exact rfl))
|(with_reducible first|apply aa.skip|apply aa.exit|apply aa.ret|apply ai|apply aA|apply ay|apply aO|apply az)
|((with_reducible apply aa.am);(case hc=>exact rfl))
|((with_reducible apply aa.ak);(case hc=>exact rfl))
|((with_reducible apply ab.ao);(case hp=>exact ae))
|((with_reducible apply ab.aw);(case hp=>exact ae))
|((with_reducible apply ab.bh);(case hp=>exact ae))
|(with_reducible apply ab.af)
|((with_reducible apply ab.au);(case hW=>exact rfl);(case hx=>first
|(exact aj Q)
|exact ac))
|((with_reducible apply ab.u0);(case hx=>first
|(exact aj G)
|exact ac))
|fail)
           exact⟨.inr rfl,rfl⟩
          |true=>
           repeat'(first
|(with_reducible apply aa.seq)
|((with_reducible apply aa.text);(try case hm=>exact rfl))
|(with_reducible first|apply aa.skip|apply aa.exit|apply ai|apply aA|apply aG|apply az)
|((with_reducible apply aa.am);(case hc=>exact rfl))
|((with_reducible apply aa.ak);(case hc=>exact rfl))
|((with_reducible apply ab.ao);(case hp=>exact ae))
|((with_reducible apply ab.aw);(case hp=>exact ae))
|((with_reducible apply ab.bh);(case hp=>exact ae))
|(with_reducible apply ab.af)
|((with_reducible apply ab.au);(case hW=>exact rfl);(case hx=>first
|(exact aj Q)
|exact ac))
|((with_reducible apply ab.u0);(case hx=>first
|(exact aj G)
|exact ac))
|fail)
           exact⟨p+1+1,rfl,rfl,⟨by omega,hok v⟩,by omega⟩
        ·
         rw[decide_eq_false (show¬w.op <a.op by omega),decide_eq_false (show¬w.op=a.op by omega)]at v;rw[y (by rw[v];simp)]
         repeat'(first
|(with_reducible apply aa.seq)
|((with_reducible apply aa.text);(try case hm=>exact rfl))
|(with_reducible first|apply aa.exit|apply aa.ret|apply ai|apply aA|apply ay|apply aO|apply az)
|((with_reducible apply aa.am);(case hc=>exact rfl))
|((with_reducible apply aa.ak);(case hc=>exact rfl))
|((with_reducible apply ab.ao);(case hp=>exact ae))
|((with_reducible apply ab.aw);(case hp=>exact ae))
|(with_reducible apply ab.af)
|((with_reducible apply ab.gf);(case hW=>exact rfl))
|((with_reducible apply ab.u0);(case hx=>exact ac))
|fail)
         exact⟨.inr rfl,rfl⟩
     ·
      rw[decide_eq_false a1,Bool.false_and,Bool.false_and]at v;rw[y (by rw[v];decide)]
      repeat'(first
|(with_reducible first|apply aa.seq|apply aa.block)
|((with_reducible apply aa.text);(try case hm=>exact rfl))
|((with_reducible apply aa.drawn);(case hm=>exact rfl))
|(with_reducible first|apply aa.skip|apply aa.ret|apply ai|apply ay|apply aO)
|((with_reducible apply aa.am);(case hc=>exact rfl))
|((with_reducible apply ab.ao);(case hp=>exact ae))
|((with_reducible apply ab.aw);(case hp=>exact ae))
|((with_reducible apply ab.aV);(case hp=>exact ae))
|((with_reducible apply ab.dQ);(case hp=>exact ae))
|(with_reducible apply ab.af)
|((with_reducible apply ab.au);(case hW=>exact rfl);(case hx=>exact ac))
|((with_reducible apply ab.u0);(case hx=>exact ac))
|fail)
      all_goals exact⟨.inr rfl,rfl⟩
    ·
     rw[y (by rw[Bb I];decide)]
     repeat'(first
|(with_reducible first|apply aa.seq|apply aa.block)
|((with_reducible apply aa.text);(try case hm=>exact rfl))
|((with_reducible apply aa.drawn);(case hm=>exact rfl))
|(with_reducible first|apply aa.skip|apply aa.ret|apply ai|apply ay|apply aO)
|((with_reducible apply aa.am);(case hc=>exact rfl))
|((with_reducible apply ab.ao);(case hp=>exact ae))
|((with_reducible apply ab.aU)<;>intro J)
|((with_reducible apply ab.bh);(case hp=>exact ae))
|(with_reducible apply ab.af)
|((with_reducible apply ab.gf);(case hW=>exact rfl))
|((with_reducible apply ab.au);(case hW=>exact rfl);(case hx=>exact ac))
|((with_reducible apply ab.u0);(case hx=>exact ac))
|fail)
     all_goals first
      |exact⟨.inr rfl,rfl⟩
      |(exfalso;omega)
   ·
    rw[jV k3]
    repeat'(first
|(with_reducible apply aa.seq)
|((with_reducible apply aa.text);(try case hm=>exact rfl))
|(with_reducible first|apply aa.exit|apply aa.ret|apply ai|apply aA|apply az)
|((with_reducible apply aa.ak);(case hc=>exact rfl))
|((with_reducible apply ab.aw);(case hp=>exact ae))
|(with_reducible apply ab.af)
|((with_reducible apply ab.u0);(case hx=>exact ac))
|fail)
    exact⟨.inr rfl,rfl⟩
  ·
   have al:(decide (m.ops.length<=8)&&(d&&decide (m.aJ.length<=256)))=false:=by
    rw[<- Bool.not_eq_true];simpa using h8
   rw[al]
   cases d with
   |true=>
    repeat'(first
|(with_reducible first|apply aa.seq|apply aa.block)
|((with_reducible apply aa.text);(try case hm=>exact rfl))
|(with_reducible first|apply aa.skip|apply aa.exit|apply aa.ret|apply ai|apply aA|apply ay|apply az)
|((with_reducible apply aa.am);(case hc=>exact rfl))
|((with_reducible apply aa.ak);(case hc=>exact rfl))
|((with_reducible apply ab.aw);(case hp=>exact ae))
|((with_reducible apply ab.aU)<;>intro J)
|((with_reducible apply ab.a_)<;>intro J)
|(with_reducible apply ab.af)
|((with_reducible apply ab.gf);(case hW=>exact rfl))
|((with_reducible apply ab.au);(case hW=>exact rfl);(case hx=>first
|(exact aj kd)
|exact ac))
|((with_reducible apply ab.u0);(case hx=>exact ac))
|fail)
    all_goals first
     |exact⟨.inr rfl,rfl⟩
     |(exfalso;apply h8;exact⟨by omega,rfl,by omega⟩)
   |false=>
    repeat'(first
|(with_reducible apply aa.seq)
|((with_reducible apply aa.text);(try case hm=>exact rfl))
|(with_reducible first|apply aa.exit|apply aa.ret|apply ai|apply aA|apply ay|apply az)
|((with_reducible apply aa.am);(case hc=>exact rfl))
|((with_reducible apply aa.ak);(case hc=>exact rfl))
|((with_reducible apply ab.aw);(case hp=>exact ae))
|((with_reducible apply ab.aU)<;>intro J)
|(with_reducible apply ab.af)
|((with_reducible apply ab.gf);(case hW=>exact rfl))
|((with_reducible apply ab.au);(case hW=>exact rfl);(case hx=>first
|(exact aj kd)
|exact ac))
|((with_reducible apply ab.u0);(case hx=>exact ac))
|fail)
    all_goals exact⟨.inr rfl,rfl⟩
end Go.Proofs.YtgbfedgghjcdcaaGreatDoor
