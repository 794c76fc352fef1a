/- The reference's guard of small models and events,as a. No condition. -/
import Derived.Test.YtgbfedgghjcdcaaGreatDoorNH
import Derived.Test.YtgbfedgghjcdcaaGreatDoorTKC
set_option linter.all false
namespace Go.Proofs.YtgbfedgghjcdcaaGreatDoor
open Go.RowKit
set_option maxRecDepth 100000
set_option maxHeartbeats 32000000
def lL(n:Int)(c:fN):Bool:=decide (0<=c.cell)&&decide (c.cell <n)
def ly(n:Int)(u:bn):Bool:=decide (0<=u.cell)&&decide (u.cell <n)
def fw(s g:Int)(a:dT):Bool:=((decide (a.eff.delta.length<=20)&&decide (a.eff.hold.length<=8))&&decide (a.eff.aQ.length<=20))&&(a.eff.delta.all (lL s)&&a.eff.aQ.all (ly g))
def jK(e:Ev):Bool:=decide (e.past.length<=8)
def pn(m:Md)(l:List Ev):Prop:=m.aq.length<=4/\m.tables.length<=12/\m.cons.length<=80/\m.ops.length<=8/\m.aJ.length<=30/\l.length<=60
instance (m:Md) (l:List Ev):Decidable (pn m l):=by unfold pn;infer_instance
def jv(m:Md)(l:List Ev):Bool:=decide (pn m l)&&(gN m&&(m.aJ.all (fw (bQ m.aq true m.tables) (fE m.aq m.tables).length)&&(l.all jK&&(decide (bQ m.aq true m.tables<=40)&&decide ((fE m.aq m.tables).length<=20)))))
structure Small (m:Md):Prop where
 len:cW m
 ok:gN m=true
 iQ:∀a∈m.aJ,fw (bQ m.aq true m.tables) (fE m.aq m.tables).length a=true
def Dy{m:Md}{l:List Ev}(h:jv m l=true):pn m l/\gN m=true/\(∀a∈m.aJ,fw (bQ m.aq true m.tables) (fE m.aq m.tables).length a=true)/\(∀e∈l,e.past.length<=8)/\bQ m.aq true m.tables<=40/\(fE m.aq m.tables).length<=20:=by
 unfold jv at h;simp only[Bool.and_eq_true,decide_eq_true_eq,List.all_eq_true]at h;obtain⟨h1,h2,h3,h4,u,v⟩:=h;exact⟨h1,h2,h3,fun e y=>by simpa[jK]using h4 e y,u,v⟩
def uM{m:Md}(h:gN m=true):ce m.aq m.tables=true:=by
 unfold gN at h;simp only[Bool.and_eq_true]at h;exact h.1.1.1
def Dz{m:Md}{l:List Ev}(hm:cW m)(al:∀a∈m.aJ,mD a.eff)(hl:l.length<=140737488351232)(hp:∀e∈l,e.past.length<=140737488351232):Cl ap 11 [.t (di m),.t (.arr (br l))] [] (.t (.bool (jv m l))) []:=by
 have b0:=bC m.aq;have bN:=gV m.tables;have bj:=wV m.cons;have bW:=yS m.ops;have bf:=mH m.aJ;have bl:=lW l;by_cases J:pn m l
 ·
  have ad:=J;obtain⟨a1,a2,a3,a4,a5,a6⟩:=ad;have D:=GK hm al (by omega)
  cases U:gN m with
  |false=>
   have I:jv m l=false:=by unfold jv;rw[U,decide_eq_true J];rfl
   rw[U]at D;rw[cO]at D⊢;rw[I];refine Cl.aE rfl Tryz.func11 rfl rfl rfl ?_
   repeat'(first
|(with_reducible apply aa.seq)
|((with_reducible apply aa.text);(try case hm=>exact rfl))
|(with_reducible first|apply aa.ret|apply ay)
|((with_reducible apply aa.am);(case hc=>exact rfl))
|((with_reducible apply ab.aw);(case hp=>exact ae))
|((with_reducible apply ab.aV);(case hp=>exact ae))
|(with_reducible apply ab.af)
|((with_reducible apply ab.au);(case hW=>exact rfl);(case hx=>first
|(exact aj D)
|exact ac))
|((with_reducible apply ab.u0);(case hx=>exact ac))
|fail)
   exact⟨.inr rfl,rfl⟩
  |true=>
   have v:=uM U;have bc:=q8 v;have k1:=G5 hm v;have k2:=zr hm v;have ag:=xW v;have an:=yw m.aq m.tables;have bb:=lO (S:=m.aq) true m.tables;obtain⟨s,hs⟩:∃s,bQ m.aq true m.tables=s:=⟨_,rfl⟩;obtain⟨G,hG⟩:∃G,fE m.aq m.tables=G:=⟨_,rfl⟩;have bq:=gV G;obtain⟨Y1,O⟩:∃Y,l.all jK=Y:=⟨_,rfl⟩;obtain⟨Y2,Q⟩:∃Y,(decide (s<=40)&&decide (G.length<=20))=Y:=⟨_,rfl⟩;have I:jv m l=((m.aJ.drop 0).all (fw s G.length)&&(Y1&&Y2)):=by unfold jv;rw[U,decide_eq_true J,hs,hG,O,Q];rfl
   rw[U]at D;rw[hs]at k1 ag bb;rw[hG]at k2 an;rw[cO]at D k1 k2⊢;rw[I];refine Cl.aE rfl Tryz.func11 rfl rfl rfl ?_
   repeat'(first
|(with_reducible first|apply aa.seq|apply aa.block)
|((with_reducible apply aa.text);(try case hm=>exact rfl))
|(with_reducible first|apply aa.skip|apply ai)
|((with_reducible apply aa.ak);(case hc=>exact rfl))
|((with_reducible apply ab.aw);(case hp=>exact ae))
|((with_reducible apply ab.aV);(case hp=>exact ae))
|(with_reducible apply ab.af)
|((with_reducible apply ab.au);(case hW=>exact rfl);(case hx=>first
|(exact aj D)
|exact ac))
|((with_reducible apply ab.u0);(case hx=>exact ac))
|fail)
   apply aa.aM
   case ho=>exact rfl
   case hp=>exact rfl
   case hl=>exact rfl
   case hs=>exact slt
   refine aI.ind (fun q:Nat=>[(5,.t (.int .i64 (q:Int)))]) (fun q=>q<=m.aq.length) (fun q=>m.aq.length - q) 0 rfl (by omega) (fun q y=>?_);rcases Nat.lt_or_ge q m.aq.length with h3|h3
   ·
    obtain⟨n,hn⟩:=av h3;have hc:=bB hn;obtain⟨n1,n2⟩:=An bc hn
    repeat'(first
|(with_reducible first|apply aa.seq|apply aa.block)
|((with_reducible apply aa.text);(try case hm=>exact rfl))
|(with_reducible first|apply aa.skip|apply ai|apply aG)
|((with_reducible apply aa.am);(case hc=>exact rfl))
|((with_reducible apply aa.ak);(case hc=>exact rfl))
|((with_reducible apply ab.ao);(case hp=>exact ae))
|((with_reducible apply ab.aw);(case hp=>exact ae))
|((with_reducible apply ab.aV);(case hp=>exact ae))
|(with_reducible apply ab.af)
|((with_reducible apply ab.au);(case hW=>exact rfl);(case hx=>exact ac))
|((with_reducible apply ab.u0);(case hx=>exact ac))
|fail)
    exact⟨q+1,rfl,rfl,by omega,by omega⟩
   ·
    repeat'(first
|(with_reducible first|apply aa.seq|apply aa.block)
|((with_reducible apply aa.text);(try case hm=>exact rfl))
|(with_reducible first|apply aa.exit|apply ai|apply aA|apply az)
|((with_reducible apply aa.ak);(case hc=>exact rfl))
|((with_reducible apply ab.aw);(case hp=>exact ae))
|(with_reducible apply ab.af)
|((with_reducible apply ab.u0);(case hx=>exact ac))
|fail)
    apply aa.aM
    case ho=>exact rfl
    case hp=>exact rfl
    case hl=>exact rfl
    case hs=>exact slt
    refine aI.ind (fun q:Nat=>[(6,.t (.int .i64 (q:Int)))]) (fun q=>q<=m.tables.length) (fun q=>m.tables.length - q) 0 rfl (by omega) (fun q y=>?_);rcases Nat.lt_or_ge q m.tables.length with g3|g3
    ·
     obtain⟨t,ht⟩:=av g3;have hc:=fZ ht;have b3:=bC t.aB;obtain⟨c1,c2,c3⟩:=nw v ht;obtain⟨r1,r2,r3⟩:=xY v ht
     have a7:0<=t.kind/\t.kind<=5:=by
      have h1:=nx v ht;simp only[gU,Bool.and_eq_true,decide_eq_true_eq]at h1;exact h1.2.2.1
     obtain⟨k3,k4⟩:=a7
     repeat'(first
|(with_reducible first|apply aa.seq|apply aa.block)
|((with_reducible apply aa.text);(try case hm=>exact rfl))
|((with_reducible apply aa.drawn);(case hm=>exact rfl))
|(with_reducible first|apply aa.skip|apply ai|apply aG)
|((with_reducible apply aa.am);(case hc=>exact rfl))
|((with_reducible apply aa.ak);(case hc=>exact rfl))
|((with_reducible apply ab.ao);(case hp=>exact ae))
|((with_reducible apply ab.aw);(case hp=>exact ae))
|((with_reducible apply ab.aV);(case hp=>exact ae))
|(with_reducible apply ab.af)
|((with_reducible apply ab.au);(case hW=>exact rfl);(case hx=>exact ac))
|((with_reducible apply ab.u0);(case hx=>exact ac))
|fail)
     exact⟨q+1,rfl,rfl,by omega,by omega⟩
    ·
     repeat'(first
|(with_reducible first|apply aa.seq|apply aa.block)
|((with_reducible apply aa.text);(try case hm=>exact rfl))
|((with_reducible apply aa.drawn);(case hm=>exact rfl))
|(with_reducible first|apply aa.exit|apply ai|apply aA|apply az)
|((with_reducible apply aa.ak);(case hc=>exact rfl))
|((with_reducible apply ab.aw);(case hp=>exact ae))
|(with_reducible apply ab.af)
|((with_reducible apply ab.u0);(case hx=>first
|(exact aj k1)
|(exact rC k2)
|exact ac))
|fail)
     apply aa.aM
     case ho=>exact rfl
     case hp=>exact rfl
     case hl=>exact rfl
     case hs=>exact slt
     refine aI.ind (fun q:Nat=>[(9,.t (.int .i64 (q:Int)))]) (fun q=>q<=m.aJ.length/\(m.aJ.drop 0).all (fw s G.length)=(m.aJ.drop q).all (fw s G.length)) (fun q=>m.aJ.length - q) 0 rfl ⟨by omega,rfl⟩ (fun q y=>?_);obtain⟨p1,p2⟩:=y;rw[p2];rcases Nat.lt_or_ge q m.aJ.length with p3|p3
     ·
      obtain⟨a,V⟩:=av p3;have bd:=mG V;have bk:=wL a.eff.delta;have bM:=z6 a.eff.hold;have b1:=mu a.eff.aQ;have aN:=ib (fw s G.length) V;rw[aN];obtain⟨Z,hZ⟩:∃Z,(m.aJ.drop (q+1)).all (fw s G.length)=Z:=⟨_,rfl⟩;rw[hZ];by_cases z:a.eff.delta.length<=20/\a.eff.hold.length<=8/\a.eff.aQ.length<=20
      ·
       obtain⟨l1,l2,l3⟩:=z;obtain⟨X,hX⟩:∃X,a.eff.aQ.all (ly G.length)=X:=⟨_,rfl⟩;have e1:fw s G.length a=((a.eff.delta.drop 0).all (lL s)&&X):=by unfold fw;rw[hX,decide_eq_true l1,decide_eq_true l2,decide_eq_true l3];rfl
       rw[e1]
       repeat'(first
|(with_reducible first|apply aa.seq|apply aa.block)
|((with_reducible apply aa.text);(try case hm=>exact rfl))
|(with_reducible first|apply aa.skip|apply ai)
|((with_reducible apply aa.am);(case hc=>exact rfl))
|((with_reducible apply aa.ak);(case hc=>exact rfl))
|((with_reducible apply ab.ao);(case hp=>exact ae))
|((with_reducible apply ab.aw);(case hp=>exact ae))
|((with_reducible apply ab.aV);(case hp=>exact ae))
|(with_reducible apply ab.af)
|((with_reducible apply ab.au);(case hW=>exact rfl);(case hx=>exact ac))
|((with_reducible apply ab.u0);(case hx=>exact ac))
|fail)
       apply aa.aM
       case ho=>exact rfl
       case hp=>exact rfl
       case hl=>exact rfl
       case hs=>exact slt
       refine aI.ind (fun k:Nat=>[(11,.t (.int .i64 (k:Int)))]) (fun k=>k<=a.eff.delta.length/\(a.eff.delta.drop 0).all (lL s)=(a.eff.delta.drop k).all (lL s)) (fun k=>a.eff.delta.length - k) 0 rfl ⟨by omega,rfl⟩ (fun k hk=>?_);obtain⟨g1,g2⟩:=hk;rw[g2];rcases Nat.lt_or_ge k a.eff.delta.length with g4|g4
       ·
        obtain⟨c,hc⟩:=av g4;have be:=tk hc;have aL:=ib (lL s) hc;rw[aL];unfold lL
        repeat'(first
|(with_reducible first|apply aa.seq|apply aa.block)
|((with_reducible apply aa.text);(try case hm=>exact rfl))
|(with_reducible first|apply aa.skip|apply aa.ret|apply ai|apply ay|apply aG|apply aO)
|((with_reducible apply aa.am);(case hc=>exact rfl))
|((with_reducible apply aa.ak);(case hc=>exact rfl))
|((with_reducible apply ab.ao);(case hp=>exact ae))
|((with_reducible apply ab.aU)<;>intro y)
|((with_reducible apply ab.a_)<;>intro y)
|(with_reducible apply ab.af)
|((with_reducible apply ab.gf);(case hW=>exact rfl))
|((with_reducible apply ab.au);(case hW=>exact rfl);(case hx=>exact ac))
|((with_reducible apply ab.u0);(case hx=>exact ac))
|fail)
        all_goals first
         |exact⟨k+1,rfl,rfl,⟨by omega,by rw[decide_eq_true (show 0<=c.cell by omega),decide_eq_true (show c.cell <s by omega)];rfl⟩,by omega⟩
         |exact aS (.inr rfl) rfl (by rw[decide_eq_false (show¬0<=c.cell by omega)];rfl)
         |exact aS (.inr rfl) rfl (by rw[decide_eq_false (show¬c.cell <s by omega),Bool.and_false];rfl)
       ·
        rw[gv _ g4,Bool.true_and,<- hX];have e2:a.eff.aQ.all (ly G.length)=(a.eff.aQ.drop 0).all (ly G.length):=rfl;rw[e2]
        repeat'(first
|(with_reducible first|apply aa.seq|apply aa.block)
|((with_reducible apply aa.text);(try case hm=>exact rfl))
|(with_reducible first|apply aa.exit|apply ai|apply aA|apply az)
|((with_reducible apply aa.ak);(case hc=>exact rfl))
|((with_reducible apply ab.aw);(case hp=>exact ae))
|(with_reducible apply ab.af)
|((with_reducible apply ab.u0);(case hx=>exact ac))
|fail)
        apply aa.aM
        case ho=>exact rfl
        case hp=>exact rfl
        case hl=>exact rfl
        case hs=>exact slt
        refine aI.ind (fun k:Nat=>[(12,.t (.int .i64 (k:Int)))]) (fun k=>k<=a.eff.aQ.length/\(a.eff.aQ.drop 0).all (ly G.length)=(a.eff.aQ.drop k).all (ly G.length)) (fun k=>a.eff.aQ.length - k) 0 rfl ⟨by omega,rfl⟩ (fun k hk=>?_);obtain⟨g1,g2⟩:=hk;rw[g2];rcases Nat.lt_or_ge k a.eff.aQ.length with g5|g5
        ·
         obtain⟨u,hu⟩:=av g5;have b4:=jS hu;have aY:=ib (ly G.length) hu;rw[aY];unfold ly
         repeat'(first
|(with_reducible first|apply aa.seq|apply aa.block)
|((with_reducible apply aa.text);(try case hm=>exact rfl))
|(with_reducible first|apply aa.skip|apply aa.ret|apply ai|apply ay|apply aG|apply aO)
|((with_reducible apply aa.am);(case hc=>exact rfl))
|((with_reducible apply aa.ak);(case hc=>exact rfl))
|((with_reducible apply ab.ao);(case hp=>exact ae))
|((with_reducible apply ab.aU)<;>intro y)
|((with_reducible apply ab.a_)<;>intro y)
|(with_reducible apply ab.af)
|((with_reducible apply ab.gf);(case hW=>exact rfl))
|((with_reducible apply ab.au);(case hW=>exact rfl);(case hx=>exact ac))
|((with_reducible apply ab.u0);(case hx=>exact ac))
|fail)
         all_goals first
          |exact⟨k+1,rfl,rfl,⟨by omega,by rw[decide_eq_true (show 0<=u.cell by omega),decide_eq_true (show u.cell <G.length by omega)];rfl⟩,by omega⟩
          |exact aS (.inr rfl) rfl (by rw[decide_eq_false (show¬0<=u.cell by omega)];rfl)
          |exact aS (.inr rfl) rfl (by rw[decide_eq_false (show¬u.cell <G.length by omega),Bool.and_false];rfl)
        ·
         rw[gv _ g5,Bool.true_and]
         repeat'(first
|(with_reducible apply aa.seq)
|((with_reducible apply aa.text);(try case hm=>exact rfl))
|(with_reducible first|apply aa.exit|apply ai|apply aA|apply aG|apply az)
|((with_reducible apply aa.ak);(case hc=>exact rfl))
|((with_reducible apply ab.aw);(case hp=>exact ae))
|(with_reducible apply ab.af)
|((with_reducible apply ab.u0);(case hx=>exact ac))
|fail)
         exact⟨q+1,rfl,rfl,⟨by omega,hZ.symm⟩,by omega⟩
      ·
       have e1:fw s G.length a=false:=by
        rw[<- Bool.not_eq_true];unfold fw;simp only[Bool.and_eq_true,decide_eq_true_eq];exact fun h=>z ⟨h.1.1.1,h.1.1.2,h.1.2⟩
       rw[e1]
       repeat'(first
|(with_reducible first|apply aa.seq|apply aa.block)
|((with_reducible apply aa.text);(try case hm=>exact rfl))
|(with_reducible first|apply aa.skip|apply aa.ret|apply ai|apply ay|apply aO)
|((with_reducible apply aa.am);(case hc=>exact rfl))
|((with_reducible apply ab.ao);(case hp=>exact ae))
|((with_reducible apply ab.aU)<;>intro y)
|((with_reducible apply ab.bh);(case hp=>exact ae))
|((with_reducible apply ab.a_)<;>intro y)
|(with_reducible apply ab.af)
|((with_reducible apply ab.gf);(case hW=>exact rfl))
|((with_reducible apply ab.au);(case hW=>exact rfl);(case hx=>exact ac))
|((with_reducible apply ab.u0);(case hx=>exact ac))
|fail)
       all_goals first
        |exact⟨.inr rfl,rfl⟩
        |(exfalso;omega)
     ·
      rw[gv _ p3,Bool.true_and,<- O];have e2:l.all jK=(l.drop 0).all jK:=rfl;rw[e2]
      repeat'(first
|(with_reducible first|apply aa.seq|apply aa.block)
|((with_reducible apply aa.text);(try case hm=>exact rfl))
|(with_reducible first|apply aa.exit|apply ai|apply aA|apply az)
|((with_reducible apply aa.ak);(case hc=>exact rfl))
|((with_reducible apply ab.aw);(case hp=>exact ae))
|(with_reducible apply ab.af)
|((with_reducible apply ab.u0);(case hx=>exact ac))
|fail)
      apply aa.aM
      case ho=>exact rfl
      case hp=>exact rfl
      case hl=>exact rfl
      case hs=>exact slt
      refine aI.ind (fun q:Nat=>[(13,.t (.int .i64 (q:Int)))]) (fun q=>q<=l.length/\(l.drop 0).all jK=(l.drop q).all jK) (fun q=>l.length - q) 0 rfl ⟨by omega,rfl⟩ (fun q y=>?_);obtain⟨h1,h2⟩:=y;rw[h2];rcases Nat.lt_or_ge q l.length with h4|h4
      ·
       obtain⟨e,he⟩:=av h4;have hc:=iP he;have b2:=bC e.past;have V:=ib jK he;rw[V];by_cases h8:e.past.length<=8
       ·
        rw[show jK e=true from decide_eq_true h8]
        repeat'(first
|(with_reducible first|apply aa.seq|apply aa.block)
|((with_reducible apply aa.text);(try case hm=>exact rfl))
|(with_reducible first|apply aa.skip|apply ai|apply aG)
|((with_reducible apply aa.am);(case hc=>exact rfl))
|((with_reducible apply aa.ak);(case hc=>exact rfl))
|((with_reducible apply ab.ao);(case hp=>exact ae))
|((with_reducible apply ab.aw);(case hp=>exact ae))
|(with_reducible apply ab.af)
|((with_reducible apply ab.u0);(case hx=>exact ac))
|fail)
        exact⟨q+1,rfl,rfl,⟨by omega,rfl⟩,by omega⟩
       ·
        rw[show jK e=false from decide_eq_false h8]
        repeat'(first
|(with_reducible first|apply aa.seq|apply aa.block)
|((with_reducible apply aa.text);(try case hm=>exact rfl))
|(with_reducible first|apply aa.skip|apply aa.ret|apply ai|apply ay|apply aO)
|((with_reducible apply aa.am);(case hc=>exact rfl))
|((with_reducible apply ab.ao);(case hp=>exact ae))
|(with_reducible apply ab.af)
|((with_reducible apply ab.u0);(case hx=>exact ac))
|fail)
        exact⟨.inr rfl,rfl⟩
      ·
       rw[gv _ h4,Bool.true_and,<- Q]
       repeat'(first
|(with_reducible apply aa.seq)
|((with_reducible apply aa.text);(try case hm=>exact rfl))
|(with_reducible first|apply aa.exit|apply aa.ret|apply ai|apply aA|apply az)
|((with_reducible apply aa.ak);(case hc=>exact rfl))
|((with_reducible apply ab.aw);(case hp=>exact ae))
|((with_reducible apply ab.aU)<;>intro y)
|((with_reducible apply ab.a_)<;>intro y)
|(with_reducible apply ab.af)
|((with_reducible apply ab.gf);(case hW=>exact rfl))
|((with_reducible apply ab.au);(case hW=>exact rfl);(case hx=>exact ac))
|((with_reducible apply ab.u0);(case hx=>exact ac))
|fail)
       all_goals(refine aS (.inr rfl) rfl ?_;simp;omega)
 ·
  have I:jv m l=false:=by unfold jv;rw[decide_eq_false J];rfl
  have h1:¬(m.aq.length<=4/\m.tables.length<=12/\m.cons.length<=80/\m.ops.length<=8/\m.aJ.length<=30/\l.length<=60):=J;rw[cO,I];refine Cl.aE rfl Tryz.func11 rfl rfl rfl ?_
  repeat'(first
|(with_reducible apply aa.seq)
|((with_reducible apply aa.text);(try case hm=>exact rfl))
|(with_reducible first|apply aa.ret|apply ay)
|((with_reducible apply aa.am);(case hc=>exact rfl))
|((with_reducible apply ab.aU)<;>intro y)
|((with_reducible apply ab.bh);(case hp=>exact ae))
|((with_reducible apply ab.a_)<;>intro y)
|(with_reducible apply ab.af)
|((with_reducible apply ab.gf);(case hW=>exact rfl))
|((with_reducible apply ab.au);(case hW=>exact rfl);(case hx=>exact ac))
|((with_reducible apply ab.u0);(case hx=>exact ac))
|fail)
  all_goals first
   |exact⟨.inr rfl,rfl⟩
   |(exfalso;omega)
end Go.Proofs.YtgbfedgghjcdcaaGreatDoor
