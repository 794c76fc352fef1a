/- The reference's guard of small models and events,as a. No condition. -/
import Derived.Test.YtjolgbkkocjpgaaGreatDoorTNF
import Derived.Test.YtjolgbkkocjpgaaGreatDoorTKA
import Derived.Test.YtjolgbkkocjpgaaGreatDoorTM
set_option linter.all false
namespace Go.Proofs.YtjolgbkkocjpgaaGreatDoor
open Go.RowKit
set_option maxRecDepth 100000
set_option maxHeartbeats 32000000
def pP(n:Int)(c:bv):Bool:=decide (0<=c.cell)&&decide (c.cell <n)
def pi(n:Int)(u:cG):Bool:=decide (0<=u.cell)&&decide (u.cell <n)
def jc(s g:Int)(a:dU):Bool:=((decide (a.eff.delta.length<=20)&&decide (a.eff.hold.length<=8))&&decide (a.eff.cg.length<=20))&&(a.eff.delta.all (pP s)&&a.eff.cg.all (pi g))
def mX(e:Ev):Bool:=decide (e.past.length<=8)
def tT(m:Md)(l:List Ev):Prop:=m.ai.length<=4/\m.tables.length<=12/\m.cons.length<=80/\m.ops.length<=8/\m.au.length<=30/\l.length<=60
instance (m:Md) (l:List Ev):Decidable (tT m l):=by unfold tT;infer_instance
def iJ(m:Md)(l:List Ev):Bool:=decide (tT m l)&&(b7 m&&(m.au.all (jc (bp m.ai true m.tables) (lN m.ai m.tables).length)&&(l.all mX&&(decide (bp m.ai true m.tables<=40)&&decide ((lN m.ai m.tables).length<=20)))))
theorem ub{m:Md}(h:b7 m=true):bQ m.ai m.tables=true:=by
 unfold b7 at h;simp only[Bool.and_eq_true]at h;exact h.1.1.1
def KD{m:Md}{l:List Ev}(hm:bo m)(ag:∀a∈m.au,iB a.eff)(hl:l.length<=140737488351232)(hp:∀e∈l,e.past.length<=140737488351232):Cl ah 27 [.t (bk m),.t (.arr (cC l))] [] (.t (.bool (iJ m l))) []:=by
 have bz:=aO m.ai;have bw:=fJ m.tables;have be:=nx m.cons;have bx:=mU m.ops;have bd:=fN m.au;have bh:=oE l;by_cases I:tT m l
 ·
  have ab:=I;obtain⟨a1,a2,a3,a4,a5,a6⟩:=ab;have kv:=FP hm ag (by omega)
  cases hv:b7 m with
  |false=>
   have D:iJ m l=false:=by unfold iJ;rw[hv,decide_eq_true I];rfl
   rw[hv]at kv;rw[aS]at kv⊢;rw[D];refine Cl.aq rfl Tryz.func27 rfl rfl rfl ?_;exact ae
  |true=>
   have v:=ub hv;have aV:=p_ v;have k1:=Px hm v;have k2:=O3 hm v;have ad:=DZ v;have al:=EA m.ai m.tables;have aJ:=ky (S:=m.ai) true m.tables;obtain⟨s,hs⟩:∃s,bp m.ai true m.tables=s:=⟨_,rfl⟩;obtain⟨G,hG⟩:∃G,lN m.ai m.tables=G:=⟨_,rfl⟩;have bl:=fJ G;obtain⟨Y1,J⟩:∃Y,l.all mX=Y:=⟨_,rfl⟩;obtain⟨Y2,U⟩:∃Y,(decide (s<=40)&&decide (G.length<=20))=Y:=⟨_,rfl⟩;have D:iJ m l=((m.au.drop 0).all (jc s G.length)&&(Y1&&Y2)):=by unfold iJ;rw[hv,decide_eq_true I,hs,hG,J,U];rfl
   rw[hv]at kv;rw[hs]at k1 ad aJ;rw[hG]at k2 al;rw[aS]at kv k1 k2⊢;rw[D];refine Cl.aq rfl Tryz.func27 rfl rfl rfl ?_;refine ak ?_;refine ax.ind (fun q:Nat=>[(5,.t (.int .i64 (q:Int)))]) (fun q=>q<=m.ai.length) (fun q=>m.ai.length - q) 0 rfl (by omega) (fun q y=>?_);rcases Nat.lt_or_ge q m.ai.length with h3|h3
   ·
    obtain⟨n,hn⟩:=aj h3;have V:=aW hn;obtain⟨n1,n2⟩:=G1 aV hn;exact ae
   ·
    refine ak ?_;refine ax.ind (fun q:Nat=>[(6,.t (.int .i64 (q:Int)))]) (fun q=>q<=m.tables.length) (fun q=>m.tables.length - q) 0 rfl (by omega) (fun q y=>?_);rcases Nat.lt_or_ge q m.tables.length with g3|g3
    ·
     obtain⟨t,ht⟩:=aj g3;have V:=fo ht;have b0:=aO t.av;obtain⟨c1,c2,c3⟩:=jL v ht;obtain⟨r1,r2,r3⟩:=D0 v ht
     have aG:0<=t.kind/\t.kind<=5:=by
      have h1:=rM v ht;simp only[iz,Bool.and_eq_true,decide_eq_true_eq]at h1;exact h1.2.2.1
     obtain⟨k3,k4⟩:=aG;exact ae
    ·
     refine ak ?_;refine ax.ind (fun q:Nat=>[(9,.t (.int .i64 (q:Int)))]) (fun q=>q<=m.au.length/\(m.au.drop 0).all (jc s G.length)=(m.au.drop q).all (jc s G.length)) (fun q=>m.au.length - q) 0 rfl ⟨by omega,rfl⟩ (fun q y=>?_);obtain⟨p1,p2⟩:=y;rw[p2];rcases Nat.lt_or_ge q m.au.length with p3|p3
     ·
      obtain⟨a,ha⟩:=aj p3;have a8:=ei ha;have bf:=q_ a.eff.delta;have bm:=xc a.eff.hold;have bT:=BD a.eff.cg;have ao:=i_ (jc s G.length) ha;rw[ao];obtain⟨Z,hZ⟩:∃Z,(m.au.drop (q+1)).all (jc s G.length)=Z:=⟨_,rfl⟩;rw[hZ];by_cases z:a.eff.delta.length<=20/\a.eff.hold.length<=8/\a.eff.cg.length<=20
      ·
       obtain⟨l1,l2,l3⟩:=z;obtain⟨X,hX⟩:∃X,a.eff.cg.all (pi G.length)=X:=⟨_,rfl⟩;have e1:jc s G.length a=((a.eff.delta.drop 0).all (pP s)&&X):=by unfold jc;rw[hX,decide_eq_true l1,decide_eq_true l2,decide_eq_true l3];rfl
       rw[e1];refine ak ?_;refine ax.ind (fun k:Nat=>[(11,.t (.int .i64 (k:Int)))]) (fun k=>k<=a.eff.delta.length/\(a.eff.delta.drop 0).all (pP s)=(a.eff.delta.drop k).all (pP s)) (fun k=>a.eff.delta.length - k) 0 rfl ⟨by omega,rfl⟩ (fun k hk=>?_);obtain⟨g1,g2⟩:=hk;rw[g2];rcases Nat.lt_or_ge k a.eff.delta.length with g4|g4
       ·
        obtain⟨c,V⟩:=aj g4;have bb:=pO V;have an:=i_ (pP s) V;rw[an];unfold pP
        repeat'(first
|((with_reducible apply aa.aR);(case hp=>exact aA))
|((with_reducible apply aa.aX)<;>intro y)
|((with_reducible apply aa.bi)<;>intro y)
|(refine ar ?_)
|((with_reducible apply aa.aB);(case hW=>exact rfl);(case hx=>exact af))
|((with_reducible apply aa.u0);(case hx=>exact af))
|fail)
        all_goals first
         |exact⟨k+1,rfl,rfl,⟨by omega,by rw[decide_eq_true (show 0<=c.cell by omega),decide_eq_true (show c.cell <s by omega)];rfl⟩,by omega⟩
         |exact a_ (.inr rfl) rfl (by rw[decide_eq_false (show¬0<=c.cell by omega)];rfl)
         |exact a_ (.inr rfl) rfl (by rw[decide_eq_false (show¬c.cell <s by omega),Bool.and_false];rfl)
       ·
        rw[g_ _ g4,Bool.true_and,<- hX];have e2:a.eff.cg.all (pi G.length)=(a.eff.cg.drop 0).all (pi G.length):=rfl;rw[e2];refine ak ?_;refine ax.ind (fun k:Nat=>[(12,.t (.int .i64 (k:Int)))]) (fun k=>k<=a.eff.cg.length/\(a.eff.cg.drop 0).all (pi G.length)=(a.eff.cg.drop k).all (pi G.length)) (fun k=>a.eff.cg.length - k) 0 rfl ⟨by omega,rfl⟩ (fun k hk=>?_);obtain⟨g1,g2⟩:=hk;rw[g2];rcases Nat.lt_or_ge k a.eff.cg.length with g5|g5
        ·
         obtain⟨u,hu⟩:=aj g5;have b1:=uJ hu;have aD:=i_ (pi G.length) hu;rw[aD];unfold pi
         repeat'(first
|((with_reducible apply aa.aR);(case hp=>exact aA))
|((with_reducible apply aa.aX)<;>intro y)
|((with_reducible apply aa.bi)<;>intro y)
|(refine ar ?_)
|((with_reducible apply aa.aB);(case hW=>exact rfl);(case hx=>exact af))
|((with_reducible apply aa.u0);(case hx=>exact af))
|fail)
         all_goals first
          |exact⟨k+1,rfl,rfl,⟨by omega,by rw[decide_eq_true (show 0<=u.cell by omega),decide_eq_true (show u.cell <G.length by omega)];rfl⟩,by omega⟩
          |exact a_ (.inr rfl) rfl (by rw[decide_eq_false (show¬0<=u.cell by omega)];rfl)
          |exact a_ (.inr rfl) rfl (by rw[decide_eq_false (show¬u.cell <G.length by omega),Bool.and_false];rfl)
        ·
         rw[g_ _ g5,Bool.true_and];refine ak ?_;exact⟨q+1,rfl,rfl,⟨by omega,hZ.symm⟩,by omega⟩
      ·
       have e1:jc s G.length a=false:=by
        rw[<- Bool.not_eq_true];unfold jc;simp only[Bool.and_eq_true,decide_eq_true_eq];exact fun h=>z ⟨h.1.1.1,h.1.1.2,h.1.2⟩
       rw[e1]
       repeat'(first
|(refine aY ?_)
|((with_reducible apply aa.aX)<;>intro y)
|((with_reducible apply aa.bi)<;>intro y)
|(refine ar ?_)
|((with_reducible apply aa.aB);(case hW=>exact rfl);(case hx=>exact af))
|((with_reducible apply aa.u0);(case hx=>exact af))
|fail)
       all_goals first
        |exact⟨.inr rfl,rfl⟩
        |(exfalso;omega)
     ·
      rw[g_ _ p3,Bool.true_and,<- J];have e2:l.all mX=(l.drop 0).all mX:=rfl;rw[e2];refine ak ?_;refine ax.ind (fun q:Nat=>[(13,.t (.int .i64 (q:Int)))]) (fun q=>q<=l.length/\(l.drop 0).all mX=(l.drop q).all mX) (fun q=>l.length - q) 0 rfl ⟨by omega,rfl⟩ (fun q y=>?_);obtain⟨h1,h2⟩:=y;rw[h2];rcases Nat.lt_or_ge q l.length with h4|h4
      ·
       obtain⟨e,he⟩:=aj h4;have V:=zk he;have bU:=aO e.past;have ha:=i_ mX he;rw[ha];by_cases h8:e.past.length<=8
       ·
        rw[show mX e=true from decide_eq_true h8];exact ae
       ·
        rw[show mX e=false from decide_eq_false h8];exact ae
      ·
       rw[g_ _ h4,Bool.true_and,<- U]
       repeat'(first
|((with_reducible apply aa.cQ);(case hp=>exact aA))
|((with_reducible apply aa.aX)<;>intro y)
|((with_reducible apply aa.bi)<;>intro y)
|(refine ar ?_)
|((with_reducible apply aa.aB);(case hW=>exact rfl);(case hx=>exact af))
|((with_reducible apply aa.u0);(case hx=>exact af))
|fail)
       all_goals(refine a_ (.inr rfl) rfl ?_;simp;omega)
 ·
  have D:iJ m l=false:=by unfold iJ;rw[decide_eq_false I];rfl
  have h1:¬(m.ai.length<=4/\m.tables.length<=12/\m.cons.length<=80/\m.ops.length<=8/\m.au.length<=30/\l.length<=60):=I;rw[aS,D];refine Cl.aq rfl Tryz.func27 rfl rfl rfl ?_
  repeat'(first
|((with_reducible apply aa.ee);(case hp=>exact aA))
|((with_reducible apply aa.aX)<;>intro y)
|((with_reducible apply aa.bi)<;>intro y)
|(refine ar ?_)
|((with_reducible apply aa.aB);(case hW=>exact rfl);(case hx=>exact af))
|((with_reducible apply aa.u0);(case hx=>exact af))
|fail)
  all_goals first
   |exact⟨.inr rfl,rfl⟩
   |(exfalso;omega)
def fu(m:Md)(n:Int)(e:Ev):Bool:=cW e&&(decide ((e.past.length:Int)=n)&&(!decide (e.k=0)||decide (e.a <m.au.length)))
def C6{m:Md}(hm:bo m)(n:Int)(e:Ev)(he:e.past.length<=140737488351232):Cl ah 76 [.t (bk m),.t (.int .i64 n),.t (bN e)] [] (.t (.bool (fu m n e))) []:=by
 have D:=KT e he;have y:=fN m.au;have z:=aO e.past;rw[aS];refine Cl.aq rfl Tryz.func76 rfl rfl rfl ?_;obtain⟨b,u⟩:∃b,cW e=b:=⟨_,rfl⟩;have v:fu m n e=(b&&(decide ((e.past.length:Int)=n)&&(!decide (e.k=0)||decide (e.a <m.au.length)))):=by unfold fu;rw[u]
 rw[u]at D;rw[v]
 cases b with
 |false=>
  exact ae
 |true=>
  exact ae
def Gs{m:Md}(hm:bo m)(n:Int)(e:Ev)(he:e.past.length<=140737488351232):Cl ah 43 [.t (bk m),.t (.int .i64 n),.t (bN e)] [] (.t (.bool (fu m n e))) []:=by
 have D:=OO e he;have y:=fN m.au;have z:=aO e.past;rw[aS];refine Cl.aq rfl Tryz.func43 rfl rfl rfl ?_;obtain⟨b,u⟩:∃b,cW e=b:=⟨_,rfl⟩;have v:fu m n e=(b&&(decide ((e.past.length:Int)=n)&&(!decide (e.k=0)||decide (e.a <m.au.length)))):=by unfold fu;rw[u]
 rw[u]at D;rw[v]
 cases b with
 |false=>
  exact ae
 |true=>
  exact ae
section
variable {g:Cfg} {d:Option (List Nat)} {env:Env} {fr:Fr} {i:Nat}
end
end Go.Proofs.YtjolgbkkocjpgaaGreatDoor
