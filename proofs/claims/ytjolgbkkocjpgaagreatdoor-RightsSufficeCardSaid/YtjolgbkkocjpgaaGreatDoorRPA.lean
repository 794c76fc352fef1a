/- The reference's plans: when they are valid,as contracts. No condition. -/
import Derived.Test.YtjolgbkkocjpgaaGreatDoorTLP
import Derived.Test.YtjolgbkkocjpgaaGreatDoorTNF
set_option linter.all false
namespace Go.Proofs.YtjolgbkkocjpgaaGreatDoor
open Go.RowKit
set_option maxRecDepth 100000
set_option maxHeartbeats 32000000
def F7{m:Md}{o k:Int}(hm:bo m)(h0:0<=o)(h1:o <m.ops.length):Cl ah 114 [.t (bk m),.t (.int .i64 o),.t (.int .i64 k)] [] (.t (.int .i64 (gW m o k))) []:=by
 have u:=mU m.ops;have y:=hm.ops;obtain⟨x,hx⟩:=aj (xs:=m.ops) (k:=o.toNat) (by omega);have G:=nO hx;have D:=hm.rX x (List.mem_of_getElem? hx);have v:=aO x.ai;unfold gW;rw[wL hx];rw[aS];refine Cl.aq rfl Tryz.func114 rfl rfl rfl ?_;by_cases h:0<=k/\k <x.ai.length
 ·
  rw[if_pos h];obtain⟨J,U⟩:=h;obtain⟨s,hs⟩:=aj (xs:=x.ai) (k:=k.toNat) (by omega);have z:=aW hs;rw[List.getD_eq_getElem?_getD,hs,Option.getD_some];exact ae
 ·
  rw[if_neg h]
  repeat'(first
|((with_reducible apply aa.ee);(case hp=>exact aA))
|((with_reducible apply aa.aX)<;>intro I)
|(refine ar ?_)
|((with_reducible apply aa.aB);(case hW=>exact rfl);(case hx=>exact af))
|((with_reducible apply aa.u0);(case hx=>exact af))
|fail)
  all_goals first
   |exact⟨.inr rfl,rfl⟩
   |(exfalso;apply h;constructor <;>omega)
def F8{p:Pln}{k:Int}(hl:p.places.length<=140737488351232):Cl ah 79 [.t (aN p),.t (.int .i64 k)] [] (.t (.bool (eH p k))) []:=by
 have z:=kU p.places;have y:eH p k=(p.places.drop 0).any fun x=>decide (x.act=k):=rfl;rw[y];unfold aN;rw[bt];refine Cl.aq rfl Tryz.func79 rfl rfl rfl ?_;refine ak ?_;refine ax.ind (fun q:Nat=>[(5,.t (.int .i64 (q:Int)))]) (fun q=>q<=p.places.length/\((p.places.drop 0).any fun x=>decide (x.act=k))=(p.places.drop q).any fun x=>decide (x.act=k)) (fun q=>p.places.length - q) 0 rfl ⟨by omega,rfl⟩ (fun q D=>?_);obtain⟨h1,h2⟩:=D;rw[h2];rcases Nat.lt_or_ge q p.places.length with h3|h3
 ·
  obtain⟨x,v⟩:=aj h3;have G:=iQ v;rw[oe (fun x:Mem=>decide (x.act=k)) v];by_cases u:x.act=k
  ·
   rw[decide_eq_true u,Bool.true_or];exact ae
  ·
   rw[decide_eq_false u,Bool.false_or];exact ae
 ·
  rw[od _ h3];exact ae
def O2{m:Md}{L:Lck}(hm:bo m)(hL:L.mem.length<=140737488351232):Cl ah 78 [.t (bk m),.t (.agg (jM L))] [] (.t (.bool (dq m L))) []:=by
 have bb:=mU m.ops;have be:=hm.ops;have a6:=fN m.au;have bd:=hm.au;have a8:=kU L.mem;obtain⟨G,an⟩:∃G:Nat->Mem->Bool,(fun(i:Nat) (x:Mem)=>decide (aU Mem.act L.mem i <x.act)&&(decide (x.act <m.au.length)&&(decide (bg m x.act=L.a)||decide (bg m x.act=L.b))))=G:=⟨_,rfl⟩
 have ad:∀q x,G q x=true↔aU Mem.act L.mem q <x.act/\x.act <m.au.length/\(bg m x.act=L.a\/bg m x.act=L.b):=fun q x=>by
  rw[<- an];simp only[Bool.and_eq_true,Bool.or_eq_true,decide_eq_true_eq]
 have e0:dq m L=((decide (0<=L.a)&&(decide (L.a<=L.b)&&decide (L.b <m.ops.length)))&&(jQ m L&&aL G 0 (L.mem.drop 0))):=by
  unfold dq;rw[<- Er,<- an];rfl
 rw[e0];have k1:=fun h0 h1=>F7 (o:=L.a) (k:=L.pa) hm h0 h1;have k2:=fun h0 h1=>F7 (o:=L.b) (k:=L.pb) hm h0 h1;rw[aS]at k1 k2⊢;rw[mK];refine Cl.aq rfl Tryz.func78 rfl rfl rfl ?_;by_cases h:(0<=L.a/\L.a<=L.b)/\L.b <m.ops.length
 ·
  obtain⟨⟨h0,h1⟩,h2⟩:=h;rw[decide_eq_true h0,decide_eq_true h1,decide_eq_true h2,Bool.true_and,Bool.true_and,Bool.true_and];have k1:=k1 h0 (by omega);have k2:=k2 (by omega) h2;by_cases hp:L.pa= -1/\L.pb= -1
  ·
   obtain⟨aG,aJ⟩:=hp;have a1:jQ m L=true:=by unfold jQ;rw[decide_eq_true aG,decide_eq_true aJ];rfl
   rw[a1,Bool.true_and];refine ak ?_;refine ax.ind (fun q:Nat=>[(6,.t (.int .i64 (aU Mem.act L.mem q))),(7,.t (.int .i64 (q:Int)))]) (fun q=>q<=L.mem.length/\aL G 0 (L.mem.drop 0)=aL G q (L.mem.drop q) /\ -1<=aU Mem.act L.mem q) (fun q=>L.mem.length - q) 0 rfl ⟨by omega,rfl,Int.le_refl _⟩ (fun q I=>?_);obtain⟨g1,g2,g4⟩:=I;rw[g2];rcases Nat.lt_or_ge q L.mem.length with g3|g3
   ·
    obtain⟨x,hx⟩:=aj g3;have hc:=iQ hx;have u:=dB (p:=G) hx;have y:=dC (p:=G) hx;have D:aU Mem.act L.mem (q+1)=x.act:=by simp only[aU,hx]
    rw[ad]at u y;obtain⟨v,hv⟩:∃v,aU Mem.act L.mem q=v:=⟨_,rfl⟩;rw[hv]at u y g4⊢;by_cases z:v <x.act/\x.act <m.au.length
    ·
     obtain⟨Z,i1⟩:=z;obtain⟨a,V⟩:=aj (xs:=m.au) (k:=x.act.toNat) (by omega);have ai:=ei V;rw[jm V]at u y;by_cases J:a.op=L.a
     ·
      refine ak ?_;exact⟨q+1,by rw[D];rfl,rfl,⟨by omega,y ⟨Z,i1,.inl J⟩,by omega⟩,by omega⟩
     ·
      by_cases U:a.op=L.b
      ·
       refine ak ?_
       first
        |exact⟨q+1,by rw[D];rfl,rfl,⟨by omega,y ⟨Z,i1,.inr U⟩,by omega⟩,by omega⟩
        |(exfalso;omega)
      ·
       rw[u (fun h=>by rcases h.2.2 with h|h <;>contradiction)];exact ae
    ·
     rw[u (fun h=>z ⟨h.1,h.2.1⟩)]
     repeat'(first
|(refine aY ?_)
|((with_reducible apply aa.aX)<;>intro I)
|(refine ar ?_)
|((with_reducible apply aa.aB);(case hW=>exact rfl);(case hx=>exact af))
|((with_reducible apply aa.u0);(case hx=>exact af))
|fail)
     all_goals first
      |exact⟨.inr rfl,rfl⟩
      |(exfalso;apply z;constructor <;>omega)
   ·
    rw[cU g3];exact ae
  ·
   have ab:=Fj (m:=m) hp;obtain⟨S1,ao⟩:∃s,gW m L.a L.pa=s:=⟨_,rfl⟩;obtain⟨S2,av⟩:∃s,gW m L.b L.pb=s:=⟨_,rfl⟩;rw[ao]at k1 ab;rw[av]at k2 ab;by_cases I:0<=S1/\S1=S2/\(L.a=L.b->L.pa=L.pb)
   ·
    rw[ab.2 I,Bool.true_and];obtain⟨q1,q2,q3⟩:=I;have al:L.pa≠ -1\/L.pb≠ -1:=by omega
    rcases al with al|al
    ·
     by_cases ag:L.a=L.b
     ·
      have q4:=q3 ag;refine ak ?_;refine ax.ind (fun q:Nat=>[(6,.t (.int .i64 (aU Mem.act L.mem q))),(7,.t (.int .i64 (q:Int)))]) (fun q=>q<=L.mem.length/\aL G 0 (L.mem.drop 0)=aL G q (L.mem.drop q) /\ -1<=aU Mem.act L.mem q) (fun q=>L.mem.length - q) 0 rfl ⟨by omega,rfl,Int.le_refl _⟩ (fun q I=>?_);obtain⟨g1,g2,g4⟩:=I;rw[g2];rcases Nat.lt_or_ge q L.mem.length with g3|g3
      ·
       obtain⟨x,hx⟩:=aj g3;have hc:=iQ hx;have u:=dB (p:=G) hx;have y:=dC (p:=G) hx;have D:aU Mem.act L.mem (q+1)=x.act:=by simp only[aU,hx]
       rw[ad]at u y;obtain⟨v,hv⟩:∃v,aU Mem.act L.mem q=v:=⟨_,rfl⟩;rw[hv]at u y g4⊢;by_cases z:v <x.act/\x.act <m.au.length
       ·
        obtain⟨Z,i1⟩:=z;obtain⟨a,V⟩:=aj (xs:=m.au) (k:=x.act.toNat) (by omega);have ai:=ei V;rw[jm V]at u y;by_cases J:a.op=L.a
        ·
         refine ak ?_;exact⟨q+1,by rw[D];rfl,rfl,⟨by omega,y ⟨Z,i1,.inl J⟩,by omega⟩,by omega⟩
        ·
         by_cases U:a.op=L.b
         ·
          repeat'(first
|((with_reducible apply aa.aR);(case hp=>exact aA))
|(refine ar ?_)
|((with_reducible apply aa.u0);(case hx=>exact af))
|fail)
          first
           |exact⟨q+1,by rw[D];rfl,rfl,⟨by omega,y ⟨Z,i1,.inr U⟩,by omega⟩,by omega⟩
           |(exfalso;omega)
         ·
          rw[u (fun h=>by rcases h.2.2 with h|h <;>contradiction)];exact ae
       ·
        rw[u (fun h=>z ⟨h.1,h.2.1⟩)]
        repeat'(first
|(refine aY ?_)
|((with_reducible apply aa.aX)<;>intro I)
|(refine ar ?_)
|((with_reducible apply aa.aB);(case hW=>exact rfl);(case hx=>exact af))
|((with_reducible apply aa.u0);(case hx=>exact af))
|fail)
        all_goals first
         |exact⟨.inr rfl,rfl⟩
         |(exfalso;apply z;constructor <;>omega)
      ·
       rw[cU g3];exact ae
     ·
      refine ak ?_;refine ax.ind (fun q:Nat=>[(6,.t (.int .i64 (aU Mem.act L.mem q))),(7,.t (.int .i64 (q:Int)))]) (fun q=>q<=L.mem.length/\aL G 0 (L.mem.drop 0)=aL G q (L.mem.drop q) /\ -1<=aU Mem.act L.mem q) (fun q=>L.mem.length - q) 0 rfl ⟨by omega,rfl,Int.le_refl _⟩ (fun q I=>?_);obtain⟨g1,g2,g4⟩:=I;rw[g2];rcases Nat.lt_or_ge q L.mem.length with g3|g3
      ·
       obtain⟨x,hx⟩:=aj g3;have hc:=iQ hx;have u:=dB (p:=G) hx;have y:=dC (p:=G) hx;have D:aU Mem.act L.mem (q+1)=x.act:=by simp only[aU,hx]
       rw[ad]at u y;obtain⟨v,hv⟩:∃v,aU Mem.act L.mem q=v:=⟨_,rfl⟩;rw[hv]at u y g4⊢;by_cases z:v <x.act/\x.act <m.au.length
       ·
        obtain⟨Z,i1⟩:=z;obtain⟨a,V⟩:=aj (xs:=m.au) (k:=x.act.toNat) (by omega);have ai:=ei V;rw[jm V]at u y;by_cases J:a.op=L.a
        ·
         refine ak ?_;exact⟨q+1,by rw[D];rfl,rfl,⟨by omega,y ⟨Z,i1,.inl J⟩,by omega⟩,by omega⟩
        ·
         by_cases U:a.op=L.b
         ·
          refine ak ?_
          first
           |exact⟨q+1,by rw[D];rfl,rfl,⟨by omega,y ⟨Z,i1,.inr U⟩,by omega⟩,by omega⟩
           |(exfalso;omega)
         ·
          rw[u (fun h=>by rcases h.2.2 with h|h <;>contradiction)];exact ae
       ·
        rw[u (fun h=>z ⟨h.1,h.2.1⟩)]
        repeat'(first
|(refine aY ?_)
|((with_reducible apply aa.aX)<;>intro I)
|(refine ar ?_)
|((with_reducible apply aa.aB);(case hW=>exact rfl);(case hx=>exact af))
|((with_reducible apply aa.u0);(case hx=>exact af))
|fail)
        all_goals first
         |exact⟨.inr rfl,rfl⟩
         |(exfalso;apply z;constructor <;>omega)
      ·
       rw[cU g3];exact ae
    ·
     by_cases bf:L.pa= -1
     ·
      by_cases ag:L.a=L.b
      ·
       have q4:=q3 ag;exfalso;omega
      ·
       refine ak ?_;refine ax.ind (fun q:Nat=>[(6,.t (.int .i64 (aU Mem.act L.mem q))),(7,.t (.int .i64 (q:Int)))]) (fun q=>q<=L.mem.length/\aL G 0 (L.mem.drop 0)=aL G q (L.mem.drop q) /\ -1<=aU Mem.act L.mem q) (fun q=>L.mem.length - q) 0 rfl ⟨by omega,rfl,Int.le_refl _⟩ (fun q I=>?_);obtain⟨g1,g2,g4⟩:=I;rw[g2];rcases Nat.lt_or_ge q L.mem.length with g3|g3
       ·
        obtain⟨x,hx⟩:=aj g3;have hc:=iQ hx;have u:=dB (p:=G) hx;have y:=dC (p:=G) hx;have D:aU Mem.act L.mem (q+1)=x.act:=by simp only[aU,hx]
        rw[ad]at u y;obtain⟨v,hv⟩:∃v,aU Mem.act L.mem q=v:=⟨_,rfl⟩;rw[hv]at u y g4⊢;by_cases z:v <x.act/\x.act <m.au.length
        ·
         obtain⟨Z,i1⟩:=z;obtain⟨a,V⟩:=aj (xs:=m.au) (k:=x.act.toNat) (by omega);have ai:=ei V;rw[jm V]at u y;by_cases J:a.op=L.a
         ·
          refine ak ?_;exact⟨q+1,by rw[D];rfl,rfl,⟨by omega,y ⟨Z,i1,.inl J⟩,by omega⟩,by omega⟩
         ·
          by_cases U:a.op=L.b
          ·
           refine ak ?_
           first
            |exact⟨q+1,by rw[D];rfl,rfl,⟨by omega,y ⟨Z,i1,.inr U⟩,by omega⟩,by omega⟩
            |(exfalso;omega)
          ·
           rw[u (fun h=>by rcases h.2.2 with h|h <;>contradiction)];exact ae
        ·
         rw[u (fun h=>z ⟨h.1,h.2.1⟩)]
         repeat'(first
|(refine aY ?_)
|((with_reducible apply aa.aX)<;>intro I)
|(refine ar ?_)
|((with_reducible apply aa.aB);(case hW=>exact rfl);(case hx=>exact af))
|((with_reducible apply aa.u0);(case hx=>exact af))
|fail)
         all_goals first
          |exact⟨.inr rfl,rfl⟩
          |(exfalso;apply z;constructor <;>omega)
       ·
        rw[cU g3];exact ae
     ·
      by_cases ag:L.a=L.b
      ·
       have q4:=q3 ag;refine ak ?_;refine ax.ind (fun q:Nat=>[(6,.t (.int .i64 (aU Mem.act L.mem q))),(7,.t (.int .i64 (q:Int)))]) (fun q=>q<=L.mem.length/\aL G 0 (L.mem.drop 0)=aL G q (L.mem.drop q) /\ -1<=aU Mem.act L.mem q) (fun q=>L.mem.length - q) 0 rfl ⟨by omega,rfl,Int.le_refl _⟩ (fun q I=>?_);obtain⟨g1,g2,g4⟩:=I;rw[g2];rcases Nat.lt_or_ge q L.mem.length with g3|g3
       ·
        obtain⟨x,hx⟩:=aj g3;have hc:=iQ hx;have u:=dB (p:=G) hx;have y:=dC (p:=G) hx;have D:aU Mem.act L.mem (q+1)=x.act:=by simp only[aU,hx]
        rw[ad]at u y;obtain⟨v,hv⟩:∃v,aU Mem.act L.mem q=v:=⟨_,rfl⟩;rw[hv]at u y g4⊢;by_cases z:v <x.act/\x.act <m.au.length
        ·
         obtain⟨Z,i1⟩:=z;obtain⟨a,V⟩:=aj (xs:=m.au) (k:=x.act.toNat) (by omega);have ai:=ei V;rw[jm V]at u y;by_cases J:a.op=L.a
         ·
          refine ak ?_;exact⟨q+1,by rw[D];rfl,rfl,⟨by omega,y ⟨Z,i1,.inl J⟩,by omega⟩,by omega⟩
         ·
          by_cases U:a.op=L.b
          ·
           repeat'(first
|((with_reducible apply aa.aR);(case hp=>exact aA))
|(refine ar ?_)
|((with_reducible apply aa.u0);(case hx=>exact af))
|fail)
           first
            |exact⟨q+1,by rw[D];rfl,rfl,⟨by omega,y ⟨Z,i1,.inr U⟩,by omega⟩,by omega⟩
            |(exfalso;omega)
          ·
           rw[u (fun h=>by rcases h.2.2 with h|h <;>contradiction)];exact ae
        ·
         rw[u (fun h=>z ⟨h.1,h.2.1⟩)]
         repeat'(first
|(refine aY ?_)
|((with_reducible apply aa.aX)<;>intro I)
|(refine ar ?_)
|((with_reducible apply aa.aB);(case hW=>exact rfl);(case hx=>exact af))
|((with_reducible apply aa.u0);(case hx=>exact af))
|fail)
         all_goals first
          |exact⟨.inr rfl,rfl⟩
          |(exfalso;apply z;constructor <;>omega)
       ·
        rw[cU g3];exact ae
      ·
       refine ak ?_;refine ax.ind (fun q:Nat=>[(6,.t (.int .i64 (aU Mem.act L.mem q))),(7,.t (.int .i64 (q:Int)))]) (fun q=>q<=L.mem.length/\aL G 0 (L.mem.drop 0)=aL G q (L.mem.drop q) /\ -1<=aU Mem.act L.mem q) (fun q=>L.mem.length - q) 0 rfl ⟨by omega,rfl,Int.le_refl _⟩ (fun q I=>?_);obtain⟨g1,g2,g4⟩:=I;rw[g2];rcases Nat.lt_or_ge q L.mem.length with g3|g3
       ·
        obtain⟨x,hx⟩:=aj g3;have hc:=iQ hx;have u:=dB (p:=G) hx;have y:=dC (p:=G) hx;have D:aU Mem.act L.mem (q+1)=x.act:=by simp only[aU,hx]
        rw[ad]at u y;obtain⟨v,hv⟩:∃v,aU Mem.act L.mem q=v:=⟨_,rfl⟩;rw[hv]at u y g4⊢;by_cases z:v <x.act/\x.act <m.au.length
        ·
         obtain⟨Z,i1⟩:=z;obtain⟨a,V⟩:=aj (xs:=m.au) (k:=x.act.toNat) (by omega);have ai:=ei V;rw[jm V]at u y;by_cases J:a.op=L.a
         ·
          refine ak ?_;exact⟨q+1,by rw[D];rfl,rfl,⟨by omega,y ⟨Z,i1,.inl J⟩,by omega⟩,by omega⟩
         ·
          by_cases U:a.op=L.b
          ·
           refine ak ?_
           first
            |exact⟨q+1,by rw[D];rfl,rfl,⟨by omega,y ⟨Z,i1,.inr U⟩,by omega⟩,by omega⟩
            |(exfalso;omega)
          ·
           rw[u (fun h=>by rcases h.2.2 with h|h <;>contradiction)];exact ae
        ·
         rw[u (fun h=>z ⟨h.1,h.2.1⟩)]
         repeat'(first
|(refine aY ?_)
|((with_reducible apply aa.aX)<;>intro I)
|(refine ar ?_)
|((with_reducible apply aa.aB);(case hW=>exact rfl);(case hx=>exact af))
|((with_reducible apply aa.u0);(case hx=>exact af))
|fail)
         all_goals first
          |exact⟨.inr rfl,rfl⟩
          |(exfalso;apply z;constructor <;>omega)
       ·
        rw[cU g3];exact ae
   ·
    have aV:jQ m L=false:=by rw[<- Bool.not_eq_true,ab];exact I
    rw[aV,Bool.false_and]
    repeat'(first
|(refine aY ?_)
|((with_reducible apply aa.aX)<;>intro I)
|((with_reducible apply aa.gm)<;>intro I)
|((with_reducible apply aa.fj)<;>intro I)
|(refine ar ?_)
|((with_reducible apply aa.aB);(case hW=>exact rfl);(case hx=>first
|(exact ap k2)
|exact af))
|((with_reducible apply aa.u0);(case hx=>first
|(exact ap k1)
|exact af))
|fail)
    all_goals first
     |exact⟨.inr rfl,rfl⟩
     |(exfalso;apply hp;constructor <;>omega)
     |(exfalso;apply I;refine⟨by omega,by omega,fun _=>by omega⟩)
 ·
  have aD:(decide (0<=L.a)&&(decide (L.a<=L.b)&&decide (L.b <(m.ops.length:Int))))=false:=by
   rw[<- Bool.not_eq_true,Bool.and_eq_true,Bool.and_eq_true,decide_eq_true_eq,decide_eq_true_eq,decide_eq_true_eq];exact fun h'=>h ⟨⟨h'.1,h'.2.1⟩,h'.2.2⟩
  rw[aD,Bool.false_and]
  repeat'(first
|((with_reducible apply aa.ee);(case hp=>exact aA))
|((with_reducible apply aa.aX)<;>intro I)
|((with_reducible apply aa.bi)<;>intro I)
|(refine ar ?_)
|((with_reducible apply aa.aB);(case hW=>exact rfl);(case hx=>exact af))
|((with_reducible apply aa.u0);(case hx=>exact af))
|fail)
  all_goals first
   |exact⟨.inr rfl,rfl⟩
   |(exfalso;apply h;refine⟨⟨?_,?_⟩,?_⟩<;>omega)
end Go.Proofs.YtjolgbkkocjpgaaGreatDoor
