/- The reference's plans: when they are valid,as contracts. No condition. -/
import Derived.Test.YtcgdbhlnkificaaGreatDoorTLP
import Derived.Test.YtcgdbhlnkificaaGreatDoorTNF
set_option linter.all false
namespace Go.Proofs.YtcgdbhlnkificaaGreatDoor
open Go.RowKit
set_option maxRecDepth 100000
set_option maxHeartbeats 32000000
def zY{m:Md}{o k:Int}(hm:bx m)(h0:0<=o)(h1:o <m.ops.length):Cl aj 88 [.t (bN m),.t (.int .i64 o),.t (.int .i64 k)] [] (.t (.int .i64 (gz m o k))) []:=by
 have u:=mB m.ops;have y:=hm.ops;obtain⟨x,hx⟩:=am (xs:=m.ops) (k:=o.toNat) (by omega);have G:=nz hx;have D:=hm.rA x (List.mem_of_getElem? hx);have v:=aW x.ao;unfold gz;rw[ry hx];rw[aZ];refine Cl.ap rfl Tryz.func88 rfl rfl rfl ?_;by_cases h:0<=k/\k <x.ao.length
 ·
  rw[if_pos h];obtain⟨J,U⟩:=h;obtain⟨s,hs⟩:=am (xs:=x.ao) (k:=k.toNat) (by omega);have z:=bg hs;rw[List.getD_eq_getElem?_getD,hs,Option.getD_some];exact ah
 ·
  rw[if_neg h]
  repeat'(first
|((with_reducible apply aa.cj);(case hp=>exact ak))
|((with_reducible apply aa.aX)<;>intro I)
|(refine aw ?_)
|((with_reducible apply aa.av);(case hW=>exact rfl);(case hx=>exact ae))
|((with_reducible apply aa.u0);(case hx=>exact ae))
|fail)
  all_goals first
   |exact⟨.inr rfl,rfl⟩
   |(exfalso;apply h;constructor <;>omega)
def NS{p:Pln}{k:Int}(hl:p.places.length<=140737488351232):Cl aj 87 [.t (a_ p),.t (.int .i64 k)] [] (.t (.bool (h_ p k))) []:=by
 have z:=lG p.places;have y:h_ p k=(p.places.drop 0).any fun x=>decide (x.act=k):=rfl;rw[y];unfold a_;rw[bK];refine Cl.ap rfl Tryz.func87 rfl rfl rfl ?_;refine aq ?_;refine az.ind (fun q:Nat=>[(5,.t (.int .i64 (q:Int)))]) (fun q=>q<=p.places.length/\((p.places.drop 0).any fun x=>decide (x.act=k))=(p.places.drop q).any fun x=>decide (x.act=k)) (fun q=>p.places.length - q) 0 rfl ⟨by omega,rfl⟩ (fun q D=>?_);obtain⟨h1,h2⟩:=D;rw[h2];rcases Nat.lt_or_ge q p.places.length with h3|h3
 ·
  obtain⟨x,v⟩:=am h3;have G:=i_ v;rw[o_ (fun x:Mem=>decide (x.act=k)) v];by_cases u:x.act=k
  ·
   rw[decide_eq_true u,Bool.true_or];exact ah
  ·
   rw[decide_eq_false u,Bool.false_or];exact ah
 ·
  rw[o9 _ h3];exact ah
def NC{m:Md}{L:Lck}(hm:bx m)(hL:L.mem.length<=140737488351232):Cl aj 86 [.t (bN m),.t (.agg (jG L))] [] (.t (.bool (dh m L))) []:=by
 have a1:=mB m.ops;have bb:=hm.ops;have aT:=jl m.ax;have a6:=hm.ax;have aY:=lG L.mem;obtain⟨G,ao⟩:∃G:Nat->Mem->Bool,(fun(i:Nat) (x:Mem)=>decide (aS Mem.act L.mem i <x.act)&&(decide (x.act <m.ax.length)&&(decide (bh m x.act=L.a)||decide (bh m x.act=L.b))))=G:=⟨_,rfl⟩
 have ad:∀q x,G q x=true↔aS Mem.act L.mem q <x.act/\x.act <m.ax.length/\(bh m x.act=L.a\/bh m x.act=L.b):=fun q x=>by
  rw[<- ao];simp only[Bool.and_eq_true,Bool.or_eq_true,decide_eq_true_eq]
 have e0:dh m L=((decide (0<=L.a)&&(decide (L.a<=L.b)&&decide (L.b <m.ops.length)))&&(jL m L&&aK G 0 (L.mem.drop 0))):=by
  unfold dh;rw[<- DJ,<- ao];rfl
 rw[e0];have k1:=fun h0 h1=>zY (o:=L.a) (k:=L.pa) hm h0 h1;have k2:=fun h0 h1=>zY (o:=L.b) (k:=L.pb) hm h0 h1;rw[aZ]at k1 k2⊢;rw[mw];refine Cl.ap rfl Tryz.func86 rfl rfl rfl ?_;by_cases h:(0<=L.a/\L.a<=L.b)/\L.b <m.ops.length
 ·
  obtain⟨⟨h0,h1⟩,h2⟩:=h;rw[decide_eq_true h0,decide_eq_true h1,decide_eq_true h2,Bool.true_and,Bool.true_and,Bool.true_and];have k1:=k1 h0 (by omega);have k2:=k2 (by omega) h2;by_cases hp:L.pa= -1/\L.pb= -1
  ·
   obtain⟨aG,aM⟩:=hp;have aR:jL m L=true:=by unfold jL;rw[decide_eq_true aG,decide_eq_true aM];rfl
   rw[aR,Bool.true_and];refine aq ?_;refine az.ind (fun q:Nat=>[(6,.t (.int .i64 (aS Mem.act L.mem q))),(7,.t (.int .i64 (q:Int)))]) (fun q=>q<=L.mem.length/\aK G 0 (L.mem.drop 0)=aK G q (L.mem.drop q) /\ -1<=aS Mem.act L.mem q) (fun q=>L.mem.length - q) 0 rfl ⟨by omega,rfl,Int.le_refl _⟩ (fun q I=>?_);obtain⟨g1,g2,g4⟩:=I;rw[g2];rcases Nat.lt_or_ge q L.mem.length with g3|g3
   ·
    obtain⟨x,hx⟩:=am g3;have hc:=i_ hx;have u:=dl (p:=G) hx;have y:=dm (p:=G) hx;have D:aS Mem.act L.mem (q+1)=x.act:=by simp only[aS,hx]
    rw[ad]at u y;obtain⟨v,hv⟩:∃v,aS Mem.act L.mem q=v:=⟨_,rfl⟩;rw[hv]at u y g4⊢;by_cases z:v <x.act/\x.act <m.ax.length
    ·
     obtain⟨Z,i1⟩:=z;obtain⟨a,V⟩:=am (xs:=m.ax) (k:=x.act.toNat) (by omega);have al:=fF V;rw[kT V]at u y;by_cases J:a.op=L.a
     ·
      refine aq ?_;exact⟨q+1,by rw[D];rfl,rfl,⟨by omega,y ⟨Z,i1,.inl J⟩,by omega⟩,by omega⟩
     ·
      by_cases U:a.op=L.b
      ·
       refine aq ?_
       first
        |exact⟨q+1,by rw[D];rfl,rfl,⟨by omega,y ⟨Z,i1,.inr U⟩,by omega⟩,by omega⟩
        |(exfalso;omega)
      ·
       rw[u (fun h=>by rcases h.2.2 with h|h <;>contradiction)];exact ah
    ·
     rw[u (fun h=>z ⟨h.1,h.2.1⟩)]
     repeat'(first
|(refine a8 ?_)
|((with_reducible apply aa.aX)<;>intro I)
|(refine aw ?_)
|((with_reducible apply aa.av);(case hW=>exact rfl);(case hx=>exact ae))
|((with_reducible apply aa.u0);(case hx=>exact ae))
|fail)
     all_goals first
      |exact⟨.inr rfl,rfl⟩
      |(exfalso;apply z;constructor <;>omega)
   ·
    rw[cL g3];exact ah
  ·
   have ab:=Ew (m:=m) hp;obtain⟨S1,au⟩:∃s,gz m L.a L.pa=s:=⟨_,rfl⟩;obtain⟨S2,aA⟩:∃s,gz m L.b L.pb=s:=⟨_,rfl⟩;rw[au]at k1 ab;rw[aA]at k2 ab;by_cases I:0<=S1/\S1=S2/\(L.a=L.b->L.pa=L.pb)
   ·
    rw[ab.2 I,Bool.true_and];obtain⟨q1,q2,q3⟩:=I;have an:L.pa≠ -1\/L.pb≠ -1:=by omega
    rcases an with an|an
    ·
     by_cases ag:L.a=L.b
     ·
      have q4:=q3 ag;refine aq ?_;refine az.ind (fun q:Nat=>[(6,.t (.int .i64 (aS Mem.act L.mem q))),(7,.t (.int .i64 (q:Int)))]) (fun q=>q<=L.mem.length/\aK G 0 (L.mem.drop 0)=aK G q (L.mem.drop q) /\ -1<=aS Mem.act L.mem q) (fun q=>L.mem.length - q) 0 rfl ⟨by omega,rfl,Int.le_refl _⟩ (fun q I=>?_);obtain⟨g1,g2,g4⟩:=I;rw[g2];rcases Nat.lt_or_ge q L.mem.length with g3|g3
      ·
       obtain⟨x,hx⟩:=am g3;have hc:=i_ hx;have u:=dl (p:=G) hx;have y:=dm (p:=G) hx;have D:aS Mem.act L.mem (q+1)=x.act:=by simp only[aS,hx]
       rw[ad]at u y;obtain⟨v,hv⟩:∃v,aS Mem.act L.mem q=v:=⟨_,rfl⟩;rw[hv]at u y g4⊢;by_cases z:v <x.act/\x.act <m.ax.length
       ·
        obtain⟨Z,i1⟩:=z;obtain⟨a,V⟩:=am (xs:=m.ax) (k:=x.act.toNat) (by omega);have al:=fF V;rw[kT V]at u y;by_cases J:a.op=L.a
        ·
         refine aq ?_;exact⟨q+1,by rw[D];rfl,rfl,⟨by omega,y ⟨Z,i1,.inl J⟩,by omega⟩,by omega⟩
        ·
         by_cases U:a.op=L.b
         ·
          repeat'(first
|((with_reducible apply aa.aF);(case hp=>exact ak))
|(refine aw ?_)
|((with_reducible apply aa.u0);(case hx=>exact ae))
|fail)
          first
           |exact⟨q+1,by rw[D];rfl,rfl,⟨by omega,y ⟨Z,i1,.inr U⟩,by omega⟩,by omega⟩
           |(exfalso;omega)
         ·
          rw[u (fun h=>by rcases h.2.2 with h|h <;>contradiction)];exact ah
       ·
        rw[u (fun h=>z ⟨h.1,h.2.1⟩)]
        repeat'(first
|(refine a8 ?_)
|((with_reducible apply aa.aX)<;>intro I)
|(refine aw ?_)
|((with_reducible apply aa.av);(case hW=>exact rfl);(case hx=>exact ae))
|((with_reducible apply aa.u0);(case hx=>exact ae))
|fail)
        all_goals first
         |exact⟨.inr rfl,rfl⟩
         |(exfalso;apply z;constructor <;>omega)
      ·
       rw[cL g3];exact ah
     ·
      refine aq ?_;refine az.ind (fun q:Nat=>[(6,.t (.int .i64 (aS Mem.act L.mem q))),(7,.t (.int .i64 (q:Int)))]) (fun q=>q<=L.mem.length/\aK G 0 (L.mem.drop 0)=aK G q (L.mem.drop q) /\ -1<=aS Mem.act L.mem q) (fun q=>L.mem.length - q) 0 rfl ⟨by omega,rfl,Int.le_refl _⟩ (fun q I=>?_);obtain⟨g1,g2,g4⟩:=I;rw[g2];rcases Nat.lt_or_ge q L.mem.length with g3|g3
      ·
       obtain⟨x,hx⟩:=am g3;have hc:=i_ hx;have u:=dl (p:=G) hx;have y:=dm (p:=G) hx;have D:aS Mem.act L.mem (q+1)=x.act:=by simp only[aS,hx]
       rw[ad]at u y;obtain⟨v,hv⟩:∃v,aS Mem.act L.mem q=v:=⟨_,rfl⟩;rw[hv]at u y g4⊢;by_cases z:v <x.act/\x.act <m.ax.length
       ·
        obtain⟨Z,i1⟩:=z;obtain⟨a,V⟩:=am (xs:=m.ax) (k:=x.act.toNat) (by omega);have al:=fF V;rw[kT V]at u y;by_cases J:a.op=L.a
        ·
         refine aq ?_;exact⟨q+1,by rw[D];rfl,rfl,⟨by omega,y ⟨Z,i1,.inl J⟩,by omega⟩,by omega⟩
        ·
         by_cases U:a.op=L.b
         ·
          refine aq ?_
          first
           |exact⟨q+1,by rw[D];rfl,rfl,⟨by omega,y ⟨Z,i1,.inr U⟩,by omega⟩,by omega⟩
           |(exfalso;omega)
         ·
          rw[u (fun h=>by rcases h.2.2 with h|h <;>contradiction)];exact ah
       ·
        rw[u (fun h=>z ⟨h.1,h.2.1⟩)]
        repeat'(first
|(refine a8 ?_)
|((with_reducible apply aa.aX)<;>intro I)
|(refine aw ?_)
|((with_reducible apply aa.av);(case hW=>exact rfl);(case hx=>exact ae))
|((with_reducible apply aa.u0);(case hx=>exact ae))
|fail)
        all_goals first
         |exact⟨.inr rfl,rfl⟩
         |(exfalso;apply z;constructor <;>omega)
      ·
       rw[cL g3];exact ah
    ·
     by_cases bd:L.pa= -1
     ·
      by_cases ag:L.a=L.b
      ·
       have q4:=q3 ag;exfalso;omega
      ·
       refine aq ?_;refine az.ind (fun q:Nat=>[(6,.t (.int .i64 (aS Mem.act L.mem q))),(7,.t (.int .i64 (q:Int)))]) (fun q=>q<=L.mem.length/\aK G 0 (L.mem.drop 0)=aK G q (L.mem.drop q) /\ -1<=aS Mem.act L.mem q) (fun q=>L.mem.length - q) 0 rfl ⟨by omega,rfl,Int.le_refl _⟩ (fun q I=>?_);obtain⟨g1,g2,g4⟩:=I;rw[g2];rcases Nat.lt_or_ge q L.mem.length with g3|g3
       ·
        obtain⟨x,hx⟩:=am g3;have hc:=i_ hx;have u:=dl (p:=G) hx;have y:=dm (p:=G) hx;have D:aS Mem.act L.mem (q+1)=x.act:=by simp only[aS,hx]
        rw[ad]at u y;obtain⟨v,hv⟩:∃v,aS Mem.act L.mem q=v:=⟨_,rfl⟩;rw[hv]at u y g4⊢;by_cases z:v <x.act/\x.act <m.ax.length
        ·
         obtain⟨Z,i1⟩:=z;obtain⟨a,V⟩:=am (xs:=m.ax) (k:=x.act.toNat) (by omega);have al:=fF V;rw[kT V]at u y;by_cases J:a.op=L.a
         ·
          refine aq ?_;exact⟨q+1,by rw[D];rfl,rfl,⟨by omega,y ⟨Z,i1,.inl J⟩,by omega⟩,by omega⟩
         ·
          by_cases U:a.op=L.b
          ·
           refine aq ?_
           first
            |exact⟨q+1,by rw[D];rfl,rfl,⟨by omega,y ⟨Z,i1,.inr U⟩,by omega⟩,by omega⟩
            |(exfalso;omega)
          ·
           rw[u (fun h=>by rcases h.2.2 with h|h <;>contradiction)];exact ah
        ·
         rw[u (fun h=>z ⟨h.1,h.2.1⟩)]
         repeat'(first
|(refine a8 ?_)
|((with_reducible apply aa.aX)<;>intro I)
|(refine aw ?_)
|((with_reducible apply aa.av);(case hW=>exact rfl);(case hx=>exact ae))
|((with_reducible apply aa.u0);(case hx=>exact ae))
|fail)
         all_goals first
          |exact⟨.inr rfl,rfl⟩
          |(exfalso;apply z;constructor <;>omega)
       ·
        rw[cL g3];exact ah
     ·
      by_cases ag:L.a=L.b
      ·
       have q4:=q3 ag;refine aq ?_;refine az.ind (fun q:Nat=>[(6,.t (.int .i64 (aS Mem.act L.mem q))),(7,.t (.int .i64 (q:Int)))]) (fun q=>q<=L.mem.length/\aK G 0 (L.mem.drop 0)=aK G q (L.mem.drop q) /\ -1<=aS Mem.act L.mem q) (fun q=>L.mem.length - q) 0 rfl ⟨by omega,rfl,Int.le_refl _⟩ (fun q I=>?_);obtain⟨g1,g2,g4⟩:=I;rw[g2];rcases Nat.lt_or_ge q L.mem.length with g3|g3
       ·
        obtain⟨x,hx⟩:=am g3;have hc:=i_ hx;have u:=dl (p:=G) hx;have y:=dm (p:=G) hx;have D:aS Mem.act L.mem (q+1)=x.act:=by simp only[aS,hx]
        rw[ad]at u y;obtain⟨v,hv⟩:∃v,aS Mem.act L.mem q=v:=⟨_,rfl⟩;rw[hv]at u y g4⊢;by_cases z:v <x.act/\x.act <m.ax.length
        ·
         obtain⟨Z,i1⟩:=z;obtain⟨a,V⟩:=am (xs:=m.ax) (k:=x.act.toNat) (by omega);have al:=fF V;rw[kT V]at u y;by_cases J:a.op=L.a
         ·
          refine aq ?_;exact⟨q+1,by rw[D];rfl,rfl,⟨by omega,y ⟨Z,i1,.inl J⟩,by omega⟩,by omega⟩
         ·
          by_cases U:a.op=L.b
          ·
           repeat'(first
|((with_reducible apply aa.aF);(case hp=>exact ak))
|(refine aw ?_)
|((with_reducible apply aa.u0);(case hx=>exact ae))
|fail)
           first
            |exact⟨q+1,by rw[D];rfl,rfl,⟨by omega,y ⟨Z,i1,.inr U⟩,by omega⟩,by omega⟩
            |(exfalso;omega)
          ·
           rw[u (fun h=>by rcases h.2.2 with h|h <;>contradiction)];exact ah
        ·
         rw[u (fun h=>z ⟨h.1,h.2.1⟩)]
         repeat'(first
|(refine a8 ?_)
|((with_reducible apply aa.aX)<;>intro I)
|(refine aw ?_)
|((with_reducible apply aa.av);(case hW=>exact rfl);(case hx=>exact ae))
|((with_reducible apply aa.u0);(case hx=>exact ae))
|fail)
         all_goals first
          |exact⟨.inr rfl,rfl⟩
          |(exfalso;apply z;constructor <;>omega)
       ·
        rw[cL g3];exact ah
      ·
       refine aq ?_;refine az.ind (fun q:Nat=>[(6,.t (.int .i64 (aS Mem.act L.mem q))),(7,.t (.int .i64 (q:Int)))]) (fun q=>q<=L.mem.length/\aK G 0 (L.mem.drop 0)=aK G q (L.mem.drop q) /\ -1<=aS Mem.act L.mem q) (fun q=>L.mem.length - q) 0 rfl ⟨by omega,rfl,Int.le_refl _⟩ (fun q I=>?_);obtain⟨g1,g2,g4⟩:=I;rw[g2];rcases Nat.lt_or_ge q L.mem.length with g3|g3
       ·
        obtain⟨x,hx⟩:=am g3;have hc:=i_ hx;have u:=dl (p:=G) hx;have y:=dm (p:=G) hx;have D:aS Mem.act L.mem (q+1)=x.act:=by simp only[aS,hx]
        rw[ad]at u y;obtain⟨v,hv⟩:∃v,aS Mem.act L.mem q=v:=⟨_,rfl⟩;rw[hv]at u y g4⊢;by_cases z:v <x.act/\x.act <m.ax.length
        ·
         obtain⟨Z,i1⟩:=z;obtain⟨a,V⟩:=am (xs:=m.ax) (k:=x.act.toNat) (by omega);have al:=fF V;rw[kT V]at u y;by_cases J:a.op=L.a
         ·
          refine aq ?_;exact⟨q+1,by rw[D];rfl,rfl,⟨by omega,y ⟨Z,i1,.inl J⟩,by omega⟩,by omega⟩
         ·
          by_cases U:a.op=L.b
          ·
           refine aq ?_
           first
            |exact⟨q+1,by rw[D];rfl,rfl,⟨by omega,y ⟨Z,i1,.inr U⟩,by omega⟩,by omega⟩
            |(exfalso;omega)
          ·
           rw[u (fun h=>by rcases h.2.2 with h|h <;>contradiction)];exact ah
        ·
         rw[u (fun h=>z ⟨h.1,h.2.1⟩)]
         repeat'(first
|(refine a8 ?_)
|((with_reducible apply aa.aX)<;>intro I)
|(refine aw ?_)
|((with_reducible apply aa.av);(case hW=>exact rfl);(case hx=>exact ae))
|((with_reducible apply aa.u0);(case hx=>exact ae))
|fail)
         all_goals first
          |exact⟨.inr rfl,rfl⟩
          |(exfalso;apply z;constructor <;>omega)
       ·
        rw[cL g3];exact ah
   ·
    have aN:jL m L=false:=by rw[<- Bool.not_eq_true,ab];exact I
    rw[aN,Bool.false_and]
    repeat'(first
|(refine a8 ?_)
|((with_reducible apply aa.aX)<;>intro I)
|((with_reducible apply aa.gA)<;>intro I)
|((with_reducible apply aa.fz)<;>intro I)
|(refine aw ?_)
|((with_reducible apply aa.av);(case hW=>exact rfl);(case hx=>first
|(exact ai k2)
|exact ae))
|((with_reducible apply aa.u0);(case hx=>first
|(exact ai k1)
|exact ae))
|fail)
    all_goals first
     |exact⟨.inr rfl,rfl⟩
     |(exfalso;apply hp;constructor <;>omega)
     |(exfalso;apply I;refine⟨by omega,by omega,fun _=>by omega⟩)
 ·
  have aB:(decide (0<=L.a)&&(decide (L.a<=L.b)&&decide (L.b <(m.ops.length:Int))))=false:=by
   rw[<- Bool.not_eq_true,Bool.and_eq_true,Bool.and_eq_true,decide_eq_true_eq,decide_eq_true_eq,decide_eq_true_eq];exact fun h'=>h ⟨⟨h'.1,h'.2.1⟩,h'.2.2⟩
  rw[aB,Bool.false_and]
  repeat'(first
|((with_reducible apply aa.cj);(case hp=>exact ak))
|((with_reducible apply aa.aX)<;>intro I)
|((with_reducible apply aa.bi)<;>intro I)
|(refine aw ?_)
|((with_reducible apply aa.av);(case hW=>exact rfl);(case hx=>exact ae))
|((with_reducible apply aa.u0);(case hx=>exact ae))
|fail)
  all_goals first
   |exact⟨.inr rfl,rfl⟩
   |(exfalso;apply h;refine⟨⟨?_,?_⟩,?_⟩<;>omega)
end Go.Proofs.YtcgdbhlnkificaaGreatDoor
