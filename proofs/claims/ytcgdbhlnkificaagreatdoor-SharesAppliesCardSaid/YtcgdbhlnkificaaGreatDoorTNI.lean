/- The reference's guard of small models and events,as a. No condition. -/
import Derived.Test.YtcgdbhlnkificaaGreatDoorTNF
import Derived.Test.YtcgdbhlnkificaaGreatDoorTKA
import Derived.Test.YtcgdbhlnkificaaGreatDoorTM
set_option linter.all false
namespace Go.Proofs.YtcgdbhlnkificaaGreatDoor
open Go.RowKit
set_option maxRecDepth 100000
set_option maxHeartbeats 32000000
def qC(n:Int)(c:bP):Bool:=decide (0<=c.cell)&&decide (c.cell <n)
def oW(n:Int)(u:cw):Bool:=decide (0<=u.cell)&&decide (u.cell <n)
def j8(s g:Int)(a:eF):Bool:=((decide (a.eff.delta.length<=20)&&decide (a.eff.hold.length<=8))&&decide (a.eff.b7.length<=20))&&(a.eff.delta.all (qC s)&&a.eff.b7.all (oW g))
def mE(e:Ev):Bool:=decide (e.past.length<=8)
def tj(m:Md)(l:List Ev):Prop:=m.ao.length<=4/\m.tables.length<=12/\m.cons.length<=80/\m.ops.length<=8/\m.ax.length<=30/\l.length<=60
instance (m:Md) (l:List Ev):Decidable (tj m l):=by unfold tj;infer_instance
def jz(m:Md)(l:List Ev):Bool:=decide (tj m l)&&(b6 m&&(m.ax.all (j8 (bF m.ao true m.tables) (lI m.ao m.tables).length)&&(l.all mE&&(decide (bF m.ao true m.tables<=40)&&decide ((lI m.ao m.tables).length<=20)))))
structure Small (m:Md):Prop where
 len:bx m
 ok:b6 m=true
 gb:∀a∈m.ax,j8 (bF m.ao true m.tables) (lI m.ao m.tables).length a=true
def CC{m:Md}{l:List Ev}(h:jz m l=true):tj m l/\b6 m=true/\(∀a∈m.ax,j8 (bF m.ao true m.tables) (lI m.ao m.tables).length a=true)/\(∀e∈l,e.past.length<=8)/\bF m.ao true m.tables<=40/\(lI m.ao m.tables).length<=20:=by
 unfold jz at h;simp only[Bool.and_eq_true,decide_eq_true_eq,List.all_eq_true]at h;obtain⟨h1,h2,h3,h4,u,v⟩:=h;exact⟨h1,h2,h3,fun e y=>by simpa[mE]using h4 e y,u,v⟩
theorem za{m:Md}(h:b6 m=true):bJ m.ao m.tables=true:=by
 unfold b6 at h;simp only[Bool.and_eq_true]at h;exact h.1.1.1
def Jj{m:Md}{l:List Ev}(hm:bx m)(ag:∀a∈m.ax,jj a.eff)(hl:l.length<=140737488351232)(hp:∀e∈l,e.past.length<=140737488351232):Cl aj 36 [.t (bN m),.t (.arr (b8 l))] [] (.t (.bool (jz m l))) []:=by
 have bo:=aW m.ao;have bl:=fT m.tables;have bb:=qE m.cons;have bm:=mB m.ops;have aY:=jl m.ax;have be:=pn l;by_cases I:tj m l
 ·
  have ab:=I;obtain⟨a1,a2,a3,a4,a5,a6⟩:=ab;have kv:=ES hm ag (by omega)
  cases hv:b6 m with
  |false=>
   have D:jz m l=false:=by unfold jz;rw[hv,decide_eq_true I];rfl
   rw[hv]at kv;rw[aZ]at kv⊢;rw[D];refine Cl.ap rfl Tryz.func36 rfl rfl rfl ?_;exact ah
  |true=>
   have v:=za hv;have aN:=tf v;have k1:=N0 hm v;have k2:=ND hm v;have ad:=Dj v;have al:=DQ m.ao m.tables;have aM:=mj (S:=m.ao) true m.tables;obtain⟨s,hs⟩:∃s,bF m.ao true m.tables=s:=⟨_,rfl⟩;obtain⟨G,hG⟩:∃G,lI m.ao m.tables=G:=⟨_,rfl⟩;have bf:=fT G;obtain⟨Y1,J⟩:∃Y,l.all mE=Y:=⟨_,rfl⟩;obtain⟨Y2,U⟩:∃Y,(decide (s<=40)&&decide (G.length<=20))=Y:=⟨_,rfl⟩;have D:jz m l=((m.ax.drop 0).all (j8 s G.length)&&(Y1&&Y2)):=by unfold jz;rw[hv,decide_eq_true I,hs,hG,J,U];rfl
   rw[hv]at kv;rw[hs]at k1 ad aM;rw[hG]at k2 al;rw[aZ]at kv k1 k2⊢;rw[D];refine Cl.ap rfl Tryz.func36 rfl rfl rfl ?_;refine aq ?_;refine az.ind (fun q:Nat=>[(5,.t (.int .i64 (q:Int)))]) (fun q=>q<=m.ao.length) (fun q=>m.ao.length - q) 0 rfl (by omega) (fun q y=>?_);rcases Nat.lt_or_ge q m.ao.length with h3|h3
   ·
    obtain⟨n,hn⟩:=am h3;have V:=bg hn;obtain⟨n1,n2⟩:=Aq aN hn;exact ah
   ·
    refine aq ?_;refine az.ind (fun q:Nat=>[(6,.t (.int .i64 (q:Int)))]) (fun q=>q<=m.tables.length) (fun q=>m.tables.length - q) 0 rfl (by omega) (fun q y=>?_);rcases Nat.lt_or_ge q m.tables.length with g3|g3
    ·
     obtain⟨t,ht⟩:=am g3;have V:=fB ht;have bH:=aW t.au;obtain⟨c1,c2,c3⟩:=lD v ht;obtain⟨r1,r2,r3⟩:=Dk v ht
     have aG:0<=t.kind/\t.kind<=5:=by
      have h1:=rf v ht;simp only[io,Bool.and_eq_true,decide_eq_true_eq]at h1;exact h1.2.2.1
     obtain⟨k3,k4⟩:=aG;exact ah
    ·
     refine aq ?_;refine az.ind (fun q:Nat=>[(9,.t (.int .i64 (q:Int)))]) (fun q=>q<=m.ax.length/\(m.ax.drop 0).all (j8 s G.length)=(m.ax.drop q).all (j8 s G.length)) (fun q=>m.ax.length - q) 0 rfl ⟨by omega,rfl⟩ (fun q y=>?_);obtain⟨p1,p2⟩:=y;rw[p2];rcases Nat.lt_or_ge q m.ax.length with p3|p3
     ·
      obtain⟨a,ha⟩:=am p3;have aR:=fF ha;have bd:=uG a.eff.delta;have bj:=wi a.eff.hold;have bt:=AL a.eff.b7;have aA:=iT (j8 s G.length) ha;rw[aA];obtain⟨Z,hZ⟩:∃Z,(m.ax.drop (q+1)).all (j8 s G.length)=Z:=⟨_,rfl⟩;rw[hZ];by_cases z:a.eff.delta.length<=20/\a.eff.hold.length<=8/\a.eff.b7.length<=20
      ·
       obtain⟨l1,l2,l3⟩:=z;obtain⟨X,hX⟩:∃X,a.eff.b7.all (oW G.length)=X:=⟨_,rfl⟩;have e1:j8 s G.length a=((a.eff.delta.drop 0).all (qC s)&&X):=by unfold j8;rw[hX,decide_eq_true l1,decide_eq_true l2,decide_eq_true l3];rfl
       rw[e1];refine aq ?_;refine az.ind (fun k:Nat=>[(11,.t (.int .i64 (k:Int)))]) (fun k=>k<=a.eff.delta.length/\(a.eff.delta.drop 0).all (qC s)=(a.eff.delta.drop k).all (qC s)) (fun k=>a.eff.delta.length - k) 0 rfl ⟨by omega,rfl⟩ (fun k hk=>?_);obtain⟨g1,g2⟩:=hk;rw[g2];rcases Nat.lt_or_ge k a.eff.delta.length with g4|g4
       ·
        obtain⟨c,V⟩:=am g4;have aT:=su V;have an:=iT (qC s) V;rw[an];unfold qC
        repeat'(first
|((with_reducible apply aa.aF);(case hp=>exact ak))
|((with_reducible apply aa.aX)<;>intro y)
|((with_reducible apply aa.bi)<;>intro y)
|(refine aw ?_)
|((with_reducible apply aa.av);(case hW=>exact rfl);(case hx=>exact ae))
|((with_reducible apply aa.u0);(case hx=>exact ae))
|fail)
        all_goals first
         |exact⟨k+1,rfl,rfl,⟨by omega,by rw[decide_eq_true (show 0<=c.cell by omega),decide_eq_true (show c.cell <s by omega)];rfl⟩,by omega⟩
         |exact ba (.inr rfl) rfl (by rw[decide_eq_false (show¬0<=c.cell by omega)];rfl)
         |exact ba (.inr rfl) rfl (by rw[decide_eq_false (show¬c.cell <s by omega),Bool.and_false];rfl)
       ·
        rw[gT _ g4,Bool.true_and,<- hX];have e2:a.eff.b7.all (oW G.length)=(a.eff.b7.drop 0).all (oW G.length):=rfl;rw[e2];refine aq ?_;refine az.ind (fun k:Nat=>[(12,.t (.int .i64 (k:Int)))]) (fun k=>k<=a.eff.b7.length/\(a.eff.b7.drop 0).all (oW G.length)=(a.eff.b7.drop k).all (oW G.length)) (fun k=>a.eff.b7.length - k) 0 rfl ⟨by omega,rfl⟩ (fun k hk=>?_);obtain⟨g1,g2⟩:=hk;rw[g2];rcases Nat.lt_or_ge k a.eff.b7.length with g5|g5
        ·
         obtain⟨u,hu⟩:=am g5;have bS:=tZ hu;have aB:=iT (oW G.length) hu;rw[aB];unfold oW
         repeat'(first
|((with_reducible apply aa.aF);(case hp=>exact ak))
|((with_reducible apply aa.aX)<;>intro y)
|((with_reducible apply aa.bi)<;>intro y)
|(refine aw ?_)
|((with_reducible apply aa.av);(case hW=>exact rfl);(case hx=>exact ae))
|((with_reducible apply aa.u0);(case hx=>exact ae))
|fail)
         all_goals first
          |exact⟨k+1,rfl,rfl,⟨by omega,by rw[decide_eq_true (show 0<=u.cell by omega),decide_eq_true (show u.cell <G.length by omega)];rfl⟩,by omega⟩
          |exact ba (.inr rfl) rfl (by rw[decide_eq_false (show¬0<=u.cell by omega)];rfl)
          |exact ba (.inr rfl) rfl (by rw[decide_eq_false (show¬u.cell <G.length by omega),Bool.and_false];rfl)
        ·
         rw[gT _ g5,Bool.true_and];refine aq ?_;exact⟨q+1,rfl,rfl,⟨by omega,hZ.symm⟩,by omega⟩
      ·
       have e1:j8 s G.length a=false:=by
        rw[<- Bool.not_eq_true];unfold j8;simp only[Bool.and_eq_true,decide_eq_true_eq];exact fun h=>z ⟨h.1.1.1,h.1.1.2,h.1.2⟩
       rw[e1]
       repeat'(first
|(refine a8 ?_)
|((with_reducible apply aa.aX)<;>intro y)
|((with_reducible apply aa.bi)<;>intro y)
|(refine aw ?_)
|((with_reducible apply aa.av);(case hW=>exact rfl);(case hx=>exact ae))
|((with_reducible apply aa.u0);(case hx=>exact ae))
|fail)
       all_goals first
        |exact⟨.inr rfl,rfl⟩
        |(exfalso;omega)
     ·
      rw[gT _ p3,Bool.true_and,<- J];have e2:l.all mE=(l.drop 0).all mE:=rfl;rw[e2];refine aq ?_;refine az.ind (fun q:Nat=>[(13,.t (.int .i64 (q:Int)))]) (fun q=>q<=l.length/\(l.drop 0).all mE=(l.drop q).all mE) (fun q=>l.length - q) 0 rfl ⟨by omega,rfl⟩ (fun q y=>?_);obtain⟨h1,h2⟩:=y;rw[h2];rcases Nat.lt_or_ge q l.length with h4|h4
      ·
       obtain⟨e,he⟩:=am h4;have V:=uZ he;have bu:=aW e.past;have ha:=iT mE he;rw[ha];by_cases h8:e.past.length<=8
       ·
        rw[show mE e=true from decide_eq_true h8];exact ah
       ·
        rw[show mE e=false from decide_eq_false h8];exact ah
      ·
       rw[gT _ h4,Bool.true_and,<- U]
       repeat'(first
|((with_reducible apply aa.bk);(case hp=>exact ak))
|((with_reducible apply aa.aX)<;>intro y)
|((with_reducible apply aa.bi)<;>intro y)
|(refine aw ?_)
|((with_reducible apply aa.av);(case hW=>exact rfl);(case hx=>exact ae))
|((with_reducible apply aa.u0);(case hx=>exact ae))
|fail)
       all_goals(refine ba (.inr rfl) rfl ?_;simp;omega)
 ·
  have D:jz m l=false:=by unfold jz;rw[decide_eq_false I];rfl
  have h1:¬(m.ao.length<=4/\m.tables.length<=12/\m.cons.length<=80/\m.ops.length<=8/\m.ax.length<=30/\l.length<=60):=I;rw[aZ,D];refine Cl.ap rfl Tryz.func36 rfl rfl rfl ?_
  repeat'(first
|((with_reducible apply aa.cj);(case hp=>exact ak))
|((with_reducible apply aa.aX)<;>intro y)
|((with_reducible apply aa.bi)<;>intro y)
|(refine aw ?_)
|((with_reducible apply aa.av);(case hW=>exact rfl);(case hx=>exact ae))
|((with_reducible apply aa.u0);(case hx=>exact ae))
|fail)
  all_goals first
   |exact⟨.inr rfl,rfl⟩
   |(exfalso;omega)
def qj(m:Md)(n:Int)(e:Ev):Bool:=ew e&&(decide ((e.past.length:Int)=n)&&(!decide (e.k=0)||decide (e.a <m.ax.length)))
def Je{m:Md}(hm:bx m)(n:Int)(e:Ev)(he:e.past.length<=140737488351232):Cl aj 92 [.t (bN m),.t (.int .i64 n),.t (c6 e)] [] (.t (.bool (qj m n e))) []:=by
 have D:=Jw e he;have y:=jl m.ax;have z:=aW e.past;rw[aZ];refine Cl.ap rfl Tryz.func92 rfl rfl rfl ?_;obtain⟨b,u⟩:∃b,ew e=b:=⟨_,rfl⟩;have v:qj m n e=(b&&(decide ((e.past.length:Int)=n)&&(!decide (e.k=0)||decide (e.a <m.ax.length)))):=by unfold qj;rw[u]
 rw[u]at D;rw[v]
 cases b with
 |false=>
  exact ah
 |true=>
  exact ah
def RW{m:Md}(hm:bx m)(n:Int)(e:Ev)(he:e.past.length<=140737488351232):Cl aj 49 [.t (bN m),.t (.int .i64 n),.t (c6 e)] [] (.t (.bool (qj m n e))) []:=by
 have D:=Sr e he;have y:=jl m.ax;have z:=aW e.past;rw[aZ];refine Cl.ap rfl Tryz.func49 rfl rfl rfl ?_;obtain⟨b,u⟩:∃b,ew e=b:=⟨_,rfl⟩;have v:qj m n e=(b&&(decide ((e.past.length:Int)=n)&&(!decide (e.k=0)||decide (e.a <m.ax.length)))):=by unfold qj;rw[u]
 rw[u]at D;rw[v]
 cases b with
 |false=>
  exact ah
 |true=>
  exact ah
section
variable {g:Cfg} {d:Option (List Nat)} {env:Env} {fr:Fr} {i:Nat}
end
end Go.Proofs.YtcgdbhlnkificaaGreatDoor
