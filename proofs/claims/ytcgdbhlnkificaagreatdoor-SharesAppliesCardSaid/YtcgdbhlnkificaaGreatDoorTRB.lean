/- Models and plans that are small,as contracts. No condition. -/
import Derived.Test.YtcgdbhlnkificaaGreatDoorRPA
import Derived.Test.YtcgdbhlnkificaaGreatDoorLPC
set_option linter.all false
namespace Go.Proofs.YtcgdbhlnkificaaGreatDoor
open Go.RowKit
set_option maxRecDepth 100000
set_option maxHeartbeats 32000000
def Bv(m:Md):Prop:=m.ao.length<=8/\m.tables.length<=6/\m.bH.length<=20/\m.cons.length<=60/\m.ops.length<=8/\m.ax.length<=30/\m.aG.length<=12
instance (m:Md):Decidable (Bv m):=by unfold Bv;infer_instance
def G7{m:Md}(h:b6 m=true){a:eF}{i:Nat}(ha:m.ax[i]?=some a):0<=a.op/\a.op <m.ops.length:=by
 have h1:=uu h ha;unfold dk at h1;simp only[Bool.and_eq_true,decide_eq_true_eq]at h1;exact h1.1.1.1
def Mo{m:Md}{o:Int}{x:fX}(h0:0<=o)(h1:o <m.ops.length)(hx:m.ops[o.toNat]?=some x):eP m o=x.ord:=by
 unfold eP;rw[ry hx,decide_eq_true h0,decide_eq_true h1];rfl
def QH{α:Type}{l:List α}{k:Nat}{a:α}(h:l[k]?=some a):l.zipIdx[k]?=some (a,k):=by
 rw[List.getElem?_zipIdx,h];simp
def zZ{m:Md}{p:Pln}(h:PW m p):Cl aj 39 [.t (bN m),.t (a_ p)] [] (.t (.bool (cy m p))) []:=by
 rw[<- MF];have kv:=ES h.md h.ef h.op;have b2:=sF p.aM;have b3:=kP p.aA;have b7:=lG p.places;have b4:=aW p.bj;have b1:=qE m.cons;have bZ:=jl m.ax;have b5:=mB m.ops;have cf:=h.md.cons;have cc:=h.md.ax;have ch:=h.md.ops;have bl:=h.pl.aM;have bm:=h.pl.aA;have bt:=h.pl.places;have bo:=h.pl.bj;have kl:=fun(L:Lck) (hL:L∈p.aA)=>NC (L:=L) h.md (by have:=h.pl.mem L hL;omega);have kp:=fun k=>NS (p:=p) (k:=k) (by omega);obtain⟨pE,aB⟩:∃f:Nat->bM->Bool,(fun(i:Nat) (x:bM)=>decide (aS bM.bu p.aM i <x.bu)&&(decide (x.bu <m.cons.length)&&decide ((m.cons.getD x.bu.toNat k7).kind=0)))=f:=⟨_,rfl⟩
 have bb:∀q x,pE q x=true↔aS bM.bu p.aM q <x.bu/\x.bu <m.cons.length/\(m.cons.getD x.bu.toNat k7).kind=0:=fun q x=>by
  rw[<- aB];simp only[Bool.and_eq_true,decide_eq_true_eq]
 obtain⟨pK,ad⟩:∃f:Nat->Lck->Bool,(fun(i:Nat) (L:Lck)=>dh m L&&(decide (i=0)||match p.aA[i - 1]? with|some y=>oB y L|none=>false))=f:=⟨_,rfl⟩;have bd:∀L,pK 0 L=dh m L:=fun L=>by rw[<- ad];simp
 have be:∀q L y,p.aA[q]?=some y->pK (q+1) L=(dh m L&&oB y L):=fun q L y hy=>by
  rw[<- ad];dsimp only;rw[Nat.add_sub_cancel,hy];rfl
 obtain⟨pM,aF⟩:∃f:Nat->Mem->Bool,(fun(i:Nat) (x:Mem)=>decide (aS Mem.act p.places i <x.act)&&(decide (x.act <m.ax.length)&&eP m (bh m x.act)))=f:=⟨_,rfl⟩
 have bf:∀q x,pM q x=true↔aS Mem.act p.places q <x.act/\x.act <m.ax.length/\eP m (bh m x.act)=true:=fun q x=>by
  rw[<- aF];simp only[Bool.and_eq_true,decide_eq_true_eq]
 obtain⟨pN,aG⟩:∃f:Nat->Int->Bool,(fun(i:Nat) (o:Int)=>decide (aS id p.bj i <o)&&((decide (o <m.ops.length)&&(dZ m o).ord)&&pU m p o))=f:=⟨_,rfl⟩
 have bi:∀q o,pN q o=true↔aS id p.bj q <o/\(o <m.ops.length/\(dZ m o).ord=true)/\pU m p o=true:=fun q o=>by
  rw[<- aG];simp only[Bool.and_eq_true,decide_eq_true_eq]
 have e0:zy m p=((b6 m&&decide (p.aA.length<=64))&&(aK pE 0 (p.aM.drop 0)&&(aK pK 0 (p.aA.drop 0)&&(aK pM 0 (p.places.drop 0)&&aK pN 0 (p.bj.drop 0))))):=by
  rw[<- aB,<- ad,<- aF,<- aG];rfl
 rw[e0];unfold a_ at kp⊢;rw[aZ]at kv kl⊢;rw[bK]at kp⊢
 cases Z:b6 m with
 |false=>
  rw[Z]at kv;rw[Bool.false_and,Bool.false_and];refine Cl.ap rfl Tryz.func39 rfl rfl rfl ?_;exact ah
 |true=>
  rw[Z]at kv;refine Cl.ap rfl Tryz.func39 rfl rfl rfl ?_;by_cases ag:p.aA.length<=64
  ·
   rw[decide_eq_true ag,Bool.true_and,Bool.true_and];refine aq ?_;refine az.ind (fun q:Nat=>[(5,.t (.int .i64 (aS bM.bu p.aM q))),(6,.t (.int .i64 (q:Int)))]) (fun q=>q<=p.aM.length/\aK pE 0 (p.aM.drop 0)=aK pE q (p.aM.drop q) /\ -1<=aS bM.bu p.aM q) (fun q=>p.aM.length - q) 0 rfl ⟨by omega,rfl,Int.le_refl _⟩ (fun q J=>?_);obtain⟨h1,h2,h4⟩:=J;rw[h2];rcases Nat.lt_or_ge q p.aM.length with h3|h3
   ·
    obtain⟨x,hx⟩:=am h3;have hc:=sE hx;have u:=dl (p:=pE) hx;have z:=dm (p:=pE) hx;have I:aS bM.bu p.aM (q+1)=x.bu:=by simp only[aS,hx]
    rw[bb]at u z;obtain⟨v,hv⟩:∃v,aS bM.bu p.aM q=v:=⟨_,rfl⟩;rw[hv]at u z h4⊢;by_cases D:v <x.bu/\x.bu <m.cons.length
    ·
     obtain⟨i0,i1⟩:=D;obtain⟨c,an⟩:=am (xs:=m.cons) (k:=x.bu.toNat) (by omega);have bH:=ph an;rw[List.getD_eq_getElem?_getD,an,Option.getD_some]at u z;by_cases hk:c.kind=0
     ·
      refine aq ?_;exact⟨q+1,by rw[I];rfl,rfl,⟨by omega,z ⟨i0,i1,hk⟩,by omega⟩,by omega⟩
     ·
      rw[u (fun h=>hk h.2.2)];exact ah
    ·
     rw[u (fun h=>D ⟨h.1,h.2.1⟩)]
     repeat'(first
|(refine a8 ?_)
|((with_reducible apply aa.aX)<;>intro J)
|(refine aw ?_)
|((with_reducible apply aa.av);(case hW=>exact rfl);(case hx=>exact ae))
|((with_reducible apply aa.u0);(case hx=>exact ae))
|fail)
     all_goals first
      |exact⟨.inr rfl,rfl⟩
      |(exfalso;apply D;constructor <;>omega)
   ·
    rw[cL h3,Bool.true_and];refine aq ?_;refine az.ind (fun q:Nat=>[(8,.t (.int .i64 (q:Int)))]) (fun q=>q<=p.aA.length/\aK pK 0 (p.aA.drop 0)=aK pK q (p.aA.drop q)) (fun q=>p.aA.length - q) 0 rfl ⟨by omega,rfl⟩ (fun q J=>?_);obtain⟨g1,g2⟩:=J;rw[g2];rcases Nat.lt_or_ge q p.aA.length with g3|g3
    ·
     obtain⟨L,hL⟩:=am g3;have hc:=nw hL;have kL:=kl L (List.mem_of_getElem? hL);rw[mw]at kL;have u:=dl (p:=pK) hL;have z:=dm (p:=pK) hL;obtain⟨b,hb⟩:∃b,dh m L=b:=⟨_,rfl⟩;rw[hb]at kL
     cases q with
     |zero=>
      rw[bd,hb]at u z
      cases b with
      |false=>
       rw[u (by decide)];exact ah
      |true=>
       refine aq ?_;exact⟨0+1,rfl,rfl,⟨by omega,z rfl⟩,by omega⟩
     |succ k=>
      obtain⟨y,hy⟩:=am (xs:=p.aA) (k:=k) (by omega);have aR:=nw hy;have bk:(fM p.aA)[((k+1:Nat) - 1:Int).toNat]?=some [.int .i64 y.a,.int .i64 y.b,.int .i64 y.pa,.int .i64 y.pb,.arr (cM y.mem)]:=by rw[show((k+1:Nat) - 1:Int).toNat=k by omega];exact aR
      rw[be k L y hy,hb]at u z
      cases b with
      |false=>
       rw[u (by simp)];exact ah
      |true=>
       rw[Bool.true_and]at u z
       have aT:oB y L=true↔y.a <L.a\/(y.a=L.a/\y.b <L.b):=by
        unfold oB;simp only[Bool.or_eq_true,Bool.and_eq_true,decide_eq_true_eq]
       rw[aT]at u z;by_cases hl:y.a <L.a\/(y.a=L.a/\y.b <L.b)
       ·
        rcases hl with hl|⟨au,V⟩
        ·
         refine aq ?_;exact⟨k+1+1,rfl,rfl,⟨by omega,z (.inl hl)⟩,by omega⟩
        ·
         refine aq ?_;exact⟨k+1+1,rfl,rfl,⟨by omega,z (.inr ⟨au,V⟩)⟩,by omega⟩
       ·
        rw[u hl];by_cases au:L.a <y.a
        ·
         exact ah
        ·
         have V:y.a=L.a:=by omega
         have bS:¬y.b <L.b:=fun h=>hl (.inr ⟨V,h⟩);exact ah
    ·
     rw[cL g3,Bool.true_and];refine aq ?_;refine az.ind (fun q:Nat=>[(5,.t (.int .i64 (aS Mem.act p.places q))),(9,.t (.int .i64 (q:Int)))]) (fun q=>q<=p.places.length/\aK pM 0 (p.places.drop 0)=aK pM q (p.places.drop q) /\ -1<=aS Mem.act p.places q) (fun q=>p.places.length - q) 0 rfl ⟨by omega,rfl,Int.le_refl _⟩ (fun q J=>?_);obtain⟨i1,i2,i4⟩:=J;rw[i2];rcases Nat.lt_or_ge q p.places.length with i3|i3
     ·
      obtain⟨x,hx⟩:=am i3;have hc:=i_ hx;have u:=dl (p:=pM) hx;have z:=dm (p:=pM) hx;have I:aS Mem.act p.places (q+1)=x.act:=by simp only[aS,hx]
      rw[bf]at u z;obtain⟨v,hv⟩:∃v,aS Mem.act p.places q=v:=⟨_,rfl⟩;rw[hv]at u z i4⊢;by_cases D:v <x.act/\x.act <m.ax.length
      ·
       obtain⟨j0,j1⟩:=D;obtain⟨a,ha⟩:=am (xs:=m.ax) (k:=x.act.toNat) (by omega);have aN:=fF ha;obtain⟨o0,o1⟩:=G7 Z ha;obtain⟨o,ho⟩:=am (xs:=m.ops) (k:=a.op.toNat) (by omega);have U:=nz ho;rw[kT ha,Mo o0 o1 ho]at u z;obtain⟨ob,ab⟩:∃b,o.ord=b:=⟨_,rfl⟩;rw[ab]at U u z
       cases ob with
       |true=>
        refine aq ?_;exact⟨q+1,by rw[I];rfl,rfl,⟨by omega,z ⟨j0,j1,rfl⟩,by omega⟩,by omega⟩
       |false=>
        rw[u (fun h=>by cases h.2.2)];exact ah
      ·
       rw[u (fun h=>D ⟨h.1,h.2.1⟩)]
       repeat'(first
|(refine a8 ?_)
|((with_reducible apply aa.aX)<;>intro J)
|(refine aw ?_)
|((with_reducible apply aa.av);(case hW=>exact rfl);(case hx=>exact ae))
|((with_reducible apply aa.u0);(case hx=>exact ae))
|fail)
       all_goals first
        |exact⟨.inr rfl,rfl⟩
        |(exfalso;apply D;constructor <;>omega)
     ·
      rw[cL i3,Bool.true_and];refine aq ?_;refine az.ind (fun q:Nat=>[(5,.t (.int .i64 (aS id p.bj q))),(11,.t (.int .i64 (q:Int)))]) (fun q=>q<=p.bj.length/\aK pN 0 (p.bj.drop 0)=aK pN q (p.bj.drop q) /\ -1<=aS id p.bj q) (fun q=>p.bj.length - q) 0 rfl ⟨by omega,rfl,Int.le_refl _⟩ (fun q J=>?_);obtain⟨j1,j2,j4⟩:=J;rw[j2];rcases Nat.lt_or_ge q p.bj.length with j3|j3
      ·
       obtain⟨o,hx⟩:=am j3;have hc:=bg hx;have u:=dl (p:=pN) hx;have z:=dm (p:=pN) hx;have I:aS id p.bj (q+1)=o:=by simp only[aS,hx,id]
       rw[bi]at u z;obtain⟨v,hv⟩:∃v,aS id p.bj q=v:=⟨_,rfl⟩;rw[hv]at u z j4⊢;by_cases D:v <o/\o <m.ops.length
       ·
        obtain⟨k0,k1⟩:=D;obtain⟨x,ho⟩:=am (xs:=m.ops) (k:=o.toNat) (by omega);have U:=nz ho;rw[ry ho]at u z;obtain⟨ob,ab⟩:∃b,x.ord=b:=⟨_,rfl⟩;rw[ab]at U u z
        cases ob with
        |false=>
         rw[u (fun h=>by cases h.2.1.2)];exact ah
        |true=>
         obtain⟨f,hf⟩:∃f:eF×Nat->Bool,(fun a=>decide (a.1.op=o)&&h_ p (a.2:Int))=f:=⟨_,rfl⟩;have aY:pU m p o=!((m.ax.zipIdx.drop 0).any f):=by rw[<- hf];rfl
         have cj:m.ax.zipIdx.length=m.ax.length:=List.length_zipIdx;rw[aY,Bool.not_eq_true']at u z;refine aq ?_;refine az.ind (fun k:Nat=>[(13,.t (.int .i64 (k:Int)))]) (fun k=>k<=m.ax.length/\(m.ax.zipIdx.drop 0).any f=(m.ax.zipIdx.drop k).any f) (fun k=>m.ax.length - k) 0 rfl ⟨by omega,rfl⟩ (fun k hk=>?_);obtain⟨l1,l2⟩:=hk;rcases Nat.lt_or_ge k m.ax.length with l3|l3
         ·
          obtain⟨a,ha⟩:=am l3;have aN:=fF ha;have a6:=kp (k:Int);have G:=o_ f (QH ha);have ao:f (a,k)=(decide (a.op=o)&&h_ p (k:Int)):=by rw[<- hf]
          obtain⟨pb,a1⟩:∃b,h_ p (k:Int)=b:=⟨_,rfl⟩;rw[a1]at a6 ao;rw[ao]at G;by_cases al:a.op=o
          ·
           rw[decide_eq_true al,Bool.true_and]at G
           cases pb with
           |true=>
            rw[Bool.true_or]at G;rw[u (fun h=>by rw[l2,G]at h;cases h.2.2)];exact ah
           |false=>
            rw[Bool.false_or]at G;refine aq ?_;exact⟨k+1,rfl,rfl,⟨by omega,by rw[l2,G]⟩,by omega⟩
          ·
           rw[decide_eq_false al,Bool.false_and,Bool.false_or]at G;refine aq ?_;exact⟨k+1,rfl,rfl,⟨by omega,by rw[l2,G]⟩,by omega⟩
         ·
          rw[o9 f (show m.ax.zipIdx.length<=k by omega)]at l2;refine aq ?_;exact⟨q+1,by rw[I];rfl,rfl,⟨by omega,z ⟨k0,⟨k1,rfl⟩,l2⟩,by omega⟩,by omega⟩
       ·
        rw[u (fun h=>D ⟨h.1,h.2.1.1⟩)]
        repeat'(first
|(refine a8 ?_)
|((with_reducible apply aa.aX)<;>intro J)
|(refine aw ?_)
|((with_reducible apply aa.av);(case hW=>exact rfl);(case hx=>exact ae))
|((with_reducible apply aa.u0);(case hx=>exact ae))
|fail)
        all_goals first
         |exact⟨.inr rfl,rfl⟩
         |(exfalso;apply D;constructor <;>omega)
      ·
       rw[cL j3];exact ah
  ·
   rw[decide_eq_false ag];exact ah
end Go.Proofs.YtcgdbhlnkificaaGreatDoor
