/- Models and plans that are small,as contracts. No condition. -/
import Derived.Test.YtjolgbkkocjpgaaGreatDoorRPA
import Derived.Test.YtjolgbkkocjpgaaGreatDoorLPC
set_option linter.all false
namespace Go.Proofs.YtjolgbkkocjpgaaGreatDoor
open Go.RowKit
set_option maxRecDepth 100000
set_option maxHeartbeats 32000000
def Cg(m:Md):Prop:=m.ai.length<=8/\m.tables.length<=6/\m.bx.length<=20/\m.cons.length<=60/\m.ops.length<=8/\m.au.length<=30/\m.aG.length<=12
instance (m:Md):Decidable (Cg m):=by unfold Cg;infer_instance
def HT{m:Md}(h:b7 m=true){a:dU}{i:Nat}(ha:m.au[i]?=some a):0<=a.op/\a.op <m.ops.length:=by
 have h1:=uY h ha;unfold dA at h1;simp only[Bool.and_eq_true,decide_eq_true_eq]at h1;exact h1.1.1.1
def NJ{m:Md}{o:Int}{x:gq}(h0:0<=o)(h1:o <m.ops.length)(hx:m.ops[o.toNat]?=some x):fg m o=x.ord:=by
 unfold fg;rw[wL hx,decide_eq_true h0,decide_eq_true h1];rfl
def Sa{α:Type}{l:List α}{k:Nat}{a:α}(h:l[k]?=some a):l.zipIdx[k]?=some (a,k):=by
 rw[List.getElem?_zipIdx,h];simp
def ut{m:Md}{p:Pln}(h:PW m p):Cl ah 42 [.t (bk m),.t (aN p)] [] (.t (.bool (cX m p))) []:=by
 rw[<- NY];have kv:=FP h.md h.ef h.op;have b5:=kE p.ao;have cc:=nK p.aD;have ch:=kU p.places;have cf:=aO p.bh;have b4:=nx m.cons;have b3:=fN m.au;have cg:=mU m.ops;have cp:=h.md.cons;have cl:=h.md.au;have ct:=h.md.ops;have bx:=h.pl.ao;have bT:=h.pl.aD;have b0:=h.pl.places;have bU:=h.pl.bh;have kl:=fun(L:Lck) (hL:L∈p.aD)=>O2 (L:=L) h.md (by have:=h.pl.mem L hL;omega);have kp:=fun k=>F8 (p:=p) (k:=k) (by omega);obtain⟨pE,aG⟩:∃f:Nat->bI->Bool,(fun(i:Nat) (x:bI)=>decide (aU bI.bz p.ao i <x.bz)&&(decide (x.bz <m.cons.length)&&decide ((m.cons.getD x.bz.toNat lg).kind=0)))=f:=⟨_,rfl⟩
 have be:∀q x,pE q x=true↔aU bI.bz p.ao q <x.bz/\x.bz <m.cons.length/\(m.cons.getD x.bz.toNat lg).kind=0:=fun q x=>by
  rw[<- aG];simp only[Bool.and_eq_true,decide_eq_true_eq]
 obtain⟨pK,ad⟩:∃f:Nat->Lck->Bool,(fun(i:Nat) (L:Lck)=>dq m L&&(decide (i=0)||match p.aD[i - 1]? with|some y=>oP y L|none=>false))=f:=⟨_,rfl⟩;have bf:∀L,pK 0 L=dq m L:=fun L=>by rw[<- ad];simp
 have bi:∀q L y,p.aD[q]?=some y->pK (q+1) L=(dq m L&&oP y L):=fun q L y hy=>by
  rw[<- ad];dsimp only;rw[Nat.add_sub_cancel,hy];rfl
 obtain⟨pM,aJ⟩:∃f:Nat->Mem->Bool,(fun(i:Nat) (x:Mem)=>decide (aU Mem.act p.places i <x.act)&&(decide (x.act <m.au.length)&&fg m (bg m x.act)))=f:=⟨_,rfl⟩
 have bl:∀q x,pM q x=true↔aU Mem.act p.places q <x.act/\x.act <m.au.length/\fg m (bg m x.act)=true:=fun q x=>by
  rw[<- aJ];simp only[Bool.and_eq_true,decide_eq_true_eq]
 obtain⟨pN,aR⟩:∃f:Nat->Int->Bool,(fun(i:Nat) (o:Int)=>decide (aU id p.bh i <o)&&((decide (o <m.ops.length)&&(eG m o).ord)&&qt m p o))=f:=⟨_,rfl⟩
 have bm:∀q o,pN q o=true↔aU id p.bh q <o/\(o <m.ops.length/\(eG m o).ord=true)/\qt m p o=true:=fun q o=>by
  rw[<- aR];simp only[Bool.and_eq_true,decide_eq_true_eq]
 have e0:Au m p=((b7 m&&decide (p.aD.length<=64))&&(aL pE 0 (p.ao.drop 0)&&(aL pK 0 (p.aD.drop 0)&&(aL pM 0 (p.places.drop 0)&&aL pN 0 (p.bh.drop 0))))):=by
  rw[<- aG,<- ad,<- aJ,<- aR];rfl
 rw[e0];unfold aN at kp⊢;rw[aS]at kv kl⊢;rw[bt]at kp⊢
 cases Z:b7 m with
 |false=>
  rw[Z]at kv;rw[Bool.false_and,Bool.false_and];refine Cl.aq rfl Tryz.func42 rfl rfl rfl ?_;exact ae
 |true=>
  rw[Z]at kv;refine Cl.aq rfl Tryz.func42 rfl rfl rfl ?_;by_cases ag:p.aD.length<=64
  ·
   rw[decide_eq_true ag,Bool.true_and,Bool.true_and];refine ak ?_;refine ax.ind (fun q:Nat=>[(5,.t (.int .i64 (aU bI.bz p.ao q))),(6,.t (.int .i64 (q:Int)))]) (fun q=>q<=p.ao.length/\aL pE 0 (p.ao.drop 0)=aL pE q (p.ao.drop q) /\ -1<=aU bI.bz p.ao q) (fun q=>p.ao.length - q) 0 rfl ⟨by omega,rfl,Int.le_refl _⟩ (fun q J=>?_);obtain⟨h1,h2,h4⟩:=J;rw[h2];rcases Nat.lt_or_ge q p.ao.length with h3|h3
   ·
    obtain⟨x,hx⟩:=aj h3;have hc:=oD hx;have u:=dB (p:=pE) hx;have z:=dC (p:=pE) hx;have I:aU bI.bz p.ao (q+1)=x.bz:=by simp only[aU,hx]
    rw[be]at u z;obtain⟨v,hv⟩:∃v,aU bI.bz p.ao q=v:=⟨_,rfl⟩;rw[hv]at u z h4⊢;by_cases D:v <x.bz/\x.bz <m.cons.length
    ·
     obtain⟨i0,i1⟩:=D;obtain⟨c,al⟩:=aj (xs:=m.cons) (k:=x.bz.toNat) (by omega);have b1:=mB al;rw[List.getD_eq_getElem?_getD,al,Option.getD_some]at u z;by_cases hk:c.kind=0
     ·
      refine ak ?_;exact⟨q+1,by rw[I];rfl,rfl,⟨by omega,z ⟨i0,i1,hk⟩,by omega⟩,by omega⟩
     ·
      rw[u (fun h=>hk h.2.2)];exact ae
    ·
     rw[u (fun h=>D ⟨h.1,h.2.1⟩)]
     repeat'(first
|(refine aY ?_)
|((with_reducible apply aa.aX)<;>intro J)
|(refine ar ?_)
|((with_reducible apply aa.aB);(case hW=>exact rfl);(case hx=>exact af))
|((with_reducible apply aa.u0);(case hx=>exact af))
|fail)
     all_goals first
      |exact⟨.inr rfl,rfl⟩
      |(exfalso;apply D;constructor <;>omega)
   ·
    rw[cU h3,Bool.true_and];refine ak ?_;refine ax.ind (fun q:Nat=>[(8,.t (.int .i64 (q:Int)))]) (fun q=>q<=p.aD.length/\aL pK 0 (p.aD.drop 0)=aL pK q (p.aD.drop q)) (fun q=>p.aD.length - q) 0 rfl ⟨by omega,rfl⟩ (fun q J=>?_);obtain⟨g1,g2⟩:=J;rw[g2];rcases Nat.lt_or_ge q p.aD.length with g3|g3
    ·
     obtain⟨L,hL⟩:=aj g3;have hc:=mL hL;have kL:=kl L (List.mem_of_getElem? hL);rw[mK]at kL;have u:=dB (p:=pK) hL;have z:=dC (p:=pK) hL;obtain⟨b,hb⟩:∃b,dq m L=b:=⟨_,rfl⟩;rw[hb]at kL
     cases q with
     |zero=>
      rw[bf,hb]at u z
      cases b with
      |false=>
       rw[u (by decide)];exact ae
      |true=>
       refine ak ?_;exact⟨0+1,rfl,rfl,⟨by omega,z rfl⟩,by omega⟩
     |succ k=>
      obtain⟨y,hy⟩:=aj (xs:=p.aD) (k:=k) (by omega);have a1:=mL hy;have bw:(dO p.aD)[((k+1:Nat) - 1:Int).toNat]?=some [.int .i64 y.a,.int .i64 y.b,.int .i64 y.pa,.int .i64 y.pb,.arr (cw y.mem)]:=by rw[show((k+1:Nat) - 1:Int).toNat=k by omega];exact a1
      rw[bi k L y hy,hb]at u z
      cases b with
      |false=>
       rw[u (by simp)];exact ae
      |true=>
       rw[Bool.true_and]at u z
       have a6:oP y L=true↔y.a <L.a\/(y.a=L.a/\y.b <L.b):=by
        unfold oP;simp only[Bool.or_eq_true,Bool.and_eq_true,decide_eq_true_eq]
       rw[a6]at u z;by_cases hl:y.a <L.a\/(y.a=L.a/\y.b <L.b)
       ·
        rcases hl with hl|⟨av,V⟩
        ·
         refine ak ?_;exact⟨k+1+1,rfl,rfl,⟨by omega,z (.inl hl)⟩,by omega⟩
        ·
         refine ak ?_;exact⟨k+1+1,rfl,rfl,⟨by omega,z (.inr ⟨av,V⟩)⟩,by omega⟩
       ·
        rw[u hl];by_cases av:L.a <y.a
        ·
         exact ae
        ·
         have V:y.a=L.a:=by omega
         have b2:¬y.b <L.b:=fun h=>hl (.inr ⟨V,h⟩);exact ae
    ·
     rw[cU g3,Bool.true_and];refine ak ?_;refine ax.ind (fun q:Nat=>[(5,.t (.int .i64 (aU Mem.act p.places q))),(9,.t (.int .i64 (q:Int)))]) (fun q=>q<=p.places.length/\aL pM 0 (p.places.drop 0)=aL pM q (p.places.drop q) /\ -1<=aU Mem.act p.places q) (fun q=>p.places.length - q) 0 rfl ⟨by omega,rfl,Int.le_refl _⟩ (fun q J=>?_);obtain⟨i1,i2,i4⟩:=J;rw[i2];rcases Nat.lt_or_ge q p.places.length with i3|i3
     ·
      obtain⟨x,hx⟩:=aj i3;have hc:=iQ hx;have u:=dB (p:=pM) hx;have z:=dC (p:=pM) hx;have I:aU Mem.act p.places (q+1)=x.act:=by simp only[aU,hx]
      rw[bl]at u z;obtain⟨v,hv⟩:∃v,aU Mem.act p.places q=v:=⟨_,rfl⟩;rw[hv]at u z i4⊢;by_cases D:v <x.act/\x.act <m.au.length
      ·
       obtain⟨j0,j1⟩:=D;obtain⟨a,ha⟩:=aj (xs:=m.au) (k:=x.act.toNat) (by omega);have aV:=ei ha;obtain⟨o0,o1⟩:=HT Z ha;obtain⟨o,ho⟩:=aj (xs:=m.ops) (k:=a.op.toNat) (by omega);have U:=nO ho;rw[jm ha,NJ o0 o1 ho]at u z;obtain⟨ob,ab⟩:∃b,o.ord=b:=⟨_,rfl⟩;rw[ab]at U u z
       cases ob with
       |true=>
        refine ak ?_;exact⟨q+1,by rw[I];rfl,rfl,⟨by omega,z ⟨j0,j1,rfl⟩,by omega⟩,by omega⟩
       |false=>
        rw[u (fun h=>by cases h.2.2)];exact ae
      ·
       rw[u (fun h=>D ⟨h.1,h.2.1⟩)]
       repeat'(first
|(refine aY ?_)
|((with_reducible apply aa.aX)<;>intro J)
|(refine ar ?_)
|((with_reducible apply aa.aB);(case hW=>exact rfl);(case hx=>exact af))
|((with_reducible apply aa.u0);(case hx=>exact af))
|fail)
       all_goals first
        |exact⟨.inr rfl,rfl⟩
        |(exfalso;apply D;constructor <;>omega)
     ·
      rw[cU i3,Bool.true_and];refine ak ?_;refine ax.ind (fun q:Nat=>[(5,.t (.int .i64 (aU id p.bh q))),(11,.t (.int .i64 (q:Int)))]) (fun q=>q<=p.bh.length/\aL pN 0 (p.bh.drop 0)=aL pN q (p.bh.drop q) /\ -1<=aU id p.bh q) (fun q=>p.bh.length - q) 0 rfl ⟨by omega,rfl,Int.le_refl _⟩ (fun q J=>?_);obtain⟨j1,j2,j4⟩:=J;rw[j2];rcases Nat.lt_or_ge q p.bh.length with j3|j3
      ·
       obtain⟨o,hx⟩:=aj j3;have hc:=aW hx;have u:=dB (p:=pN) hx;have z:=dC (p:=pN) hx;have I:aU id p.bh (q+1)=o:=by simp only[aU,hx,id]
       rw[bm]at u z;obtain⟨v,hv⟩:∃v,aU id p.bh q=v:=⟨_,rfl⟩;rw[hv]at u z j4⊢;by_cases D:v <o/\o <m.ops.length
       ·
        obtain⟨k0,k1⟩:=D;obtain⟨x,ho⟩:=aj (xs:=m.ops) (k:=o.toNat) (by omega);have U:=nO ho;rw[wL ho]at u z;obtain⟨ob,ab⟩:∃b,x.ord=b:=⟨_,rfl⟩;rw[ab]at U u z
        cases ob with
        |false=>
         rw[u (fun h=>by cases h.2.1.2)];exact ae
        |true=>
         obtain⟨f,hf⟩:∃f:dU×Nat->Bool,(fun a=>decide (a.1.op=o)&&eH p (a.2:Int))=f:=⟨_,rfl⟩;have a8:qt m p o=!((m.au.zipIdx.drop 0).any f):=by rw[<- hf];rfl
         have cA:m.au.zipIdx.length=m.au.length:=List.length_zipIdx;rw[a8,Bool.not_eq_true']at u z;refine ak ?_;refine ax.ind (fun k:Nat=>[(13,.t (.int .i64 (k:Int)))]) (fun k=>k<=m.au.length/\(m.au.zipIdx.drop 0).any f=(m.au.zipIdx.drop k).any f) (fun k=>m.au.length - k) 0 rfl ⟨by omega,rfl⟩ (fun k hk=>?_);obtain⟨l1,l2⟩:=hk;rcases Nat.lt_or_ge k m.au.length with l3|l3
         ·
          obtain⟨a,ha⟩:=aj l3;have aV:=ei ha;have bd:=kp (k:Int);have G:=oe f (Sa ha);have an:f (a,k)=(decide (a.op=o)&&eH p (k:Int)):=by rw[<- hf]
          obtain⟨pb,bb⟩:∃b,eH p (k:Int)=b:=⟨_,rfl⟩;rw[bb]at bd an;rw[an]at G;by_cases ai:a.op=o
          ·
           rw[decide_eq_true ai,Bool.true_and]at G
           cases pb with
           |true=>
            rw[Bool.true_or]at G;rw[u (fun h=>by rw[l2,G]at h;cases h.2.2)];exact ae
           |false=>
            rw[Bool.false_or]at G;refine ak ?_;exact⟨k+1,rfl,rfl,⟨by omega,by rw[l2,G]⟩,by omega⟩
          ·
           rw[decide_eq_false ai,Bool.false_and,Bool.false_or]at G;refine ak ?_;exact⟨k+1,rfl,rfl,⟨by omega,by rw[l2,G]⟩,by omega⟩
         ·
          rw[od f (show m.au.zipIdx.length<=k by omega)]at l2;refine ak ?_;exact⟨q+1,by rw[I];rfl,rfl,⟨by omega,z ⟨k0,⟨k1,rfl⟩,l2⟩,by omega⟩,by omega⟩
       ·
        rw[u (fun h=>D ⟨h.1,h.2.1.1⟩)]
        repeat'(first
|(refine aY ?_)
|((with_reducible apply aa.aX)<;>intro J)
|(refine ar ?_)
|((with_reducible apply aa.aB);(case hW=>exact rfl);(case hx=>exact af))
|((with_reducible apply aa.u0);(case hx=>exact af))
|fail)
        all_goals first
         |exact⟨.inr rfl,rfl⟩
         |(exfalso;apply D;constructor <;>omega)
      ·
       rw[cU j3];exact ae
  ·
   rw[decide_eq_false ag];exact ae
end Go.Proofs.YtjolgbkkocjpgaaGreatDoor
