/- Law 39: RightsApplies: the law's function answers true. No condition. -/
import Derived.Test.YtjolgbkkocjpgaaGreatDoorTRX
import Derived.Test.YtjolgbkkocjpgaaGreatDoorTRZ
set_option linter.all false
namespace Go.Proofs.YtjolgbkkocjpgaaGreatDoor
open Go.RowKit
set_option maxRecDepth 100000
set_option maxHeartbeats 32000000
def Ka{A B:List bE}(Z:A.length<=140737488351232)(hB:B.length<=140737488351232):Cl ah 24 [.t (.arr (ba A)),.t (.arr (ba B))] [] (.t (.bool (decide (A=B)))) []:=by
 refine Cl.aq rfl Tryz.func24 rfl rfl rfl ?_;have J:=EG A;have U:=EG B;by_cases I:A.length=B.length
 ·
  refine ak ?_;refine ax.ind (fun q:Nat=>[(13,.t (.int .i64 (q:Int)))]) (fun q=>q<=A.length/\decide (A=B)=decide (A.drop q=B.drop q)) (fun q=>A.length - q) 0 rfl ⟨by omega,rfl⟩ (fun q V=>?_);obtain⟨h1,h2⟩:=V;rw[h2];rcases Nat.lt_or_ge q A.length with h3|h3
  ·
   obtain⟨x,hx⟩:=aj h3;obtain⟨y,hy⟩:=aj (xs:=B) (k:=q) (by omega);have hc:=kX hx;have hd:=kX hy;by_cases z:x=y
   ·
    have u:decide (A.drop q=B.drop q)=decide (A.drop (q+1)=B.drop (q+1)):=by rw[bK hx,bK hy,z];simp
    have v:gy ah.P 20 55 [.int .i64 x.k,.int .i64 x.i,.int .i64 x.el,.int .i64 x.n] [.int .i64 y.k,.int .i64 y.i,.int .i64 y.el,.int .i64 y.n]=some true:=by rw[Ab,z];simp
    repeat'(first
|((with_reducible apply aa.aR);(case hp=>exact aA))
|(refine ar ?_)
|((with_reducible apply aa.u0);(case hx=>first
|((with_reducible apply ac.qv);(case hx|hy=>exact rfl);(case hg=>exact wB);(case ht=>exact rfl);(case hr=>exact v))
|exact af))
|fail)
    exact⟨q+1,rfl,rfl,⟨by omega,u⟩,by omega⟩
   ·
    have u:decide (A.drop q=B.drop q)=false:=by rw[bK hx,bK hy];simp[z]
    have v:gy ah.P 20 55 [.int .i64 x.k,.int .i64 x.i,.int .i64 x.el,.int .i64 x.n] [.int .i64 y.k,.int .i64 y.i,.int .i64 y.el,.int .i64 y.n]=some false:=by
     rw[Ab];obtain⟨x1,x2,x3,x4⟩:=x;obtain⟨y1,y2,y3,y4⟩:=y;simp at z⊢;intro h4 D G;exact z h4 D G
    rw[u]
    repeat'(first
|((with_reducible apply aa.aR);(case hp=>exact aA))
|(refine ar ?_)
|((with_reducible apply aa.u0);(case hx=>first
|((with_reducible apply ac.qv);(case hx|hy=>exact rfl);(case hg=>exact wB);(case ht=>exact rfl);(case hr=>exact v))
|exact af))
|fail)
    exact⟨.inr rfl,rfl⟩
  ·
   have u:decide (A.drop q=B.drop q)=true:=by rw[ez h3,ez (l:=B) (by omega)];rfl
   rw[u];exact ae
 ·
  have u:decide (A=B)=false:=by simp;intro h;exact I (by rw[h])
  rw[u];exact ae
def PN(A:List bE)(u:A.length<=140737488351232):Cl ah 24 [.t (.arr (ba A)),.t (.arr (ba A))] [] (.t (.bool true)) []:=by
 have h:=Ka (A:=A) (B:=A) u u;rwa[show decide (A=A)=true by simp]at h
def KE{m:Md}{E:List Ev}(h:iJ m E=true):mj m:=by
 intro a u;unfold iJ at h;simp only[Bool.and_eq_true,decide_eq_true_eq,List.all_eq_true]at h;have h1:=h.2.2.1 a u;unfold jc at h1;simp only[Bool.and_eq_true,decide_eq_true_eq]at h1;omega
def G2(r:Nat)(sg:Int)(A:List bE):(bn r sg A).length<=A.length:=by
 unfold bn;rw[List.length_map];exact List.length_filter_le _ _
def M1{m:Md}{p:Pln}{l:List (List Int)}{r a:Int}(h1:p.ao.length<=1000)(h2:p.aD.length<=17592186044416):(lM m p l r a).1.length<=140737488351232:=by
 have u:∀e:Ev,(du m p e).length<=2*p.ao.length+p.aD.length+2:=fun e=>by
  unfold du;split
  ·rw[List.length_append];have v:=G2 e.r.toNat (-1) (bO m p e.a e.past.length);have a2:=G2 e.r.toNat 1 (aT m e.a (-1) 0 p.ao);have a3:=rR m p e.a e.past.length;have a4:=ou m e.a (-1) 0 p.ao;omega
  ·split
   ·simp only[List.length_cons,List.length_nil];omega
   ·exact Nat.zero_le _
 unfold lM;split
 ·split
  ·refine Nat.le_trans (t_ l _) ?_;have:=u (n_ (eM l).toNat r a);omega
  ·exact Nat.zero_le _
 ·exact Nat.zero_le _
def Ib{m:Md}{p:Pln}{l:List (List Int)}{e:Ev}{a b:Nat}(hl:l.length<=a)(hx:∀x∈l,x.length<=b):(gv m p l e).1.length<=a/\∀x∈(gv m p l e).1,x.length<=b:=by
 by_cases h:(gv m p l e).2=0
 ·rw[Ie h];exact D_ (ud m p [e] l) hl hx
 ·rw[Ic h];exact⟨Nat.zero_le _,fun x h=>by cases h⟩
def Mb{m:Md}{p:Pln}{l:List (List Int)}{E:List Ev}{e:Ev}{r a:Int}(hm:bo m)(hp:ml p)(hl:l.length<=17592186044416)(hx:∀x∈l,x.length<=17592186044416)(hE:E.length*120<=140737488351232)(he:∀e∈E,e.past.length<=17592186044416)(aJ:e.past.length<=17592186044416):
  Cl ah 5 [.t (bk m),.t (aN p),.t (.arr (aF l)),.t (.arr (cC E)),.t (bN e),.t (.int .i64 r),.t (.int .i64 a)] [] (.t (.bool true)) []:=by
 have an:=hm.eff;have k0:=Oq;have kc:=J2 (l:=E) hE;have av:cC (E++[e])=cC E++[b8 e]:=by unfold cC;rw[List.map_append];rfl
 have y:=KA (p:=p) hm an hp (l:=l) (E:=E++[e]) (by omega) (fun x h=>by have:=hx x h;omega) (by rw[List.length_append];simp only[List.length_cons,List.length_nil];omega) (fun x h=>by
  rcases List.mem_append.1 h with h|h
  ·have:=he x h;omega
  ·rw[List.mem_singleton]at h;subst h;omega)
 have aG:=oE E;have G:eP 13 [b8 e]=true:=EM [e]
 have D:b6 ((cC E).length+[b8 e].length) 120=true:=by
  rw[aG];simp[b6];omega
 rw[av]at y;unfold bN
 cases z:rk m p l (E++[e])with
 |false=>
  rw[z]at y;unfold aN at y⊢;rw[aS]at y⊢;rw[bt]at y⊢;unfold b8 at y G D⊢;refine Cl.aq rfl Tryz.func5 rfl rfl rfl ?_
  repeat'(first
|(refine ar ?_)
|((with_reducible apply am.CV (effs:=[4,7]) (m:=7));(case hm|he|hk=>exact rfl);(case ht=>(simp only[List.take_succ_cons,List.take_zero];exact rfl));(case hd=>(simp only[List.drop_succ_cons,List.drop_zero];exact rfl));(case hg=>exact rfl))
|((with_reducible apply az.DQ);(case hx=>((with_reducible apply ac.da);(case hs=>exact fun _=>rfl);(case ha|ht=>exact rfl);(case hr=>first|(with_reducible exact c7)|(with_reducible exact rw1)|(with_reducible exact c8)|(with_reducible exact rw3)|(with_reducible exact rw4)|exact rfl);(case hx|hy|hn|hb=>exact rfl);(case hok=>exact G);(case hlen=>exact D);(case hv=>exact rfl);(case hk=>exact de);(case hf=>exact leq)));(case hk=>kernel_rfl))
|((with_reducible apply az.u);(case hfl=>kernel_rfl);(case hx=>first
|(exact lS kc)
|(exact ap y)
|exact af))
|((with_reducible apply aa.u0);(case hx=>first
|(exact ap k0)
|exact af))
|fail)
  exact⟨.inr rfl,rfl⟩
 |true=>
  rw[z]at y;obtain⟨hW,hS⟩:=KB hm an hp z;obtain⟨V,hf,I,Z⟩:=Dc z;have hX:=KE V;have ai:(E++[e]).length<=60:=(zo V).1.2.2.2.2.2;rw[List.length_append]at ai;have al:∀x∈E++[e],x.past.length<=8:=(zo V).2.2.2.1;have v:∀x∈l,x.length<=1000000:=fun x h=>by have:=Z x h;omega
  have au:e.past.length<=1000000:=by have:=al e (by simp);omega
  have ao:∀x∈E,x.past.length<=1000000:=fun x h=>by have:=al x (by simp[h]);omega
  have J:=Fz (l:=l) (e:=e) hW (by omega) (by omega) v au;have U:=H_ (l:=l) (e:=e) hW hX (by omega) (by omega) v au;have k3:=OS (l:=l) (E:=E) hW (by omega) (by omega) v (by omega) ao;have k4:=Nu (l:=l) (E:=E) hW hX (by omega) (by omega) v (by omega) ao;have k5:=FN (l:=l) (r:=r) (a:=a) hW (by omega) (by omega) v;have k6:=O4 (l:=l) (r:=r) (a:=a) hW hX (by omega) (by omega) v;have hA:=Ib (m:=m) (p:=p) (e:=e) I Z;have hO:=Nw (m:=m) (p:=p) (E:=E) I Z;have hM:=M1 (m:=m) (p:=p) (l:=l) (r:=r) (a:=a) (by omega) hp.aD;have ab:=wq (A:=(gv m p l e).1) (by omega) (fun x h=>by have:=hA.2 x h;omega);have ad:=wq (A:=(lP m p l E).1) (by omega) (fun x h=>by have:=hO.2 x h;omega);have ag:=PN (lM m p l r a).1 hM;clear hA hO hM;generalize gv m p l e=S1 at J U ab;generalize lP m p l E=S2 at k3 k4 ad;generalize lM m p l r a=S3 at k5 k6 ag;obtain⟨A1,c1⟩:=S1;obtain⟨A2,c2⟩:=S2;obtain⟨A3,c3⟩:=S3;dsimp only at J U k3 k4 k5 k6 ab ad ag;unfold bN at J U;unfold aN at y J U k3 k4 k5 k6⊢;rw[aS]at y J U k3 k4 k5 k6⊢;rw[bt]at y J U k3 k4 k5 k6⊢;unfold b8 at y G D J U⊢;refine Cl.aq rfl Tryz.func5 rfl rfl rfl ?_
  repeat'(first
|((with_reducible apply aa.ee);(case hp=>exact aA))
|(refine ar ?_)
|((with_reducible apply am.CV (effs:=[4,7]) (m:=7));(case hm|he|hk=>exact rfl);(case ht=>(simp only[List.take_succ_cons,List.take_zero];exact rfl));(case hd=>(simp only[List.drop_succ_cons,List.drop_zero];exact rfl));(case hg=>exact rfl))
|((with_reducible apply az.DQ);(case hx=>((with_reducible apply ac.da);(case hs=>exact fun _=>rfl);(case ha|ht=>exact rfl);(case hr=>first|(with_reducible exact c7)|(with_reducible exact rw1)|(with_reducible exact c8)|(with_reducible exact rw3)|(with_reducible exact rw4)|exact rfl);(case hx|hy|hn|hb=>exact rfl);(case hok=>exact G);(case hlen=>exact D);(case hv=>exact rfl);(case hk=>exact de);(case hf=>exact leq)));(case hk=>kernel_rfl))
|((with_reducible apply az.u);(case hfl=>kernel_rfl);(case hx=>first
|(exact lS kc)
|(exact ap y)
|exact af))
|((with_reducible apply aa.aB);(case hW=>exact rfl);(case hx=>first
|(exact ap ad)
|(exact ap ag)
|exact af))
|((with_reducible apply aa.u0);(case hx=>first
|(exact ap k0)
|(exact gR J)
|(exact gR U)
|(exact gR k3)
|(exact gR k4)
|(exact gR k5)
|(exact gR k6)
|(exact ap ab)
|exact af))
|fail)
  exact⟨.inr rfl,rfl⟩
end Go.Proofs.YtjolgbkkocjpgaaGreatDoor
