/- Law 39: states,the initial rights,as contracts. No condition. -/
import Derived.Test.YtjolgbkkocjpgaaGreatDoorTRE
import Derived.Test.YtjolgbkkocjpgaaGreatDoorTOB
import Derived.Test.YtjolgbkkocjpgaaGreatDoorTLQ
import Derived.Test.YtjolgbkkocjpgaaGreatDoorTPJ
import Derived.Test.YtjolgbkkocjpgaaGreatDoorTRG
set_option linter.all false
namespace Go.Proofs.YtjolgbkkocjpgaaGreatDoor
open Go.RowKit
set_option maxRecDepth 100000
set_option maxHeartbeats 32000000
def QQ(n:Int):Cl ah 70 [.t (.int .i64 n)] [] (.t (.bool (!ji n))) []:=by
 refine Cl.aq rfl Tryz.func70 rfl rfl rfl ?_;unfold ji;exact ae
def uz(m:Md)(c:List Int):Bool:=decide ((c.length:Int)=bp m.ai true m.tables)&&c.all ji
def QN{m:Md}{c:List Int}(z:Small m)(hcl:c.length<=1000):Cl ah 29 [.t (bk m),.t (ay c)] [] (.t (.bool (uz m c))) []:=by
 have y:=Jt (C:=c) (p:=fun n=>!ji n) (by omega) (fun n _=>QQ n);rw[yp]at y;unfold uz;obtain⟨b,G⟩:∃b,c.all ji=b:=⟨_,rfl⟩;rw[G]at y⊢;by_cases u:(c.length:Int)=bp m.ai true m.tables
 ·
  rw[decide_eq_true u,Bool.true_and];have ks:=Kf (l:=[]) z (by simp) (fun e h=>by cases h) hcl u rfl;obtain⟨T,D⟩:∃T,pc m c []=T:=⟨_,rfl⟩;rw[D]at ks;have v:(.arr (cC []):AV)=.arr []:=rfl;rw[v]at ks;rw[aS]at ks⊢;refine Cl.aq rfl Tryz.func29 rfl rfl rfl ?_
  repeat'(first
|((with_reducible apply aa.aR);(case hp=>exact aA))
|(refine ar ?_)
|((with_reducible apply aa.aB);(case hW=>exact rfl);(case hx=>first
|(exact ap y)
|exact af))
|((with_reducible apply aa.u0);(case hx=>first
|(exact gR ks)
|exact af))
|fail)
  all_goals(refine a_ (.inr rfl) rfl ?_;cases b <;>simp_all)
 ·
  rw[decide_eq_false u,Bool.false_and];have ks:=Kg (l:=[]) (c:=c) z (by simp) (fun e h=>by cases h) (by omega) (fun h=>u h.1);have v:(.arr (cC []):AV)=.arr []:=rfl;rw[v]at ks;rw[aS]at ks⊢;refine Cl.aq rfl Tryz.func29 rfl rfl rfl ?_;exact ae
def gU(R:Nat)(s:Int):List Int:=(List.range R).map fun(k:Nat)=>s.tdiv R+if(k:Int)<s.tmod R then 1 else 0
def eS(R:Nat)(s:Int)(k:Nat):List Int:=(gU R s).take k++List.replicate (R - k) 0
def wY(R:Nat)(s:Int):(gU R s).length=R:=by unfold gU;simp
def Pg{R k:Nat}(s:Int)(h:k <R):(gU R s)[k]?=some (s.tdiv R+if(k:Int)<s.tmod R then 1 else 0):=by
 unfold gU;rw[List.getElem?_map,List.getElem?_range h];rfl
def Pk{R k:Nat}(s:Int)(h:k<=R):(eS R s k).length=R:=by
 unfold eS;rw[List.length_append,List.length_take,wY,List.length_replicate];omega
def Ph{R k:Nat}(s:Int)(h:k <R):(eS R s k)[k]?=some 0:=by
 unfold eS;have u:((gU R s).take k).length=k:=by rw[List.length_take,wY];omega
 rw[List.getElem?_append_right (by omega),u,Nat.sub_self,List.getElem?_replicate,if_pos (by omega)]
def FZ{R k:Nat}(s:Int)(h:k <R):(eS R s k).set k (s.tdiv R+if(k:Int)<s.tmod R then 1 else 0)=eS R s (k+1):=by
 unfold eS;have u:((gU R s).take k).length=k:=by rw[List.length_take,wY];omega
 rw[List.set_append_right _ _ (by omega),u,Nat.sub_self,List.take_add_one,Pg s h];obtain⟨d,hd⟩:∃d,R - k=d+1:=⟨R - k - 1,by omega⟩;rw[hd,show R - (k+1)=d by omega,List.replicate_succ,List.set_cons_zero,List.append_assoc];rfl
def Pj(R:Nat)(s:Int):eS R s R=gU R s:=by
 unfold eS;rw[Nat.sub_self,List.take_of_length_le (by rw[wY];omega)];simp
def v_(m:Md)(p:Pln)(R:Int)(c:List Int):List (List Int)×Int:=if cX m p=true/\(1<=R/\R<=5)/\uz m c=true then(if(gl m p c).any (fun s=>decide (s <0))=true then([],9)else((gl m p c).map (gU R.toNat),0))else([],1)
def QD{m:Md}{p:Pln}{c:List Int}(hv:cX m p=true)(hc:c.all ji=true){s:Int}(hs:s∈gl m p c): -200000000000<=s/\s<=200000000000:=by
 unfold gl at hs;obtain⟨x,v,rfl⟩:=List.mem_map.1 hs;have u:=(jR.1 hv).row v
 have h1:=Bd (s:=c) (fun y z=>by
  have:=List.all_eq_true.1 hc y z;unfold ji at this;simpa using this) u (rowOf m x).a8.length
 rw[GW]at h1;have h2:=uD (mZ u);have h3:=ur (jR.1 hv).kV;omega
def Ej(fr:Fr){N:Nat}(Z:N<=1000):iO ah.P fr 22 (.t (.int .i64 (N:Int))) (.t (.int .i64 (N:Int)))=some (.ls fr.length,fr++[.row false false 1 (List.replicate N [.int .i64 0])],[]):=by
 have U:eT ah.P 22=some (3,1,8):=by kernel_rfl
 obtain⟨i,z,V,D,I,hs,J,y,G⟩:=oY U;have u:mi ah.P 3=some [.t (.int .i64 0)]:=by kernel_rfl
 have v:z.cells.toList.map cv=[.t (.int .i64 0)]:=by
  unfold mi at u;rw[D]at u;simp only[Option.bind_some,I,Option.map_some,Option.some.injEq]at u;exact u
 have h1:decide (z.cells.size=i.size/\0 <i.size)=true:=decide_eq_true ⟨by rw[y,hs],by rw[hs];decide⟩
 have h2:(decide (0<=(N:Int))&&decide ((N:Int)<=(N:Int))&&Nat.ble ((N:Int).toNat*i.bytes) 281474976710656&&Nat.ble (N:Int).toNat 140737488351232)=true:=by
  rw[J];simp;omega
 unfold iO;simp only[V,D,I,v];rw[h1];dsimp only[iq];rw[h2];simp only[hs,Int.toNat_natCast]
def row_one{R k:Nat}{s Q:Int}(hk:k <R)(u:s.tdiv R=Q)(hm:¬(k:Int)<s.tmod R):(aE (eS R s k)).set k [.int .i64 Q]=aE (eS R s (k+1)):=by
 rw[<- FZ s hk,if_neg hm,u,Int.add_zero];unfold aE;rw[List.map_set]
def OT{m:Md}{p:Pln}{R:Int}{c:List Int}(h:PW m p)(hS:Small m)(hf:p.ao.length<=1000)(hcl:c.length<=1000):Cl ah 9 [.t (bk m),.t (aN p),.t (.int .i64 R),.t (ay c)] [] (.t (.aJ [.arr (aF (v_ m p R c).1),.int .i64 (v_ m p R c).2])) []:=by
 have y:=h.v;have ks:=QN (m:=m) (c:=c) hS hcl;unfold v_
 cases hv:cX m p with
 |false=>
  rw[hv]at y;rw[if_neg (by simp)];unfold aN at y⊢;rw[aS]at y ks⊢;rw[bt]at y⊢;refine Cl.cL rfl Tryz.func9 rfl rfl rfl ?_;exact ae
 |true=>
  rw[hv]at y;by_cases hR:1<=R/\R<=5
  ·
   obtain⟨av,aV⟩:=hR
   cases D:uz m c with
   |false=>
    rw[D]at ks;rw[if_neg (by simp)];unfold aN at y⊢;rw[aS]at y ks⊢;rw[bt]at y⊢;refine Cl.cL rfl Tryz.func9 rfl rfl rfl ?_;exact ae
   |true=>
    rw[D]at ks;rw[if_pos ⟨rfl,⟨av,aV⟩,rfl⟩];obtain⟨N,rfl⟩:=Int.eq_ofNat_of_zero_le (show 0<=R by omega);unfold uz at D;rw[Bool.and_eq_true,decide_eq_true_eq]at D;have bf:=Rg (ub hS.ok)
    have aX:v6 m p c=true:=by
     unfold v6;rw[hv,D.2,Bool.and_true,Bool.true_and,decide_eq_true_eq];omega
    have kl:=N_ h (by omega) aX (by omega);have al:=fun s (hs:s∈gl m p c)=>QD hv D.2 hs;have bb:(gl m p c).length=p.ao.length:=by unfold gl;rw[List.length_map]
    generalize gl m p c=L at kl al bb⊢;have bm:=aO L;obtain⟨A,hA⟩:∃A,L.any (fun s=>decide (s <0))=A:=⟨_,rfl⟩;rw[hA,show(N:Int).toNat=N from rfl];unfold aN at y kl⊢;rw[aS]at y ks kl⊢;rw[bt]at y kl⊢;refine Cl.cL rfl Tryz.func9 rfl rfl rfl ?_;refine ak ?_;refine ax.cA (fun x:Nat×Bool=>[(10,.ls 3),(38,.t (.int .i64 (x.1:Int)))]) (fun x=>[.box false 30 (([ay m.ai,.arr (bq m.tables),.arr (bX m.bx),.arr (dc m.cons),.arr (dk m.ops),.arr (cK m.au),.arr (cu m.aG)]:List AV).map .t),.box false 35 (([.arr (eA p.ao),.arr (dO p.aD),.arr (cw p.places),ay p.bh]:List AV).map .t),.row false false 1 (aE L),.row false x.2 1 (aF ((L.take x.1).map (gU N)))]) (fun x=>x.1<=L.length/\((L.take x.1).any fun s=>decide (s <0))=false) (fun x=>L.length - x.1) (0,false) rfl rfl ⟨by dsimp only;omega,rfl⟩ (fun x hq=>?_);obtain⟨q,be⟩:=x;dsimp only at hq⊢;obtain⟨h1,h2⟩:=hq;rcases Nat.lt_or_ge q L.length with h3|h3
    ·
     obtain⟨s,hs⟩:=aj h3;have hc:=aW hs;have hb:=al s (List.mem_of_getElem? hs)
     have U:((L.take (q+1)).any fun s=>decide (s <0))=decide (s <0):=by
      rw[List.take_add_one,List.any_append,h2,hs];simp
     by_cases V:s <0
     ·
      have aq:A=true:=by
       rw[<- hA,List.any_eq_true];exact⟨s,List.mem_of_getElem? hs,by simpa using V⟩
      subst aq;rw[if_pos rfl]
      repeat'(first
|((with_reducible apply aa.aR);(case hp=>exact aA))
|(refine ar ?_)
|((with_reducible apply aa.u0);(case hx=>exact af))
|fail)
      exact⟨.inr rfl,rfl⟩
     ·
      rw[decide_eq_false V]at U
      have hz:List.replicate N [AV.int .i64 0]=aE (eS N s 0):=by
       unfold eS aE;simp
      have a8:0<=s.tdiv N/\s.tdiv N<=s:=by
       rw[Int.tdiv_eq_ediv_of_nonneg (by omega)];exact⟨Int.ediv_nonneg (by omega) (by omega),Int.ediv_le_self _ (by omega)⟩
      obtain⟨Q,hQ⟩:∃Q,s.tdiv N=Q:=⟨_,rfl⟩;obtain⟨M,hM⟩:∃M,s.tmod N=M:=⟨_,rfl⟩;rw[hQ]at a8;have ag:=fun(fr:Fr)=>Ej fr (N:=N) (by omega);rw[hz]at ag;have ab:=fun(k:Nat) (hk:k<=N)=>(aO (eS N s k)).trans (Pk s hk)
      repeat'(first
|(refine aY ?_)
|(refine ar ?_)
|((with_reducible apply aa.u0);(case hx=>first
|((with_reducible apply ac.ec);(case hs=>exact fun _=>rfl);(case hl|hc|hd=>exact rfl);(case hm=>exact ag _);(case hf=>exact leq))
|exact af))
|fail)
      apply am.lK
      case ho=>exact rfl
      case hp=>exact rfl
      case hl=>exact rfl
      case hs=>exact slt
      refine ax.cA (fun k:Nat=>[(47,.t (.int .i64 (k:Int)))]) (fun k=>[.box false 30 (([ay m.ai,.arr (bq m.tables),.arr (bX m.bx),.arr (dc m.cons),.arr (dk m.ops),.arr (cK m.au),.arr (cu m.aG)]:List AV).map .t),.box false 35 (([.arr (eA p.ao),.arr (dO p.aD),.arr (cw p.places),ay p.bh]:List AV).map .t),.row false false 1 (aE L),.row false be 1 (aF ((L.take q).map (gU N))),.row false false 1 (aE (eS N s k))]) (fun k=>k<=N) (fun k=>N - k) 0 rfl rfl (Nat.zero_le _) (fun k hq=>?_);rcases Nat.lt_or_ge k N with hk|hk
      ·
       have hg:=aW (Ph s hk)
       have z:(k:Int)<M->((aE (eS N s k)).set k [.int .i64 Q]).set k [.int .i64 (Q+1)]=aE (eS N s (k+1)):=by
        intro J;rw[List.set_set,<- FZ s hk,hQ,hM,if_pos J];unfold aE;rw[List.map_set]
       have G:¬(k:Int)<M->(aE (eS N s k)).set k [.int .i64 Q]=aE (eS N s (k+1)):=fun hh=>row_one hk hQ (by rw[hM];exact hh)
       have I:((aE (eS N s k)).set k [.int .i64 Q])[k]?=some [.int .i64 Q]:=by
        rw[List.getElem?_set_self];have:=ab k hq;omega
       have Z:((aE (eS N s k)).set k [.int .i64 Q]).length=N:=by rw[List.length_set];exact ab k hq
       have ad:=ab k hq;by_cases J:(k:Int)<M
       ·
        have z:=z J;generalize aE (eS N s k)=X at hg z G I Z ad⊢;obtain⟨W,hW⟩:∃W,X.set k [.int .i64 Q]=W:=⟨_,rfl⟩;rw[hW]at z I Z
        repeat'(first
|((with_reducible apply aa.aR);(case hp=>exact aA))
|(refine ar ?_)
|((with_reducible apply aa.u0);(case hx=>first
|((with_reducible apply ac.gT);(case hx|hy=>exact rfl);(case hn=>omega);(case h=>exact hQ);(case hb=>omega))
|((with_reducible apply ac.lV);(case hx|hy=>exact rfl);(case hn=>omega);(case h=>exact hM))
|((with_reducible apply ac.qE);(case hs=>exact fun _=>rfl);(case ha|hy|ht|hone=>exact rfl);(case hn=>kernel_rfl);(case hb=>exact rfl);(case hk=>exact hg);(case hj=>exact rfl);(case hv=>exact hW);(case hf=>exact leq))
|((with_reducible apply ac.qE);(case hs=>exact fun _=>rfl);(case ha|hy|ht|hone=>exact rfl);(case hn=>kernel_rfl);(case hb=>exact rfl);(case hk=>exact I);(case hj=>exact rfl);(case hv=>exact z);(case hf=>exact leq))
|exact af))
|fail)
        exact⟨k+1,rfl,rfl,by omega,by omega⟩
       ·
        have G:=G J;generalize aE (eS N s k)=X at hg z G I Z ad⊢
        repeat'(first
|(refine aY ?_)
|(refine ar ?_)
|((with_reducible apply aa.u0);(case hx=>first
|((with_reducible apply ac.gT);(case hx|hy=>exact rfl);(case hn=>omega);(case h=>exact hQ);(case hb=>omega))
|((with_reducible apply ac.lV);(case hx|hy=>exact rfl);(case hn=>omega);(case h=>exact hM))
|((with_reducible apply ac.qE);(case hs=>exact fun _=>rfl);(case ha|hy|ht|hone=>exact rfl);(case hn=>kernel_rfl);(case hb=>exact rfl);(case hk=>exact hg);(case hj=>exact rfl);(case hv=>exact G);(case hf=>exact leq))
|exact af))
|fail)
        exact⟨k+1,rfl,rfl,by omega,by omega⟩
      ·
       have a1:k=N:=by omega
       subst a1;rw[Pj];have bl:=ic ((L.take q).map (gU k))
       have bd:aF ((L.take q).map (gU k))++aF [gU k s]=aF ((L.take (q+1)).map (gU k)):=by
        rw[List.take_add_one,hs];unfold aF;simp
       have a6:b6 ((aF ((L.take q).map (gU k))).length+1) 24=true:=tQ (by rw[ic,List.length_map,List.length_take];omega) (by decide)
       repeat'(first
|(with_reducible apply am.seq)
|((with_reducible apply am.text);(try case hm=>exact rfl))
|(with_reducible first|apply am.exit|apply dx|apply qG|apply pI)
|((with_reducible apply am.jB);(case hc=>exact rfl))
|((with_reducible apply aa.cQ);(case hp=>exact aA))
|(with_reducible first|apply aa.cI|apply aa.eE)
|((with_reducible apply aa.u);(case hx=>((with_reducible apply ac.da);(case hs=>exact fun _=>rfl);(case ha|ht=>exact rfl);(case hr=>first|(with_reducible exact c7)|(with_reducible exact rw1)|(with_reducible exact c8)|(with_reducible exact rw3)|(with_reducible exact rw4)|exact rfl);(case hx|hy|hn|hb|hok=>exact rfl);(case hlen=>exact a6);(case hv=>exact bd);(case hk=>exact de);(case hf=>exact leq))))
|((with_reducible apply aa.u0);(case hx=>first
|((with_reducible apply ac.Iy (x:=.tc (aF [gU k s])));(case hs=>exact fun _=>rfl);(case hw=>exact rfl);(case h0=>kernel_rfl);(case ht|hx=>exact rfl);(case hf=>exact leq);(case hp=>kernel_rfl))
|exact af))
|fail)
       exact⟨(q+1,true),rfl,rfl,⟨by dsimp only;omega,U⟩,by dsimp only;omega⟩
    ·
     have an:A=false:=by
      rw[List.take_of_length_le h3]at h2;rw[<- hA,h2]
     subst an;rw[List.take_of_length_le h3,if_neg (by decide)];exact ae
  ·
   rw[if_neg (fun hh=>hR hh.2.1)];unfold aN at y⊢;rw[aS]at y ks⊢;rw[bt]at y⊢;refine Cl.cL rfl Tryz.func9 rfl rfl rfl ?_
   repeat'(first
|((with_reducible apply aa.ee);(case hp=>exact aA))
|((with_reducible apply aa.bi)<;>intro hq)
|(refine ar ?_)
|((with_reducible apply aa.aB);(case hW=>exact rfl);(case hx=>exact af))
|((with_reducible apply aa.u0);(case hx=>first
|(exact ap y)
|exact af))
|fail)
   all_goals first|exact⟨.inr rfl,rfl⟩|(exfalso;omega)
def qz(m:Md)(l:List (List Int))(r a:Int):Bool:=(decide (0<=r)&&decide (r <eM l))&&(decide (0<=a)&&decide (a <m.au.length))
def n_(N:Nat)(r a:Int):Ev:=⟨r,0,0,List.replicate N 0,0,a,0,0,0,0,0,0,0⟩
def lM(m:Md)(p:Pln)(l:List (List Int))(r a:Int):List bE×Int:=if cX m p=true/\eI p (eM l) l=true then(if qz m l r a=true then(fX l (du m p (n_ (eM l).toNat r a)),0)else([],2))else([],1)
def FN{m:Md}{p:Pln}{l:List (List Int)}{r a:Int}(h:PW m p)(hf:p.ao.length<=1000)(hl:l.length<=1000000)(hx:∀x∈l,x.length<=1000000):Cl ah 16 [.t (bk m),.t (aN p),.t (.arr (aF l)),.t (.int .i64 r),.t (.int .i64 a)] [] (.t (.aJ [.arr (ba (lM m p l r a).1),.int .i64 (lM m p l r a).2])) []:=by
 have y:=h.v;have z:=AO (p:=p) (eM l) (l:=l) (by omega) (by omega) (fun x hm=>by have:=hx x hm;omega);have kn:=CI (l:=l) (by omega);have an:=ic l;have ai:(cK m.au).length=m.au.length:=List.length_map _;unfold lM
 cases hv:cX m p with
 |false=>
  rw[hv]at y;rw[if_neg (by simp)];unfold aN at y z⊢;rw[aS]at y⊢;rw[bt]at y z⊢;refine Cl.cL rfl Tryz.func16 rfl rfl rfl ?_;exact ae
 |true=>
  rw[hv]at y
  cases J:eI p (eM l) l with
  |false=>
   rw[J]at z;rw[if_neg (by simp)];unfold aN at y z⊢;rw[aS]at y⊢;rw[bt]at y z⊢;refine Cl.cL rfl Tryz.func16 rfl rfl rfl ?_;exact ae
  |true=>
   rw[J]at z;rw[if_pos ⟨rfl,rfl⟩];obtain⟨N,U⟩:=Int.eq_ofNat_of_zero_le (show 0<=eM l by cases l <;>simp[eM]);rw[U]at J kn z;rw[U,show(N:Int).toNat=N from rfl];obtain⟨ab,ad,ag⟩:=sj J;by_cases D:qz m l r a=true
   ·
    rw[if_pos D];unfold qz at D;rw[U]at D;simp only[Bool.and_eq_true,decide_eq_true_eq]at D;obtain⟨⟨g1,g2⟩,g3,g4⟩:=D
    have V:∀x∈l,∀n∈x,0<=n/\n<=1000000000000:=by
     intro x hx n hn;unfold eI at J;simp only[Bool.and_eq_true,decide_eq_true_eq,List.all_eq_true]at J;have:=(J.2.2 x hx).2 n hn;unfold gQ at this;simpa using this
    have G:=I0 (l:=l) (er:=r) (en:=0) (et:=0) (P:=List.replicate N 0) (ea:=a) (gk:=0) (gi:=0) (ge:=0) (ga:=0) (eto:=0) (pl:=0) (se:=0) h (by rw[List.length_replicate];omega) (kI.2 ⟨hv,⟨g3,g4⟩,by rw[List.length_replicate];omega,by rw[List.length_replicate];omega⟩) hf (by rw[List.length_replicate];exact ab) V;unfold n_;have I:=fun(fr:Fr)=>Ej fr (N:=N) (by omega)
    have hz:List.replicate N [AV.int .i64 0]=aE (List.replicate N 0):=by
     unfold aE;simp
    rw[hz]at I;generalize fX l (du m p ⟨r,0,0,List.replicate N 0,0,a,0,0,0,0,0,0,0⟩)=X at G⊢;generalize List.replicate N (0:Int)=Z at G I;unfold aN at y z G⊢;unfold bN b8 at G;rw[aS]at y G⊢;rw[bt]at y z G⊢;unfold fx at G;dsimp only at G;refine Cl.cL rfl Tryz.func16 rfl rfl rfl ?_
    repeat'(first
|(refine aY ?_)
|(refine ar ?_)
|((with_reducible apply az.u);(case hfl=>kernel_rfl);(case hx=>first
|((with_reducible apply ac.ec);(case hs=>exact fun _=>rfl);(case hl|hc|hd=>exact rfl);(case hm=>exact I _);(case hf=>exact leq))
|(exact NH [2,3] G)
|exact af))
|((with_reducible apply aa.aB);(case hW=>exact rfl);(case hx=>first
|(exact ap z)
|exact af))
|((with_reducible apply aa.u0);(case hx=>first
|(exact ap y)
|(exact ap kn)
|exact af))
|fail)
    exact⟨.inr rfl,rfl⟩
   ·
    rw[if_neg D]
    have al:r <0\/(N:Int)<=r\/a <0\/(m.au.length:Int)<=a:=by
     unfold qz at D;rw[U]at D;simp only[Bool.and_eq_true,decide_eq_true_eq]at D;omega
    unfold aN at y z⊢;rw[aS]at y⊢;rw[bt]at y z⊢;refine Cl.cL rfl Tryz.func16 rfl rfl rfl ?_
    repeat'(first
|((with_reducible apply aa.ee);(case hp=>exact aA))
|((with_reducible apply aa.aX)<;>intro hq)
|((with_reducible apply aa.bi)<;>intro hq)
|(refine ar ?_)
|((with_reducible apply aa.aB);(case hW=>exact rfl);(case hx=>first
|(exact ap z)
|exact af))
|((with_reducible apply aa.u0);(case hx=>first
|(exact ap y)
|(exact ap kn)
|exact af))
|fail)
    all_goals first|exact⟨.inr rfl,rfl⟩|(exfalso;omega)
end Go.Proofs.YtjolgbkkocjpgaaGreatDoor
