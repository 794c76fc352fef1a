/- Law 39: states,the initial rights,as contracts. No condition. -/
import Derived.Test.YtjolgbkkocjpgaaGreatDoorTRE
import Derived.Test.YtjolgbkkocjpgaaGreatDoorTOB
import Derived.Test.YtjolgbkkocjpgaaGreatDoorTLQ
import Derived.Test.YtjolgbkkocjpgaaGreatDoorTPJ
import Derived.Test.YtjolgbkkocjpgaaGreatDoorTRG
set_option linter.defProp false
set_option linter.unusedSimpArgs false
set_option linter.unusedVariables false
set_option linter.unusedSectionVars false
namespace Go.Proofs.YtjolgbkkocjpgaaGreatDoor
open Go.RowKit
set_option maxRecDepth 100000
set_option maxHeartbeats 32000000
def PO(n:Int):Cl ai 70 [.t (.int .i64 n)] [] (.t (.bool (!fU n))) []:=by
 refine Cl.ao rfl Tryz.func70 rfl rfl rfl ?_;unfold fU;exact af
def pC(m:Md)(c:List Int):Bool:=decide ((c.length:Int)=bn m.ak true m.tables)&&c.all fU
def PP{m:Md}{c:List Int}(z:Small m)(hcl:c.length<=1000):Cl ai 29 [.t (bz m),.t (ax c)] [] (.t (.bool (pC m c))) []:=by
 have y:=Pj (C:=c) (p:=fun n=>!fU n) (by omega) (fun n _=>PO n);rw[zP]at y;unfold pC;obtain⟨b,G⟩:∃b,c.all fU=b:=⟨_,rfl⟩;rw[G]at y⊢;by_cases u:(c.length:Int)=bn m.ak true m.tables
 ·
  rw[decide_eq_true u,Bool.true_and];have ks:=PD (l:=[]) z (by simp) (fun e h=>by cases h) hcl u rfl;obtain⟨T,D⟩:∃T,nO m c []=T:=⟨_,rfl⟩;rw[D]at ks;have v:(.arr (bL []):AV)=.arr []:=rfl;rw[v]at ks;rw[aW]at ks⊢;refine Cl.ao rfl Tryz.func29 rfl rfl rfl ?_
  repeat'(first
|(with_reducible apply ac.seq)
|((with_reducible apply ac.text);(try case hm=>exact rfl))
|(with_reducible apply ac.ret)
|((with_reducible apply aa.aE);(case hp=>exact aj))
|(with_reducible apply aa.ap)
|((with_reducible apply aa.aD);(case hW=>exact rfl);(case hx=>first
|(exact aq y)
|exact ah))
|((with_reducible apply aa.u0);(case hx=>first
|(exact qf ks)
|exact ah))
|fail)
  all_goals(refine aZ (.inr rfl) rfl ?_;cases b <;>simp_all)
 ·
  rw[decide_eq_false u,Bool.false_and];have ks:=PC (l:=[]) (c:=c) z (by simp) (fun e h=>by cases h) (by omega) (fun h=>u h.1);have v:(.arr (bL []):AV)=.arr []:=rfl;rw[v]at ks;rw[aW]at ks⊢;refine Cl.ao rfl Tryz.func29 rfl rfl rfl ?_;exact af
def cw(R:Nat)(s:Int):List Int:=(List.range R).map fun(k:Nat)=>s.tdiv R+if(k:Int)<s.tmod R then 1 else 0
def eo(R:Nat)(s:Int)(k:Nat):List Int:=(cw R s).take k++List.replicate (R - k) 0
def mh(R:Nat)(s:Int):(cw R s).length=R:=by unfold cw;simp
def tf{R k:Nat}(s:Int)(h:k <R):(cw R s)[k]?=some (s.tdiv R+if(k:Int)<s.tmod R then 1 else 0):=by
 unfold cw;rw[List.getElem?_map,List.getElem?_range h];rfl
def PQ{R k:Nat}(s:Int)(h:k<=R):(eo R s k).length=R:=by
 unfold eo;rw[List.length_append,List.length_take,mh,List.length_replicate];omega
def PR{R k:Nat}(s:Int)(h:k <R):(eo R s k)[k]?=some 0:=by
 unfold eo;have u:((cw R s).take k).length=k:=by rw[List.length_take,mh];omega
 rw[List.getElem?_append_right (by omega),u,Nat.sub_self,List.getElem?_replicate,if_pos (by omega)]
def FV{R k:Nat}(s:Int)(h:k <R):(eo R s k).set k (s.tdiv R+if(k:Int)<s.tmod R then 1 else 0)=eo R s (k+1):=by
 unfold eo;have u:((cw R s).take k).length=k:=by rw[List.length_take,mh];omega
 rw[List.set_append_right _ _ (by omega),u,Nat.sub_self,List.take_add_one,tf s h];obtain⟨d,hd⟩:∃d,R - k=d+1:=⟨R - k - 1,by omega⟩;rw[hd,show R - (k+1)=d by omega,List.replicate_succ,List.set_cons_zero,List.append_assoc];rfl
def PS(R:Nat)(s:Int):eo R s R=cw R s:=by
 unfold eo;rw[Nat.sub_self,List.take_of_length_le (by rw[mh];omega)];simp
def oe(m:Md)(p:Pln)(R:Int)(c:List Int):List (List Int)×Int:=if dD m p=true/\(1<=R/\R<=5)/\pC m c=true then(if(ci m p c).any (fun s=>decide (s <0))=true then([],9)else((ci m p c).map (cw R.toNat),0))else([],1)
def FW{m:Md}{p:Pln}{c:List Int}(hv:dD m p=true)(hc:c.all fU=true){s:Int}(hs:s∈ci m p c): -200000000000<=s/\s<=200000000000:=by
 unfold ci at hs;obtain⟨x,v,rfl⟩:=List.mem_map.1 hs;have u:=(l6.1 hv).row v
 have h1:=zI (s:=c) (fun y z=>by
  have:=List.all_eq_true.1 hc y z;unfold fU at this;simpa using this) u (rowOf m x).a_.length
 rw[Fv]at h1;have h2:=uY (mS u);have h3:=vW (l6.1 hv).lc;omega
def FX(fr:Fr){N:Nat}(Z:N<=1000):ik ai.P fr 22 (.t (.int .i64 (N:Int))) (.t (.int .i64 (N:Int)))=some (.ls fr.length,fr++[.row false false 1 (List.replicate N [.int .i64 0])],[]):=by
 have U:dY ai.P 22=some (3,1,8):=by kernel_rfl
 obtain⟨i,z,V,D,I,hs,J,y,G⟩:=nl U;have u:j9 ai.P 3=some [.t (.int .i64 0)]:=by kernel_rfl
 have v:z.cells.toList.map cv=[.t (.int .i64 0)]:=by
  unfold j9 at u;rw[D]at u;simp only[Option.bind_some,I,Option.map_some,Option.some.injEq]at u;exact u
 have h1:decide (z.cells.size=i.size/\0 <i.size)=true:=decide_eq_true ⟨by rw[y,hs],by rw[hs];decide⟩
 have h2:(decide (0<=(N:Int))&&decide ((N:Int)<=(N:Int))&&Nat.ble ((N:Int).toNat*i.bytes) 281474976710656&&Nat.ble (N:Int).toNat 140737488351232)=true:=by
  rw[J];simp;omega
 unfold ik;simp only[V,D,I,v];rw[h1];dsimp only[fY];rw[h2];simp only[hs,Int.toNat_natCast]
def row_one{R k:Nat}{s Q:Int}(hk:k <R)(u:s.tdiv R=Q)(hm:¬(k:Int)<s.tmod R):(aG (eo R s k)).set k [.int .i64 Q]=aG (eo R s (k+1)):=by
 rw[<- FV s hk,if_neg hm,u,Int.add_zero];unfold aG;rw[List.map_set]
def FY{m:Md}{p:Pln}{R:Int}{c:List Int}(h:PW m p)(hS:Small m)(hf:p.aw.length<=1000)(hcl:c.length<=1000):Cl ai 9 [.t (bz m),.t (ba p),.t (.int .i64 R),.t (ax c)] [] (.t (.aL [.arr (aO (oe m p R c).1),.int .i64 (oe m p R c).2])) []:=by
 have y:=h.v;have ks:=PP (m:=m) (c:=c) hS hcl;unfold oe
 cases hv:dD m p with
 |false=>
  rw[hv]at y;rw[if_neg (by simp)];unfold ba at y⊢;rw[aW]at y ks⊢;rw[bX]at y⊢;refine Cl.fO rfl Tryz.func9 rfl rfl rfl ?_;exact af
 |true=>
  rw[hv]at y;by_cases hR:1<=R/\R<=5
  ·
   obtain⟨au,aS⟩:=hR
   cases D:pC m c with
   |false=>
    rw[D]at ks;rw[if_neg (by simp)];unfold ba at y⊢;rw[aW]at y ks⊢;rw[bX]at y⊢;refine Cl.fO rfl Tryz.func9 rfl rfl rfl ?_;exact af
   |true=>
    rw[D]at ks;rw[if_pos ⟨rfl,⟨au,aS⟩,rfl⟩];obtain⟨N,rfl⟩:=Int.eq_ofNat_of_zero_le (show 0<=R by omega);unfold pC at D;rw[Bool.and_eq_true,decide_eq_true_eq]at D;have bf:=FI (qU hS.ok)
    have a1:lz m p c=true:=by
     unfold lz;rw[hv,D.2,Bool.and_true,Bool.true_and,decide_eq_true_eq];omega
    have kl:=vY h (by omega) a1 (by omega);have al:=fun s (hs:s∈ci m p c)=>FW hv D.2 hs;have bc:(ci m p c).length=p.aw.length:=by unfold ci;rw[List.length_map]
    generalize ci m p c=L at kl al bc⊢;have bm:=aQ L;obtain⟨A,hA⟩:∃A,L.any (fun s=>decide (s <0))=A:=⟨_,rfl⟩;rw[hA,show(N:Int).toNat=N from rfl];unfold ba at y kl⊢;rw[aW]at y ks kl⊢;rw[bX]at y kl⊢;refine Cl.fO rfl Tryz.func9 rfl rfl rfl ?_;refine ar ?_;refine aC.cB (fun x:Nat×Bool=>[(10,.ls 3),(38,.t (.int .i64 (x.1:Int)))]) (fun x=>[.box false 30 (([ax m.ak,.arr (br m.tables),.arr (b5 m.bw),.arr (dN m.cons),.arr (dO m.ops),.arr (de m.ay),.arr (cG m.aI)]:List AV).map .t),.box false 35 (([.arr (fq p.aw),.arr (e_ p.aR),.arr (cK p.places),ax p.bI]:List AV).map .t),.row false false 1 (aG L),.row false x.2 1 (aO ((L.take x.1).map (cw N)))]) (fun x=>x.1<=L.length/\((L.take x.1).any fun s=>decide (s <0))=false) (fun x=>L.length - x.1) (0,false) rfl rfl ⟨by dsimp only;omega,rfl⟩ (fun x hq=>?_);obtain⟨q,be⟩:=x;dsimp only at hq⊢;obtain⟨h1,h2⟩:=hq;rcases Nat.lt_or_ge q L.length with h3|h3
    ·
     obtain⟨s,hs⟩:=am h3;have hc:=aU hs;have hb:=al s (List.mem_of_getElem? hs)
     have U:((L.take (q+1)).any fun s=>decide (s <0))=decide (s <0):=by
      rw[List.take_add_one,List.any_append,h2,hs];simp
     by_cases V:s <0
     ·
      have ao:A=true:=by
       rw[<- hA,List.any_eq_true];exact⟨s,List.mem_of_getElem? hs,by simpa using V⟩
      subst ao;rw[if_pos rfl]
      repeat'(first
|(with_reducible first|apply ac.seq|apply ac.block)
|((with_reducible apply ac.text);(try case hm=>exact rfl))
|(with_reducible first|apply ac.skip|apply ac.ret|apply az|apply aV|apply bq)
|((with_reducible apply ac.aA);(case hc=>exact rfl))
|((with_reducible apply aa.aE);(case hp=>exact aj))
|(with_reducible apply aa.ap)
|((with_reducible apply aa.u0);(case hx=>exact ah))
|fail)
      exact⟨.inr rfl,rfl⟩
     ·
      rw[decide_eq_false V]at U
      have hz:List.replicate N [AV.int .i64 0]=aG (eo N s 0):=by
       unfold eo aG;simp
      have bb:0<=s.tdiv N/\s.tdiv N<=s:=by
       rw[Int.tdiv_eq_ediv_of_nonneg (by omega)];exact⟨Int.ediv_nonneg (by omega) (by omega),Int.ediv_le_self _ (by omega)⟩
      obtain⟨Q,hQ⟩:∃Q,s.tdiv N=Q:=⟨_,rfl⟩;obtain⟨M,hM⟩:∃M,s.tmod N=M:=⟨_,rfl⟩;rw[hQ]at bb;have ag:=fun(fr:Fr)=>FX fr (N:=N) (by omega);rw[hz]at ag;have ab:=fun(k:Nat) (hk:k<=N)=>(aQ (eo N s k)).trans (PQ s hk)
      repeat'(first
|(with_reducible first|apply ac.seq|apply ac.block)
|((with_reducible apply ac.text);(try case hm=>exact rfl))
|(with_reducible first|apply ac.skip|apply az)
|((with_reducible apply ac.aA);(case hc=>exact rfl))
|((with_reducible apply ac.aH);(case hc=>exact rfl))
|((with_reducible apply aa.aE);(case hp=>exact aj))
|((with_reducible apply aa.bC);(case hp=>exact aj))
|(with_reducible apply aa.ap)
|((with_reducible apply aa.u0);(case hx=>first
|((with_reducible apply ae.d_);(case hs=>exact fun _=>rfl);(case hl|hc|hd=>exact rfl);(case hm=>exact ag _);(case hf=>exact leq))
|exact ah))
|fail)
      apply ac.kQ
      case ho=>exact rfl
      case hp=>exact rfl
      case hl=>exact rfl
      case hs=>exact slt
      refine aC.cB (fun k:Nat=>[(47,.t (.int .i64 (k:Int)))]) (fun k=>[.box false 30 (([ax m.ak,.arr (br m.tables),.arr (b5 m.bw),.arr (dN m.cons),.arr (dO m.ops),.arr (de m.ay),.arr (cG m.aI)]:List AV).map .t),.box false 35 (([.arr (fq p.aw),.arr (e_ p.aR),.arr (cK p.places),ax p.bI]:List AV).map .t),.row false false 1 (aG L),.row false be 1 (aO ((L.take q).map (cw N))),.row false false 1 (aG (eo N s k))]) (fun k=>k<=N) (fun k=>N - k) 0 rfl rfl (Nat.zero_le _) (fun k hq=>?_);rcases Nat.lt_or_ge k N with hk|hk
      ·
       have hg:=aU (PR s hk)
       have z:(k:Int)<M->((aG (eo N s k)).set k [.int .i64 Q]).set k [.int .i64 (Q+1)]=aG (eo N s (k+1)):=by
        intro J;rw[List.set_set,<- FV s hk,hQ,hM,if_pos J];unfold aG;rw[List.map_set]
       have G:¬(k:Int)<M->(aG (eo N s k)).set k [.int .i64 Q]=aG (eo N s (k+1)):=fun hh=>row_one hk hQ (by rw[hM];exact hh)
       have I:((aG (eo N s k)).set k [.int .i64 Q])[k]?=some [.int .i64 Q]:=by
        rw[List.getElem?_set_self];have:=ab k hq;omega
       have Z:((aG (eo N s k)).set k [.int .i64 Q]).length=N:=by rw[List.length_set];exact ab k hq
       have ad:=ab k hq;by_cases J:(k:Int)<M
       ·
        have z:=z J;generalize aG (eo N s k)=X at hg z G I Z ad⊢;obtain⟨W,hW⟩:∃W,X.set k [.int .i64 Q]=W:=⟨_,rfl⟩;rw[hW]at z I Z
        repeat'(first
|(with_reducible first|apply ac.seq|apply ac.block)
|((with_reducible apply ac.text);(try case hm=>exact rfl))
|(with_reducible first|apply ac.skip|apply az)
|((with_reducible apply ac.aA);(case hc=>exact rfl))
|((with_reducible apply aa.aE);(case hp=>exact aj))
|(with_reducible first|apply aa.ap|apply aa.bj)
|((with_reducible apply aa.u0);(case hx=>first
|((with_reducible apply ae.gl);(case hx|hy=>exact rfl);(case hn=>omega);(case h=>exact hQ);(case hb=>omega))
|((with_reducible apply ae.kR);(case hx|hy=>exact rfl);(case hn=>omega);(case h=>exact hM))
|((with_reducible apply ae.o7);(case hs=>exact fun _=>rfl);(case ha|hy|ht|hone=>exact rfl);(case hn=>kernel_rfl);(case hb=>exact rfl);(case hk=>exact hg);(case hj=>exact rfl);(case hv=>exact hW);(case hf=>exact leq))
|((with_reducible apply ae.o7);(case hs=>exact fun _=>rfl);(case ha|hy|ht|hone=>exact rfl);(case hn=>kernel_rfl);(case hb=>exact rfl);(case hk=>exact I);(case hj=>exact rfl);(case hv=>exact z);(case hf=>exact leq))
|exact ah))
|fail)
        exact⟨k+1,rfl,rfl,by omega,by omega⟩
       ·
        have G:=G J;generalize aG (eo N s k)=X at hg z G I Z ad⊢
        repeat'(first
|(with_reducible first|apply ac.seq|apply ac.block)
|((with_reducible apply ac.text);(try case hm=>exact rfl))
|(with_reducible first|apply ac.skip|apply az|apply bk)
|((with_reducible apply ac.aA);(case hc=>exact rfl))
|((with_reducible apply ac.aH);(case hc=>exact rfl))
|((with_reducible apply aa.aE);(case hp=>exact aj))
|((with_reducible apply aa.bC);(case hp=>exact aj))
|(with_reducible apply aa.ap)
|((with_reducible apply aa.u0);(case hx=>first
|((with_reducible apply ae.gl);(case hx|hy=>exact rfl);(case hn=>omega);(case h=>exact hQ);(case hb=>omega))
|((with_reducible apply ae.kR);(case hx|hy=>exact rfl);(case hn=>omega);(case h=>exact hM))
|((with_reducible apply ae.o7);(case hs=>exact fun _=>rfl);(case ha|hy|ht|hone=>exact rfl);(case hn=>kernel_rfl);(case hb=>exact rfl);(case hk=>exact hg);(case hj=>exact rfl);(case hv=>exact G);(case hf=>exact leq))
|exact ah))
|fail)
        exact⟨k+1,rfl,rfl,by omega,by omega⟩
      ·
       have a6:k=N:=by omega
       subst a6;rw[PS];have bl:=jY ((L.take q).map (cw k))
       have bd:aO ((L.take q).map (cw k))++aO [cw k s]=aO ((L.take (q+1)).map (cw k)):=by
        rw[List.take_add_one,hs];unfold aO;simp
       have a_:ca ((aO ((L.take q).map (cw k))).length+1) 24=true:=vz (by rw[jY,List.length_map,List.length_take];omega) (by decide)
       repeat'(first
|(with_reducible apply ac.seq)
|((with_reducible apply ac.text);(try case hm=>exact rfl))
|(with_reducible first|apply ac.exit|apply az|apply cR|apply cS)
|((with_reducible apply ac.aH);(case hc=>exact rfl))
|((with_reducible apply aa.bC);(case hp=>exact aj))
|(with_reducible first|apply aa.ap|apply aa.bj)
|((with_reducible apply aa.u);(case hx=>((with_reducible apply ae.eP);(case hs=>exact fun _=>rfl);(case ha|ht=>exact rfl);(case hr=>first|(with_reducible exact eH)|(with_reducible exact rw1)|(with_reducible exact eI)|(with_reducible exact rw3)|(with_reducible exact rw4)|exact rfl);(case hx|hy|hn|hb|hok=>exact rfl);(case hlen=>exact a_);(case hv=>exact bd);(case hk=>exact eQ);(case hf=>exact leq))))
|((with_reducible apply aa.u0);(case hx=>first
|((with_reducible apply ae.IE (x:=.tc (aO [cw k s])));(case hs=>exact fun _=>rfl);(case hw=>exact rfl);(case h0=>kernel_rfl);(case ht|hx=>exact rfl);(case hf=>exact leq);(case hp=>kernel_rfl))
|exact ah))
|fail)
       exact⟨(q+1,true),rfl,rfl,⟨by dsimp only;omega,U⟩,by dsimp only;omega⟩
    ·
     have an:A=false:=by
      rw[List.take_of_length_le h3]at h2;rw[<- hA,h2]
     subst an;rw[List.take_of_length_le h3,if_neg (by decide)];exact af
  ·
   rw[if_neg (fun hh=>hR hh.2.1)];unfold ba at y⊢;rw[aW]at y ks⊢;rw[bX]at y⊢;refine Cl.fO rfl Tryz.func9 rfl rfl rfl ?_
   repeat'(first
|(with_reducible apply ac.seq)
|((with_reducible apply ac.text);(try case hm=>exact rfl))
|(with_reducible first|apply ac.ret|apply aV)
|((with_reducible apply ac.aA);(case hc=>exact rfl))
|((with_reducible apply aa.cd);(case hp=>exact aj))
|((with_reducible apply aa.bg)<;>intro hq)
|(with_reducible apply aa.ap)
|((with_reducible apply aa.gf);(case hW=>exact rfl))
|((with_reducible apply aa.aD);(case hW=>exact rfl);(case hx=>exact ah))
|((with_reducible apply aa.u0);(case hx=>first
|(exact aq y)
|exact ah))
|fail)
   all_goals first|exact⟨.inr rfl,rfl⟩|(exfalso;omega)
def wk(m:Md)(l:List (List Int))(r a:Int):Bool:=(decide (0<=r)&&decide (r <jE l))&&(decide (0<=a)&&decide (a <m.ay.length))
def FZ(N:Nat)(r a:Int):Ev:=⟨r,0,0,List.replicate N 0,0,a,0,0,0,0,0,0,0⟩
def wm(m:Md)(p:Pln)(l:List (List Int))(r a:Int):List cP×Int:=if dD m p=true/\iD p (jE l) l=true then(if wk m l r a=true then(iX l (fu m p (FZ (jE l).toNat r a)),0)else([],2))else([],1)
def PT{m:Md}{p:Pln}{l:List (List Int)}{r a:Int}(h:PW m p)(hf:p.aw.length<=1000)(hl:l.length<=1000000)(hx:∀x∈l,x.length<=1000000):Cl ai 16 [.t (bz m),.t (ba p),.t (.arr (aO l)),.t (.int .i64 r),.t (.int .i64 a)] [] (.t (.aL [.arr (bW (wm m p l r a).1),.int .i64 (wm m p l r a).2])) []:=by
 have y:=h.v;have z:=wc (p:=p) (jE l) (l:=l) (by omega) (by omega) (fun x hm=>by have:=hx x hm;omega);have kn:=FB (l:=l) (by omega);have an:=jY l;have ak:(de m.ay).length=m.ay.length:=List.length_map _;unfold wm
 cases hv:dD m p with
 |false=>
  rw[hv]at y;rw[if_neg (by simp)];unfold ba at y z⊢;rw[aW]at y⊢;rw[bX]at y z⊢;refine Cl.fO rfl Tryz.func16 rfl rfl rfl ?_;exact af
 |true=>
  rw[hv]at y
  cases J:iD p (jE l) l with
  |false=>
   rw[J]at z;rw[if_neg (by simp)];unfold ba at y z⊢;rw[aW]at y⊢;rw[bX]at y z⊢;refine Cl.fO rfl Tryz.func16 rfl rfl rfl ?_;exact af
  |true=>
   rw[J]at z;rw[if_pos ⟨rfl,rfl⟩];obtain⟨N,U⟩:=Int.eq_ofNat_of_zero_le (show 0<=jE l by cases l <;>simp[jE]);rw[U]at J kn z;rw[U,show(N:Int).toNat=N from rfl];obtain⟨ab,ad,ag⟩:=zS J;by_cases D:wk m l r a=true
   ·
    rw[if_pos D];unfold wk at D;rw[U]at D;simp only[Bool.and_eq_true,decide_eq_true_eq]at D;obtain⟨⟨g1,g2⟩,g3,g4⟩:=D
    have V:∀x∈l,∀n∈x,0<=n/\n<=1000000000000:=by
     intro x hx n hn;unfold iD at J;simp only[Bool.and_eq_true,decide_eq_true_eq,List.all_eq_true]at J;have:=(J.2.2 x hx).2 n hn;unfold lA at this;simpa using this
    have G:=PN (l:=l) (er:=r) (en:=0) (et:=0) (P:=List.replicate N 0) (ea:=a) (gk:=0) (gi:=0) (ge:=0) (ga:=0) (eto:=0) (pl:=0) (se:=0) h (by rw[List.length_replicate];omega) (qW.2 ⟨hv,⟨g3,g4⟩,by rw[List.length_replicate];omega,by rw[List.length_replicate];omega⟩) hf (by rw[List.length_replicate];exact ab) V;unfold FZ;have I:=fun(fr:Fr)=>FX fr (N:=N) (by omega)
    have hz:List.replicate N [AV.int .i64 0]=aG (List.replicate N 0):=by
     unfold aG;simp
    rw[hz]at I;generalize iX l (fu m p ⟨r,0,0,List.replicate N 0,0,a,0,0,0,0,0,0,0⟩)=X at G⊢;generalize List.replicate N (0:Int)=Z at G I;unfold ba at y z G⊢;unfold cV c9 at G;rw[aW]at y G⊢;rw[bX]at y z G⊢;unfold eZ at G;dsimp only at G;refine Cl.fO rfl Tryz.func16 rfl rfl rfl ?_
    repeat'(first
|(with_reducible first|apply ac.seq|apply ac.block)
|((with_reducible apply ac.text);(try case hm=>exact rfl))
|((with_reducible apply ac.nE);(case hm=>exact rfl))
|(with_reducible first|apply ac.skip|apply ac.ret|apply az|apply bk)
|((with_reducible apply ac.aH);(case hc=>exact rfl))
|((with_reducible apply aa.bC);(case hp=>exact aj))
|((with_reducible apply aa.cA);(case hp=>exact aj))
|(with_reducible first|apply aa.ap|apply aB.ap)
|((with_reducible apply aB.u);(case hfl=>kernel_rfl);(case hx=>first
|((with_reducible apply ae.d_);(case hs=>exact fun _=>rfl);(case hl|hc|hd=>exact rfl);(case hm=>exact I _);(case hf=>exact leq))
|(exact IU [2,3] G)
|exact ah))
|((with_reducible apply aa.aD);(case hW=>exact rfl);(case hx=>first
|(exact aq z)
|exact ah))
|((with_reducible apply aa.u0);(case hx=>first
|(exact aq y)
|(exact aq kn)
|exact ah))
|fail)
    exact⟨.inr rfl,rfl⟩
   ·
    rw[if_neg D]
    have al:r <0\/(N:Int)<=r\/a <0\/(m.ay.length:Int)<=a:=by
     unfold wk at D;rw[U]at D;simp only[Bool.and_eq_true,decide_eq_true_eq]at D;omega
    unfold ba at y z⊢;rw[aW]at y⊢;rw[bX]at y z⊢;refine Cl.fO rfl Tryz.func16 rfl rfl rfl ?_
    repeat'(first
|(with_reducible first|apply ac.seq|apply ac.block)
|((with_reducible apply ac.text);(try case hm=>exact rfl))
|(with_reducible first|apply ac.ret|apply aV|apply bq)
|((with_reducible apply ac.aA);(case hc=>exact rfl))
|((with_reducible apply ac.aH);(case hc=>exact rfl))
|((with_reducible apply aa.bc)<;>intro hq)
|((with_reducible apply aa.cd);(case hp=>exact aj))
|((with_reducible apply aa.bg)<;>intro hq)
|(with_reducible apply aa.ap)
|((with_reducible apply aa.gf);(case hW=>exact rfl))
|((with_reducible apply aa.aD);(case hW=>exact rfl);(case hx=>first
|(exact aq z)
|exact ah))
|((with_reducible apply aa.u0);(case hx=>first
|(exact aq y)
|(exact aq kn)
|exact ah))
|fail)
    all_goals first|exact⟨.inr rfl,rfl⟩|(exfalso;omega)
end Go.Proofs.YtjolgbkkocjpgaaGreatDoor
