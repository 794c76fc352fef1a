/- Law 39: RightsDivide: the law's function answers true. No condition. -/
import Derived.Test.YtjolgbkkocjpgaaGreatDoorTRT
set_option linter.defProp false
set_option linter.unusedSimpArgs false
set_option linter.unusedVariables false
set_option linter.unusedSectionVars false
namespace Go.Proofs.YtjolgbkkocjpgaaGreatDoor
open Go.RowKit
set_option maxRecDepth 100000
set_option maxHeartbeats 32000000
def P1(A:List Int)(u:A.length<=140737488351232):Cl ai 14 [.t (ax A),.t (ax A)] [] (.t (.bool true)) []:=by
 have h:=Dw (xs:=A) (ys:=A) u u;rwa[show(A==A)=true by simp]at h
def P2{m:Md}{l:List Ev}(hm:bt m)(h:jD m l=true):Small m/\m.ops.length<=8:=by
 obtain⟨h1,h2,h3,_⟩:=FH h;exact⟨⟨hm,h2,h3⟩,h1.2.2.2.1⟩
def zY{m:Md}{p:Pln}{l:List (List Int)}{E:List Ev}(h:pE m p l E=true):jD m E=true/\p.aw.length<=20/\l.length<=20/\∀x∈l,x.length<=8:=by
 unfold pE at h;simp only[Bool.and_eq_true,decide_eq_true_eq,List.all_eq_true]at h;obtain⟨h1,h2,_,_,_,h3,h4,_⟩:=h;refine⟨h1,h2,h3,fun x u=>?_⟩;have:=h4 x u;unfold pD at this;rw[Bool.and_eq_true,decide_eq_true_eq]at this;exact this.1
def F3{m:Md}{p:Pln}{l:List (List Int)}{E:List Ev}(hm:bt m)(u:∀a∈m.ay,iC a.eff)(hp:n9 p)(h:pE m p l E=true):PW m p/\Small m:=by
 obtain⟨v,y⟩:=P2 hm (zY h).1;exact⟨⟨hm,u,by omega,hp⟩,v⟩
theorem F4{R:Nat}{s:Int}(v:1<=R/\R<=5)(hs:0<=s/\s<=200000000000):∀k:Nat,k<=R->iE ((cw R s).take k)=(k:Int)*s.tdiv R+min (k:Int) (s.tmod R)
 |0,_=>by
  have:0<=s.tmod R:=Int.tmod_nonneg _ hs.1;unfold iE;simp;omega
 |k+1,J=>by
  have I:=F4 v hs k (by omega);have z:=tf s (show k <R by omega)
  have u:0<=s.tdiv R/\s.tdiv R<=s:=by
   rw[Int.tdiv_eq_ediv_of_nonneg hs.1];exact⟨Int.ediv_nonneg hs.1 (Int.natCast_nonneg _),Int.ediv_le_self _ hs.1⟩
  have U:0<=s.tmod R:=Int.tmod_nonneg _ hs.1
  have h1:iE ((cw R s).take (k+1))=IntKind.i64.wrap (iE ((cw R s).take k)+(s.tdiv R+if(k:Int)<s.tmod R then 1 else 0)):=by
   unfold iE;rw[List.take_add_one,List.foldl_append,z];rfl
  generalize s.tdiv R=Q at*
  generalize s.tmod R=M at*
  have D:k<=4:=by omega
  have y:(k:Int)*Q+min (k:Int) M+(Q+if(k:Int)<M then 1 else 0)=((k+1:Nat):Int)*Q+min ((k+1:Nat):Int) M:=by
   have:((k+1:Nat):Int)*Q=(k:Int)*Q+Q:=by push_cast;rw[Int.add_mul,Int.one_mul]
   rw[this];split <;>omega
  have G:0<=((k+1:Nat):Int)*Q/\((k+1:Nat):Int)*Q<=5*200000000000:=by
   refine⟨Int.mul_nonneg (by omega) u.1,?_⟩;exact Int.le_trans (Int.mul_le_mul_of_nonneg_right (show((k+1:Nat):Int)<=5 by omega) u.1) (by omega)
  rw[h1,I,y];exact IntWalk.i64_in _ (by omega)
def P3{R:Nat}{s:Int}(u:1<=R/\R<=5)(hs:0<=s/\s<=200000000000):iE (cw R s)=s:=by
 have h:=F4 u hs R (Nat.le_refl _);rw[List.take_of_length_le (by rw[mh];exact Nat.le_refl _)]at h;have h1:s.tmod R <R:=Int.tmod_lt_of_pos _ (by omega);have h2:=Int.mul_tdiv_add_tmod s R;rw[h];omega
def P4{R:Nat}{s:Int}(hs:0<=s/\s<=200000000000):(cw R s).all lA=true:=by
 rw[List.all_eq_true];intro n u;unfold cw at u;obtain⟨k,_,rfl⟩:=List.mem_map.1 u
 have v:0<=s.tdiv R/\s.tdiv R<=s:=by
  rw[Int.tdiv_eq_ediv_of_nonneg hs.1];exact⟨Int.ediv_nonneg hs.1 (Int.natCast_nonneg _),Int.ediv_le_self _ hs.1⟩
 unfold lA;rw[Bool.and_eq_true,decide_eq_true_eq,decide_eq_true_eq];split <;>omega
def P5{R i:Nat}{s:Int}(hs:0<=s/\s<=200000000000)(h0:1<=i)(hi:i <R):∃a b z:Int,(cw R s)[i]?=some a/\(cw R s)[i - 1]?=some b/\(cw R s)[0]?=some z/\a<=b/\z - a<=1/\ -1000000000000<=z - a/\0<=a/\a<=1000000000000:=by
 have u:0<=s.tdiv R/\s.tdiv R<=s:=by
  rw[Int.tdiv_eq_ediv_of_nonneg hs.1];exact⟨Int.ediv_nonneg hs.1 (Int.natCast_nonneg _),Int.ediv_le_self _ hs.1⟩
 refine⟨_,_,_,tf s hi,tf s (by omega),tf s (by omega),?_,?_,?_,?_,?_⟩
 all_goals(generalize s.tdiv R=Q at*;generalize s.tmod R=M at*;repeat' split;all_goals omega)
def P6(n:Int):Cl ai 12 [.t (.int .i64 n)] [] (.t (.bool (decide (n <0)))) []:=by
 refine Cl.ao rfl Tryz.func12 rfl rfl rfl ?_;exact af
def P7{m:Md}{p:Pln}{R:Int}{c:List Int}(G:Small m):oe m p R c=([],1)\/(lz m p c=true/\(ci m p c).any (fun s=>decide (s <0))=true/\oe m p R c=([],9))\/∃N:Nat,R=N/\(1<=N/\N<=5)/\dD m p=true/\lz m p c=true/\c.all fU=true/\(∀s∈ci m p c,0<=s)/\oe m p R c=((ci m p c).map (cw N),0):=by
 unfold oe;by_cases h:dD m p=true/\(1<=R/\R<=5)/\pC m c=true
 ·
  right
  rw[if_pos h];obtain⟨D,I,u⟩:=h;unfold pC at u;rw[Bool.and_eq_true,decide_eq_true_eq]at u;have z:=FI (qU G.ok)
  have v:lz m p c=true:=by
   unfold lz;rw[D,u.2,Bool.and_true,Bool.true_and,decide_eq_true_eq];omega
  by_cases y:(ci m p c).any (fun s=>decide (s <0))=true
  ·
   left
   rw[if_pos y];exact⟨v,y,rfl⟩
  ·
   right
   rw[if_neg y];obtain⟨N,rfl⟩:=Int.eq_ofNat_of_zero_le (show 0<=R by omega);refine⟨N,rfl,by omega,D,v,u.2,fun s hs=>?_,rfl⟩;rcases Int.lt_or_le s 0 with h|h
   ·exact absurd (List.any_eq_true.2 ⟨s,hs,by simpa using h⟩) y
   ·exact h
 ·
  left
  rw[if_neg h]
def P8{m:Md}{p:Pln}{R:Int}{c:List Int}(hm:bt m)(hp:n9 p)(hc:c.length<=17592186044416):Cl ai 3 [.t (bz m),.t (ba p),.t (.int .i64 R),.t (ax c)] [] (.t (.bool true)) []:=by
 have V:=hm.eff;have k0:=F2;have u:=F0 (p:=p) (l:=[]) (E:=[]) hm V hp (by simp) (fun x h=>by cases h) (by simp) (fun x h=>by cases h);have e0:(.arr (bL []):AV)=.arr []:=rfl;have e1:(.arr (aO []):AV)=.arr []:=rfl;rw[e0,e1]at u;have a6:=aQ c
 cases G:pE m p [] []with
 |false=>
  rw[G]at u;unfold ba at u⊢;rw[aW]at u⊢;rw[bX]at u⊢;refine Cl.ao rfl Tryz.func3 rfl rfl rfl ?_;exact af
 |true=>
  rw[G]at u;by_cases aE:c.length<=60
  ·
   obtain⟨hW,hS⟩:=F3 hm V hp G;have hf:=(zY G).2.1;have v:=FY (R:=R) (c:=c) hW hS (by omega) (by omega);rcases P7 (m:=m) (p:=p) (R:=R) (c:=c) hS with I|⟨y,U,I⟩|⟨N,rfl,hN,hv,y,hcv,hpos,I⟩
   ·
    rw[I,e1]at v
    cases y:lz m p c with
    |false=>
     have ks:=Pc hW (by omega) y;unfold ba at u v ks⊢;rw[aW]at u v ks⊢;rw[bX]at u v ks⊢;refine Cl.ao rfl Tryz.func3 rfl rfl rfl ?_
     repeat'(first
|(with_reducible apply ac.seq)
|((with_reducible apply ac.text);(try case hm=>exact rfl))
|(with_reducible first|apply ac.skip|apply ac.ret|apply az|apply aV)
|((with_reducible apply ac.aA);(case hc=>exact rfl))
|((with_reducible apply ac.aH);(case hc=>exact rfl))
|((with_reducible apply aa.bc)<;>intro J)
|((with_reducible apply aa.gN);(case hp=>exact aj))
|((with_reducible apply aa.cA);(case hp=>exact aj))
|((with_reducible apply aa.fQ);(case hp=>exact aj))
|(with_reducible apply aa.ap)
|((with_reducible apply aa.gf);(case hW=>exact rfl))
|((with_reducible apply aa.aD);(case hW=>exact rfl);(case hx=>exact ah))
|((with_reducible apply aa.u0);(case hx=>first
|(exact aq k0)
|(exact aq u)
|(exact qf v)
|(exact aq ks)
|exact ah))
|fail)
     all_goals first|(exfalso;exact J rfl)|(exfalso;rename_i Z;exact Z rfl)|exact⟨.inr rfl,rfl⟩
    |true=>
     have ks:=vY hW (by omega) y (by omega);unfold ba at u v ks⊢;rw[aW]at u v ks⊢;rw[bX]at u v ks⊢;refine Cl.ao rfl Tryz.func3 rfl rfl rfl ?_
     repeat'(first
|(with_reducible apply ac.seq)
|((with_reducible apply ac.text);(try case hm=>exact rfl))
|(with_reducible first|apply ac.skip|apply ac.ret|apply az|apply aV)
|((with_reducible apply ac.aA);(case hc=>exact rfl))
|((with_reducible apply ac.aH);(case hc=>exact rfl))
|((with_reducible apply aa.bc)<;>intro J)
|((with_reducible apply aa.gN);(case hp=>exact aj))
|((with_reducible apply aa.cA);(case hp=>exact aj))
|((with_reducible apply aa.fQ);(case hp=>exact aj))
|(with_reducible apply aa.ap)
|((with_reducible apply aa.gf);(case hW=>exact rfl))
|((with_reducible apply aa.aD);(case hW=>exact rfl);(case hx=>exact ah))
|((with_reducible apply aa.u0);(case hx=>first
|(exact aq k0)
|(exact aq u)
|(exact qf v)
|(exact mJ ks)
|exact ah))
|fail)
     all_goals first|(exfalso;exact J rfl)|(exfalso;rename_i Z;exact Z rfl)|exact⟨.inr rfl,rfl⟩
   ·
    rw[I,e1]at v;have ks:=vY hW (by omega) y (by omega);have ad:(ci m p c).length=p.aw.length:=by unfold ci;rw[List.length_map]
    have kd:=Pq (C:=ci m p c) (p:=fun n=>decide (n <0)) (by omega) (fun n _=>P6 n);rw[U]at kd;generalize ci m p c=L at*
    unfold ba at u v ks⊢;rw[aW]at u v ks⊢;rw[bX]at u v ks⊢;refine Cl.ao rfl Tryz.func3 rfl rfl rfl ?_
    repeat'(first
|(with_reducible apply ac.seq)
|((with_reducible apply ac.text);(try case hm=>exact rfl))
|(with_reducible first|apply ac.skip|apply ac.ret|apply az|apply aV)
|((with_reducible apply ac.aA);(case hc=>exact rfl))
|((with_reducible apply ac.aH);(case hc=>exact rfl))
|((with_reducible apply aa.bc)<;>intro J)
|((with_reducible apply aa.gN);(case hp=>exact aj))
|((with_reducible apply aa.cA);(case hp=>exact aj))
|((with_reducible apply aa.fB);(case hp=>exact aj))
|(with_reducible apply aa.ap)
|((with_reducible apply aa.gf);(case hW=>exact rfl))
|((with_reducible apply aa.aD);(case hW=>exact rfl);(case hx=>first
|(exact aq kd)
|exact ah))
|((with_reducible apply aa.u0);(case hx=>first
|(exact aq k0)
|(exact aq u)
|(exact qf v)
|(exact mJ ks)
|exact ah))
|fail)
    all_goals first|(exfalso;exact J rfl)|(exfalso;rename_i Z;exact Z rfl)|exact⟨.inr rfl,rfl⟩
   ·
    rw[I]at v;dsimp only at v;have ks:=vY hW (by omega) y (by omega);have ad:(ci m p c).length=p.aw.length:=by unfold ci;rw[List.length_map]
    have ab:=fun s (hs:s∈ci m p c)=>FW hv hcv hs;have D:∀s∈ci m p c,0<=s/\s<=200000000000:=fun s hs=>⟨hpos s hs,(ab s hs).2⟩;clear ab hpos I
    have kt:=Pt (l:=(ci m p c).map (cw N)) (by rw[List.length_map];omega) (fun x hx=>by
     obtain⟨s,_,rfl⟩:=List.mem_map.1 hx;rw[mh];omega)
    have ag:((ci m p c).map (cw N)).map iE=ci m p c:=by
     rw[List.map_map];refine(List.map_congr_left fun s hs=>?_).trans (List.map_id _);exact P3 hN (D s hs)
    rw[ag]at kt
    have kv:=wc (p:=p) (N:Int) (l:=(ci m p c).map (cw N)) (by omega) (by rw[List.length_map];omega) (fun x hx=>by
     obtain⟨s,_,rfl⟩:=List.mem_map.1 hx;rw[mh];omega)
    have ak:iD p (N:Int) ((ci m p c).map (cw N))=true:=by
     unfold iD;rw[decide_eq_true (by omega:(1:Int)<=N),decide_eq_true (by omega:(N:Int)<=5),decide_eq_true (by rw[List.length_map];exact ad),Bool.true_and,Bool.true_and,Bool.true_and,List.all_eq_true];intro x hx;obtain⟨s,hs,rfl⟩:=List.mem_map.1 hx;rw[mh,decide_eq_true rfl,P4 (D s hs)];rfl
    rw[ak]at kv;have ke:=P1 (ci m p c) (by omega);generalize ci m p c=L at*
    have au:=jY (L.map (cw N));rw[List.length_map]at au;have a_:(L.map (cw N)).length=L.length:=List.length_map _;unfold ba at u v ks kv⊢;rw[aW]at u v ks⊢;rw[bX]at u v ks kv⊢;unfold ax at ke;refine Cl.ao rfl Tryz.func3 rfl rfl rfl ?_;refine ar ?_;refine aC.ind (fun q:Nat=>[(65,.t (.int .i64 (q:Int)))]) (fun q=>q<=L.length) (fun q=>L.length - q) 0 rfl (by omega) (fun q J=>?_);rcases Nat.lt_or_ge q L.length with h3|h3
    ·
     obtain⟨s,hs⟩:=am h3;have aS:=jv (l:=L.map (cw N)) (k:=q) (c:=cw N s) (by rw[List.getElem?_map,hs];rfl);have ay:=D s (List.mem_of_getElem? hs);have bd:=(aQ (cw N s)).trans (mh N s);have bb:=mh N s;refine ar ?_;refine aC.ind (fun k:Nat=>[(14,.t (.int .i64 (k:Int)))]) (fun k=>1<=k/\k<=N) (fun k=>N - k) 1 rfl (by omega) (fun k hk=>?_);obtain⟨al,a1⟩:=hk;rcases Nat.lt_or_ge k N with h4|h4
     ·
      obtain⟨a,b,z,ha,hb,hz,aR,be,bf,aI,aL⟩:=P5 ay al h4;have g1:=aU ha;have g2:=aU hb;have g3:=aU hz;have an:((k:Int) - 1).toNat=k - 1:=by omega
      rw[<- an]at g2;exact af
     ·
      exact af
    ·
     exact af
  ·
   unfold ba at u⊢;rw[aW]at u⊢;rw[bX]at u⊢;refine Cl.ao rfl Tryz.func3 rfl rfl rfl ?_;exact af
end Go.Proofs.YtjolgbkkocjpgaaGreatDoor
