/- slices. No condition. -/
import Derived.Test.YtcgdbhlnkificaaGreatDoorTLB
import Derived.Test.YtcgdbhlnkificaaGreatDoorTUD
import Derived.Test.YtcgdbhlnkificaaGreatDoorTPJ
set_option linter.all false
namespace Go.Proofs.YtcgdbhlnkificaaGreatDoor
open Go.RowKit
set_option maxRecDepth 100000
set_option maxHeartbeats 16000000
def LL(fr:Fr)(m n:Int):gZ aj.P fr 22 (.t (.int .i64 m)) (.t (.int .i64 n))=match decide (0<=m)&&decide (m<=n)&&Nat.ble (n.toNat*8) 281474976710656&&Nat.ble n.toNat 140737488351232 with
  |true=>some (.ls fr.length,fr++[.row false false 1 (List.replicate m.toNat [.int .i64 0])],[])
  |false=>none:=by kernel_rfl
def LK{fr:Fr}{n:Nat}(h:n<=1000):gZ aj.P fr 22 (.t (.int .i64 (n:Int))) (.t (.int .i64 (n:Int)))=some (.ls fr.length,fr++[.row false false 1 (List.replicate n [.int .i64 0])],[]):=by
 have e:(decide (0<=(n:Int))&&decide ((n:Int)<=n)&&Nat.ble ((n:Int).toNat*8) 281474976710656&&Nat.ble (n:Int).toNat 140737488351232)=true:=by
  rw[Int.toNat_natCast];have h1:Nat.ble (n*8) 281474976710656=true:=by rw[Nat.ble_eq];omega
  have h2:Nat.ble n 140737488351232=true:=by rw[Nat.ble_eq];omega
  rw[h1,h2];simp
 rw[LL,e];simp
def Fv:eQ aj.P 22=some (3,1,8):=by kernel_rfl
def dI(x:Int)(N m:Nat):List (List AV):=aL (List.replicate m x++List.replicate (N - m) 0)
def E7{x:Int}{N m:Nat}(h:m<=N):(dI x N m).length=N:=by unfold dI;rw[aW];simp;omega
def NQ{x:Int}{N:Nat}:List.replicate N [AV.int .i64 0]=dI x N 0:=by unfold dI aL;simp
def NR{x:Int}{N:Nat}:dI x N N=aL (List.replicate N x):=by unfold dI;simp
def E9{x:Int}{N m k:Nat}(h:k<=m):(dI x N m).take k=aL (List.replicate k x):=by
 unfold dI aL;rw[<- List.map_take,List.take_append_of_le_length (by simpa using h),List.take_replicate,Nat.min_eq_left h]
def E8{x:Int}{N m k:Nat}(hk:m+k<=N):(dI x N m).take m++aL (List.replicate k x)++(dI x N m).drop (m+k)=dI x N (m+k):=by
 rw[E9 (Nat.le_refl _)];unfold dI aL;rw[<- List.map_drop,<- List.map_append,<- List.map_append];congr 1;rw[List.replicate_append_replicate];congr 1;rw[List.drop_append];simp;omega
def PO{x:Int}{m k:Nat}(h:k<=m):(aL (List.replicate m x)).take k=aL (List.replicate k x):=by
 unfold aL;rw[<- List.map_take,List.take_replicate,Nat.min_eq_left h]
def Ps{x:Int}{N:Nat}(h1:1<=N)(hN:N<=216):Cl aj 38 [.t (.arr [[.int .i64 x]]),.t (.int .i64 (N:Int))] [] (.ls 0) [.row false false 1 (aL (List.replicate N x))]:=by
 have V:gZ aj.P [] 22 (.t (.int .i64 (N:Int))) (.t (.int .i64 (N:Int)))=some (.ls 0,[.row false false 1 (dI x N 0)],[]):=by
  rw[<- NQ];exact LK (fr:=[]) (by omega)
 have km:=DS hN;rw[<- NR (x:=x)]
 have J:jr aj.P [.row false false 1 (dI x N 0)] 22 (.ls 0) (.t (.arr [[.int .i64 x]]))=some (.t (.int .i64 ((1:Nat):Int)),[.row false false 1 (dI x N 1)],[]):=by
  have D:gO [.row false false 1 (dI x N 0)] (.t (.arr [[.int .i64 x]]))=some (aL (List.replicate 1 x)):=rfl;rw[BU Fv rfl D (D0 _),E7 (Nat.zero_le _)];have y:(aL (List.replicate 1 x)).length=1:=rfl;have e3:Nat.min 1 N=1:=Nat.min_eq_left h1;have G:(aL (List.replicate 1 x)).take N=aL (List.replicate 1 x):=List.take_of_length_le (by rw[y];exact h1);have I:=E8 (x:=x) (N:=N) (m:=0) (k:=1) (by omega);rw[y,e3,G,I];rfl
 refine Cl.ap rfl Tryz.func38 rfl rfl rfl ?_
 repeat'(first
|(refine a8 ?_)
|(refine aw ?_)
|((with_reducible apply aa.av);(case hW=>exact rfl);(case hx=>exact ae))
|((with_reducible apply aa.u0);(case hx=>first
|((with_reducible apply af.BX);(case hx|hs|hd=>exact rfl);(case h=>omega))
|((with_reducible apply af.BW);(case hx|hs|hd=>exact rfl);(case h=>omega))
|((with_reducible apply af.dY);(case hs=>exact fun _=>rfl);(case hl|hc|hd=>exact rfl);(case hm=>exact V);(case hf=>exact leq))
|((with_reducible apply af.uL);(case hs=>exact fun _=>rfl);(case ha|ht|hx|hy=>exact rfl);(case hm=>exact J);(case hf=>exact leq))
|(exact ai km)
|exact ae))
|fail)
 apply ac.cR
 case ho=>exact rfl
 case hp=>exact rfl
 case hl=>exact rfl
 case hs=>exact slt
 refine az.c8 (fun m:Nat=>[(8,.t (.int .i64 (m:Int)))]) (fun m=>[.row false false 1 (dI x N m)]) (fun m=>1<=m/\m<=N) (fun m=>N - m) 1 rfl rfl ⟨by omega,h1⟩ (fun m hm=>?_);obtain⟨g1,g2⟩:=hm;have v:=E7 (x:=x) g2;have Z:(List.replicate m x++List.replicate (N - m) (0:Int)).length=N:=by simp;omega
 rcases Nat.lt_or_ge m N with g3|g3
 ·
  obtain⟨k,z⟩:∃k,Nat.min m (N - m)=k:=⟨_,rfl⟩
  have ab:k<=m/\k<=N - m/\1<=k:=by
   rw[<- z];have h1:=Nat.min_def (n:=m) (m:=N - m);have h2:Nat.min m (N - m)=min m (N - m):=rfl;rw[h2];omega
  have v1:jg 0 1 0 (dI x N m).length (dI x N m).length (some (.t (.int .i64 (m:Int)))) none=some (.lv 0 1 m (N - m)):=by rw[v];exact GK (by omega) g3
  have v2:jg 0 1 0 (dI x N m).length (dI x N m).length none (some (.t (.int .i64 (m:Int))))=some (.lv 0 1 0 m):=by rw[v];exact GJ g3
  have U:jr aj.P [.row false false 1 (dI x N m)] 22 (.lv 0 1 m (N - m)) (.lv 0 1 0 m)=some (.t (.int .i64 (k:Int)),[.row false false 1 (dI x N (m+k))],[]):=by
   have D:gO [.row false false 1 (dI x N m)] (.lv 0 1 0 m)=some (aL (List.replicate m x)):=by
    show kQ [.row false false 1 (dI x N m)] 0 1 0 m=_
    have hb:Nat.ble (0+m) (dI x N m).length=true:=by rw[Nat.ble_eq,v];omega
    unfold kQ;simp only[List.getElem?_cons_zero,Nat.beq_refl,hb,Bool.and_self,List.drop_zero,E9 (Nat.le_refl m)]
   rw[BV Fv rfl D (D0 _) (by rw[v];omega)];have y:(aL (List.replicate m x)).length=m:=by rw[aW];simp
   have G:(aL (List.replicate m x)).take (N - m)=aL (List.replicate k x):=by
    rcases Nat.le_total m (N - m)with h|h
    ·have:k=m:=by rw[<- z];exact Nat.min_eq_left h
     rw[this];exact List.take_of_length_le (by rw[y];exact h)
    ·have:k=N - m:=by rw[<- z];exact Nat.min_eq_right h
     rw[this];exact PO h
   have I:=E8 (x:=x) (N:=N) (m:=m) (k:=k) (by omega);rw[y,z,G,I];rfl
  repeat'(first
|((with_reducible apply aa.aF);(case hp=>exact ak))
|(refine aw ?_)
|((with_reducible apply ay.u);(case hfl=>kernel_rfl);(case hx=>first
|((with_reducible apply af.wx);(case he=>first|(with_reducible exact na)|(with_reducible exact el1)|(with_reducible exact nc)|(with_reducible exact el3)|(with_reducible exact el4)|(with_reducible exact ng)|(with_reducible exact el6)|(with_reducible exact el7)|exact rfl);(case hx|hl|hh|hb=>exact rfl);(case hv=>exact v1))
|((with_reducible apply af.wx);(case he=>first|(with_reducible exact na)|(with_reducible exact el1)|(with_reducible exact nc)|(with_reducible exact el3)|(with_reducible exact el4)|(with_reducible exact ng)|(with_reducible exact el6)|(with_reducible exact el7)|exact rfl);(case hx|hl|hh|hb=>exact rfl);(case hv=>exact v2))
|((with_reducible apply af.uL);(case hs=>exact fun _=>rfl);(case ha|ht|hx|hy=>exact rfl);(case hm=>exact U);(case hf=>exact leq))
|exact ae))
|((with_reducible apply aa.u0);(case hx=>exact ae))
|fail)
  exact⟨m+k,by rw[Int.natCast_add];rfl,rfl,⟨by omega,by omega⟩,by omega⟩
 ·
  obtain rfl:m=N:=by omega
  exact ah
set_option maxHeartbeats 32000000
def dw(R:Nat):List Int:=List.replicate R 1
def Pr{N:Nat}(h1:1<=N)(u:N<=5):Cl aj 38 [.t (.arr [[.int .i64 1]]),.t (.int .i64 (N:Int))] [] (.ls 0) [.row false false 1 (aL (dw N))]:=Ps h1 (by omega)
def C1{m:Md}{p:Pln}{R:Nat}{q:Nat}(h:q <p.aA.length):(iY m p (R:Int)).take (q+1)=(iY m p (R:Int)).take q++[List.replicate (eu m p (q:Int)).toNat (dw R)]:=by
 have u:(iY m p (R:Int))[q]?=some (List.replicate (eu m p (q:Int)).toNat (dw R)):=by
  unfold iY dw;rw[List.getElem?_map,List.getElem?_range h];rfl
 rw[List.take_add_one,u];rfl
def yC(m:Md)(p:Pln)(R:Int):(iY m p R).length=p.aA.length:=by unfold iY;simp
def z6{α:Type}(x:α)(n:Nat):List.replicate n x++[x]=List.replicate (n+1) x:=List.replicate_succ'.symm
def FQ{m:Md}{p:Pln}{R:Int}(h:PW m p):Cl aj 12 [.t (bN m),.t (a_ p),.t (.int .i64 R)] [] (.t (.aN [.arr (aU (mI m p R).1),.int .i64 (mI m p R).2])) []:=by
 have y:=h.v;have aT:=kP p.aA;have an:=h.pl.aA;unfold mI
 cases hv:cy m p with
 |false=>
  rw[hv]at y;rw[if_neg (by simp)];unfold a_ at y⊢;rw[aZ,bK]at y⊢;refine Cl.gr rfl Tryz.func12 rfl rfl rfl ?_
  repeat'(first
|(with_reducible apply ac.seq)
|((with_reducible apply ac.text);(try case hm=>exact rfl))
|(with_reducible first|apply ac.ret|apply bL)
|((with_reducible apply ac.aR);(case hc=>exact rfl))
|(with_reducible apply aa.aB)
|((with_reducible apply aa.gf);(case hW=>exact rfl))
|((with_reducible apply aa.u0);(case hx=>first
|(exact ai y)
|exact ae))
|fail)
  exact⟨.inr rfl,rfl⟩
 |true=>
  rw[hv]at y;by_cases hR:1<=R/\R<=5
  ·
   rw[if_pos ⟨rfl,hR⟩];obtain⟨ap,au⟩:=hR;obtain⟨N,rfl⟩:=Int.eq_ofNat_of_zero_le (show 0<=R by omega);have al:=(kU.1 hv).gb;have I:=fun(i:Int)=>zw (i:=i) h;have z:=qI m p;have D:=fun(q:Nat) (V:q <p.aA.length)=>C1 (m:=m) (p:=p) (R:=N) V;have Z:=yC m p (N:Int);dsimp only;generalize iY m p (N:Int)=L at D Z⊢;have kr:=Pr (N:=N) (by omega) (by omega);unfold a_ at y I⊢;rw[bK]at y I⊢;rw[aZ]at y I⊢;refine Cl.gr rfl Tryz.func12 rfl rfl rfl ?_
   repeat'(first
|(with_reducible first|apply ac.seq|apply ac.block)
|((with_reducible apply ac.text);(try case hm=>exact rfl))
|(with_reducible first|apply ac.skip|apply aH)
|((with_reducible apply ac.aY);(case hc=>exact rfl))
|((with_reducible apply aa.c_);(case hp=>exact ak))
|(with_reducible apply aa.aB)
|((with_reducible apply aa.av);(case hW=>exact rfl);(case hx=>exact ae))
|((with_reducible apply aa.u0);(case hx=>first
|(exact ai y)
|exact ae))
|fail)
   apply ac.cR
   case ho=>exact rfl
   case hp=>exact rfl
   case hl=>exact rfl
   case hs=>exact slt
   refine az.c8 (fun x:Nat×Bool=>[(8,.ls 2),(26,.t (.int .i64 (x.1:Int)))]) (fun x=>[.box false 30 (([aD m.ao,.arr (bC m.tables),.arr (cq m.bH),.arr (fk m.cons),.arr (fv m.ops),.arr (eg m.ax),.arr (c7 m.aG)]:List AV).map .t),.box false 35 (([.arr (gJ p.aM),.arr (fM p.aA),.arr (cM p.places),aD p.bj]:List AV).map .t),.row false x.2 1 (aU (L.take x.1))]) (fun x=>x.1<=p.aA.length) (fun x=>p.aA.length - x.1) (0,false) rfl rfl (Nat.zero_le _) (fun x V=>?_);obtain⟨q,ag⟩:=x;dsimp only at V⊢;rcases Nat.lt_or_ge q p.aA.length with h5|h5
   ·
    have I:=I (q:Int);have z:=z (q:Int);have G:=D q h5;obtain⟨E,hE⟩:∃E,eu m p (q:Int)=E:=⟨_,rfl⟩;rw[hE]at I z G;obtain⟨E,rfl⟩:=Int.eq_ofNat_of_zero_le z.1;rw[Int.toNat_natCast]at G
    repeat'(first
|(with_reducible first|apply ac.seq|apply ac.block)
|((with_reducible apply ac.text);(try case hm=>exact rfl))
|(with_reducible first|apply ac.skip|apply aH)
|((with_reducible apply ac.aR);(case hc=>exact rfl))
|((with_reducible apply aa.aF);(case hp=>exact ak))
|(with_reducible apply aa.aB)
|((with_reducible apply aa.u0);(case hx=>first
|(exact ai I)
|exact ae))
|fail)
    apply ac.cR
    case ho=>exact rfl
    case hp=>exact rfl
    case hl=>exact rfl
    case hs=>exact slt
    refine az.c8 (fun x:Nat×Bool=>[(10,.ls 3),(33,.t (.int .i64 (x.1:Int)))]) (fun x=>[.box false 30 (([aD m.ao,.arr (bC m.tables),.arr (cq m.bH),.arr (fk m.cons),.arr (fv m.ops),.arr (eg m.ax),.arr (c7 m.aG)]:List AV).map .t),.box false 35 (([.arr (gJ p.aM),.arr (fM p.aA),.arr (cM p.places),aD p.bj]:List AV).map .t),.row false ag 1 (aU (L.take q)),.row false x.2 1 (bA (List.replicate x.1 (dw N)))]) (fun x=>x.1<=E) (fun x=>E - x.1) (0,false) rfl rfl (Nat.zero_le _) (fun x hk=>?_);obtain⟨k,tc⟩:=x;dsimp only at hk⊢;rcases Nat.lt_or_ge k E with h7|h7
    ·
     have J:bA (List.replicate k (dw N))++bA [dw N]=bA (List.replicate (k+1) (dw N)):=by
      rw[<- z6];unfold bA;rw[List.map_append]
     have ab:cn ((bA (List.replicate k (dw N))).length+1) 24=true:=oA (by rw[nV,List.length_replicate];omega) (by decide)
     repeat'(first
|(with_reducible first|apply ac.seq|apply ac.block)
|((with_reducible apply ac.text);(try case hm=>exact rfl))
|(with_reducible first|apply ac.skip|apply aH)
|((with_reducible apply ac.aR);(case hc=>exact rfl))
|((with_reducible apply aa.aF);(case hp=>exact ak))
|(with_reducible first|apply aa.aB|apply aa.dF)
|((with_reducible apply aa.u);(case hx=>((with_reducible apply af.ei);(case hs=>exact fun _=>rfl);(case ha|ht=>exact rfl);(case hr=>first|(with_reducible exact ec)|(with_reducible exact rw1)|(with_reducible exact ed)|(with_reducible exact rw3)|(with_reducible exact rw4)|exact rfl);(case hx|hy|hn|hb|hok=>exact rfl);(case hlen=>exact ab);(case hv=>exact J);(case hk=>exact ez);(case hf=>exact leq))))
|((with_reducible apply aa.u0);(case hx=>first
|((with_reducible apply af.jo (es:=[[.int .i64 1]]));(case hw|ho|h=>exact rfl))
|((with_reducible apply af.uE (x:=.tc (bA [dw N])));(case hs=>exact fun _=>rfl);(case hw=>exact rfl);(case h0=>kernel_rfl);(case ht|hx=>exact rfl);(case hf=>exact leq);(case hp=>kernel_rfl))
|(exact iG kr)
|exact ae))
|fail)
     exact⟨(k+1,true),rfl,rfl,by dsimp only;omega,by dsimp only;omega⟩
    ·
     obtain rfl:k=E:=by omega
     have U:aU (L.take q)++aU [List.replicate k (dw N)]=aU (L.take (q+1)):=by
      rw[G];unfold aU;rw[List.map_append]
     have ad:cn ((aU (L.take q)).length+1) 24=true:=oA (by rw[mH,List.length_take];omega) (by decide)
     repeat'(first
|(with_reducible apply ac.seq)
|((with_reducible apply ac.text);(try case hm=>exact rfl))
|(with_reducible first|apply ac.exit|apply aH|apply da|apply cY)
|((with_reducible apply ac.aY);(case hc=>exact rfl))
|((with_reducible apply aa.bk);(case hp=>exact ak))
|(with_reducible first|apply aa.aB|apply aa.dF)
|((with_reducible apply aa.u);(case hx=>((with_reducible apply af.ei);(case hs=>exact fun _=>rfl);(case ha|ht=>exact rfl);(case hr=>first|(with_reducible exact ec)|(with_reducible exact rw1)|(with_reducible exact ed)|(with_reducible exact rw3)|(with_reducible exact rw4)|exact rfl);(case hx|hy|hn|hb|hok=>exact rfl);(case hlen=>exact ad);(case hv=>exact U);(case hk=>exact ez);(case hf=>exact leq))))
|((with_reducible apply aa.u0);(case hx=>first
|((with_reducible apply af.uE (x:=.tc (aU [List.replicate k (dw N)])));(case hs=>exact fun _=>rfl);(case hw=>exact rfl);(case h0=>kernel_rfl);(case ht|hx=>exact rfl);(case hf=>exact leq);(case hp=>kernel_rfl))
|exact ae))
|fail)
     exact⟨(q+1,true),rfl,rfl,by dsimp only;omega,by dsimp only;omega⟩
   ·
    rw[List.take_of_length_le (by omega)]
    repeat'(first
|(with_reducible apply ac.seq)
|((with_reducible apply ac.text);(try case hm=>exact rfl))
|(with_reducible first|apply ac.exit|apply ac.ret|apply aH|apply da|apply cY)
|((with_reducible apply ac.aY);(case hc=>exact rfl))
|((with_reducible apply aa.bk);(case hp=>exact ak))
|(with_reducible apply aa.aB)
|((with_reducible apply aa.u0);(case hx=>exact ae))
|fail)
    exact⟨.inr rfl,rfl⟩
  ·
   rw[if_neg (fun hh=>hR hh.2)];unfold a_ at y⊢;rw[aZ,bK]at y⊢;refine Cl.gr rfl Tryz.func12 rfl rfl rfl ?_
   repeat'(first
|(with_reducible apply ac.seq)
|((with_reducible apply ac.text);(try case hm=>exact rfl))
|(with_reducible first|apply ac.ret|apply bL)
|((with_reducible apply ac.aR);(case hc=>exact rfl))
|((with_reducible apply aa.cj);(case hp=>exact ak))
|((with_reducible apply aa.bi)<;>intro V)
|(with_reducible apply aa.aB)
|((with_reducible apply aa.gf);(case hW=>exact rfl))
|((with_reducible apply aa.av);(case hW=>exact rfl);(case hx=>exact ae))
|((with_reducible apply aa.u0);(case hx=>first
|(exact ai y)
|exact ae))
|fail)
   all_goals first|exact⟨.inr rfl,rfl⟩|(exfalso;omega)
end Go.Proofs.YtcgdbhlnkificaaGreatDoor
