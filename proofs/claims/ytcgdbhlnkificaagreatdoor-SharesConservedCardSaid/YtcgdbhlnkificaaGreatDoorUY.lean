/- Law 40: SharesConserved: the law's function answers true. No condition. -/
import Derived.Test.YtcgdbhlnkificaaGreatDoorTUV
set_option linter.all false
namespace Go.Proofs.YtcgdbhlnkificaaGreatDoor
open Go.RowKit
set_option maxRecDepth 100000
set_option maxHeartbeats 32000000
def Tl{l:List Ev}{c:List Int}(h:ClosedP l)(hc:ClosedP (j4 l c)):Down l fun e=>hasS c e.r e.n:=fun e I u f J y=>by
 have v:e∈j4 l c:=List.mem_filter.2 ⟨I,u⟩;obtain⟨x,U,z,_,_⟩:=hc.down e v f.r f.n y;obtain⟨G,D⟩:=List.mem_filter.1 U;obtain rfl:=L8 h.names G J (by rw[z];rfl);exact D
def TK{m:Md}{p:Pln}{l:List Ev}{c:List Int}(hm:bx m)(hp:nO p)(hE:l.length<=17592186044416)(he:∀e∈l,e.past.length<=17592186044416)(hcl:c.length<=17592186044416):Cl aj 8 [.t (bN m),.t (a_ p),.t (.arr (b8 l)),.t (aD c)] [] (.t (.bool true)) []:=by
 have bd:=hm.eff;have k0:=FB;have u:=Cy (p:=p) hm bd hp (l:=[]) (E:=l) (by simp) (fun x h=>by cases h) (by omega) (fun e h=>by have:=he e h;omega);have e1:(.arr (bA []):AV)=.arr []:=rfl;rw[e1]at u;have dc:=pn l;have dr:=aW c;have U:=Qk (xs:=c) (by omega);by_cases ax:oc m p [] l=true/\l.length<=30
 ·
  obtain⟨au,al⟩:=ax;rw[au]at u;obtain⟨hW,hS⟩:=Cz hm bd hp au;obtain⟨bZ,hf,_,_⟩:=RQ au;have bb:∀e∈l,e.past.length<=8:=(CC bZ).2.2.2.1;rcases SI hW (by omega) al bb with⟨e0,ao,hH,D⟩|D
  ·
   have bl:=List.mem_of_getElem? ao;have aT:=RB ao;have c8:=aC ao;have dd:=aW e0.past;by_cases aA:je c=true/\c.length=e0.past.length
   ·
    obtain⟨hv,a1⟩:=aA;rw[hv]at U;have hC:=hH.cl;have ab:∀e∈l,e.past.length=c.length:=fun e he=>by rw[hC.alike e he e0 bl,a1]
    have an:1<=c.length/\c.length<=5:=by simp[je]at hv;omega
    obtain⟨bH,an⟩:=an;obtain⟨v1,v2,w1,w2⟩:=Tn hC ab hv rfl;have kk:=Ts hC ab bH an;have bt:=RJ c.length l;obtain⟨A,hA⟩:∃A,pM c.length l=A:=⟨_,rfl⟩;rw[hA]at v1 v2 w1 w2 kk bt;have km:=TO (a:=c) (b:=A) (RZ hv v1 (by omega)) (by omega);have be:(List.zipWith min c A).length=c.length:=by simp;omega
    obtain⟨V,aX⟩:∃V,List.zipWith min c A=V:=⟨_,rfl⟩;rw[aX]at v2 w1 w2 km be;have k1:=R5 (l:=l) (c:=V) (by omega) (by omega);have hX:∀e∈j4 l V,e∈l:=fun e he=>(List.mem_filter.1 he).1;obtain⟨X,aM⟩:∃X,j4 l V=X:=⟨_,rfl⟩;rw[aM]at w1 w2 k1 hX;have cc:=pn X;have cf:X.length<=30:=by rw[<- aM];exact Nat.le_trans (List.length_filter_le _ _) al
    have hN:=a1.symm;have I:=hH;rw[hN]at I D;have b3:=Gj I.v0;have v:=fun(R:Int) (E:List Ev) (hE:E.length<=30) (bm:∀e∈E,e.past.length<=8)=>FJ (R:=R) (l:=iY m p c.length) (E:=E) hW b3 (by omega) (fun e he=>by have:=bm e he;omega);have G:=fun(R:Int) (z:aO) (hz:Rm z)=>tU (R:=R) (l:=z) hW hz;unfold a_ at u D v G⊢;rw[bK]at u D v G⊢;rw[aZ]at u D v G⊢;unfold cx at aT;refine Cl.ap rfl Tryz.func8 rfl rfl rfl ?_
    repeat'(first
|(with_reducible first|apply ac.seq|apply ac.block)
|((with_reducible apply ac.text);(try case hm=>exact rfl))
|(with_reducible first|apply ac.skip|apply aH)
|((with_reducible apply ac.aY);(case hc=>exact rfl))
|((with_reducible apply aa.dK);(case hp=>exact ak))
|((with_reducible apply aa.c_);(case hp=>exact ak))
|((with_reducible apply aa.iL);(case hp=>exact ak))
|(with_reducible apply aa.aB)
|((with_reducible apply aa.av);(case hW=>exact rfl);(case hx=>first
|(exact ai U)
|exact ae))
|((with_reducible apply aa.u0);(case hx=>first
|((with_reducible apply af.uE (x:=.tc (bA [c,A])));(case hs=>exact fun _=>rfl);(case hw=>exact rfl);(case h0=>kernel_rfl);(case ht|hx=>exact rfl);(case hf=>exact leq);(case hp=>kernel_rfl))
|((with_reducible apply af.BH);(case hcal|hav|hx|hh|hm=>exact rfl);(case hcl=>exact k1);(case hd|hf'|hn=>exact rfl);(case hf=>exact leq))
|(exact ai k0)
|(exact ai u)
|(exact di D)
|(exact iG kk)
|(exact iG km)
|exact ae))
|fail)
    apply ac.cR
    case ho=>exact rfl
    case hp=>exact rfl
    case hl=>exact rfl
    case hs=>exact slt
    refine az.ind (fun q:Nat=>[(3,.t (aD (Q3 (X.take q) V))),(76,.t (.int .i64 (q:Int)))]) (fun q=>q<=X.length) (fun q=>X.length - q) 0 rfl (Nat.zero_le _) (fun q hq=>?_);obtain⟨j1,j2,_⟩:=Se (m:=c.length) (X.take q) V v2 be (fun e he=>⟨Jv (hC.form e (hX e (List.mem_of_mem_take he))),ab e (hX e (List.mem_of_mem_take he))⟩);rcases Nat.lt_or_ge q X.length with q3|q3
    ·
     obtain⟨x,hx⟩:=am q3;have a6:=RB hx;have bi:=hX x (List.mem_of_getElem? hx);have J:=TG (c:=V) hx;obtain⟨d,hd⟩:∃d,Q3 (X.take q) V=d:=⟨_,rfl⟩;rw[hd]at J j1 j2⊢;have kj:=TH (a:=d) (b:=x.past) (RZ j1 (Jv (hC.form x bi)) (by rw[j2,ab x bi])) (by omega);unfold cx at a6
     repeat'(first
|(with_reducible first|apply ac.seq|apply ac.block)
|((with_reducible apply ac.text);(try case hm=>exact rfl))
|(with_reducible first|apply ac.skip|apply aH)
|((with_reducible apply ac.aR);(case hc=>exact rfl))
|((with_reducible apply aa.aF);(case hp=>exact ak))
|(with_reducible first|apply aa.aB|apply aa.dF)
|((with_reducible apply aa.u0);(case hx=>first
|((with_reducible apply af.jo (es:=bA [d,x.past]));(case hw=>exact rfl);(case ho=>kernel_rfl);(case h=>kernel_rfl))
|(exact iG kj)
|exact ae))
|fail)
     refine⟨q+1,?_,rfl,by omega,by omega⟩;rw[J];rfl
    ·
     rw[List.take_of_length_le q3]at j1 j2⊢;obtain⟨d,hd⟩:∃d,Q3 X V=d:=⟨_,rfl⟩;rw[hd]at j1 j2 w1 w2⊢;have c7:=aW d;have k2:=R5 (l:=l) (c:=d) (by omega) (by omega);have bS:=Tl hC w1;obtain⟨ad,b7⟩:=I.part bS;have bo:(j4 l d).length<=30:=Nat.le_trans (List.length_filter_le _ _) al;have v:=v (d.length:Int) (j4 l d) bo (fun e he=>bb e (List.mem_filter.1 he).1)
     have b2:jd m p (d.length:Int) (iY m p c.length) (j4 l d)=(td m p c.length l fun e=>hasS d e.r e.n,0):=by
      rw[j2];unfold jd;rw[if_pos ⟨I.v0,List.all_eq_true.2 fun e he=>(I.at (List.mem_filter.1 he).1).1⟩];rfl
     rw[b2]at v;dsimp only at v;have G:=G (d.length:Int) _ (Gj ad);rw[show cT m p (d.length:Int) (td m p c.length l fun e=>hasS d e.r e.n)=true by rw[j2];exact ad]at G;obtain⟨_,hR,ct,bf⟩:=lU.1 ad;have aN:=Gj ad;generalize(td m p c.length l fun e=>hasS d e.r e.n)=Z at*
     generalize j4 l d=Y at*
     have ch:=pn Y;have df:=mH Z;have cp:=aN.1
     repeat'(first
|(with_reducible first|apply ac.seq|apply ac.block)
|((with_reducible apply ac.text);(try case hm=>exact rfl))
|((with_reducible apply ac.drawn);(case hm=>exact rfl))
|(with_reducible first|apply ac.skip|apply ac.exit|apply aH|apply da|apply cY)
|((with_reducible apply ac.aY);(case hc=>exact rfl))
|((with_reducible apply aa.bk);(case hp=>exact ak))
|((with_reducible apply aa.dK);(case hp=>exact ak))
|(with_reducible apply aa.aB)
|((with_reducible apply aa.av);(case hW=>exact rfl);(case hx=>first
|(exact ai G)
|exact ae))
|((with_reducible apply aa.u0);(case hx=>first
|(exact di k2)
|(exact di v)
|exact ae))
|fail)
     apply ac.cR
     case ho=>exact rfl
     case hp=>exact rfl
     case hl=>exact rfl
     case hs=>exact slt
     refine az.ind (fun q:Nat=>[(111,.t (.int .i64 (q:Int)))]) (fun q=>q<=Z.length) (fun q=>Z.length - q) 0 rfl (Nat.zero_le _) (fun q hq=>?_);rcases Nat.lt_or_ge q Z.length with h5|h5
     ·
      obtain⟨x,ag⟩:=am h5;have a6:=mG ag;have ea:=nV x;have ej:=(aN.2 x (List.mem_of_getElem? ag)).1
      repeat'(first
|(with_reducible first|apply ac.seq|apply ac.block)
|((with_reducible apply ac.text);(try case hm=>exact rfl))
|(with_reducible first|apply ac.skip|apply aH)
|((with_reducible apply ac.aR);(case hc=>exact rfl))
|((with_reducible apply aa.aF);(case hp=>exact ak))
|(with_reducible apply aa.aB)
|((with_reducible apply aa.u0);(case hx=>exact ae))
|fail)
      apply ac.cR
      case ho=>exact rfl
      case hp=>exact rfl
      case hl=>exact rfl
      case hs=>exact slt
      refine az.ind (fun k:Nat=>[(117,.t (.int .i64 (k:Int)))]) (fun k=>k<=x.length) (fun k=>x.length - k) 0 rfl (Nat.zero_le _) (fun k hk=>?_);rcases Nat.lt_or_ge k x.length with h6|h6
      ·
       obtain⟨y,aG⟩:=am h6;have c0:=lf aG;have eb:=aW y;obtain⟨ek,bj⟩:=(bf q x ag).2 y (List.mem_of_getElem? aG);have en:=b7 x (List.mem_of_getElem? ag) y (List.mem_of_getElem? aG);have b4:=fun j:Nat=>Sm (y:=y.take j) (b:=5) (fun n hn=>by have:=bj n (List.mem_of_mem_take hn);omega)
       repeat'(first
|(with_reducible first|apply ac.seq|apply ac.block)
|((with_reducible apply ac.text);(try case hm=>exact rfl))
|(with_reducible first|apply ac.skip|apply aH)
|((with_reducible apply ac.aR);(case hc=>exact rfl))
|((with_reducible apply aa.aF);(case hp=>exact ak))
|(with_reducible apply aa.aB)
|((with_reducible apply aa.u0);(case hx=>exact ae))
|fail)
       apply ac.cR
       case ho=>exact rfl
       case hp=>exact rfl
       case hl=>exact rfl
       case hs=>exact slt
       refine az.ind (fun j:Nat=>[(20,.t (.int .i64 (j0 (y.take j)))),(123,.t (.int .i64 (j:Int)))]) (fun j=>j<=y.length) (fun j=>y.length - j) 0 rfl (Nat.zero_le _) (fun j hj=>?_);have b5:=b4 j;have dY:(y.take j).length<=5:=by rw[List.length_take];omega
       rcases Nat.lt_or_ge j y.length with h7|h7
       ·
        obtain⟨n,hn⟩:=am h7;have cC:=bg hn;have ef:=bj n (List.mem_of_getElem? hn);have J:=S0 hn;generalize j0 (y.take j)=T at b5 J⊢
        repeat'(first
|(with_reducible first|apply ac.seq|apply ac.block)
|((with_reducible apply ac.text);(try case hm=>exact rfl))
|(with_reducible first|apply ac.skip|apply aH)
|((with_reducible apply ac.aR);(case hc=>exact rfl))
|((with_reducible apply aa.aF);(case hp=>exact ak))
|(with_reducible first|apply aa.aB|apply aa.dF)
|((with_reducible apply aa.u0);(case hx=>exact ae))
|fail)
        exact⟨j+1,by rw[J];rfl,rfl,by omega,by omega⟩
       ·
        rw[List.take_of_length_le h7]
        repeat'(first
|(with_reducible apply ac.seq)
|((with_reducible apply ac.text);(try case hm=>exact rfl))
|(with_reducible first|apply ac.skip|apply ac.exit|apply aH|apply da|apply fH|apply cY)
|((with_reducible apply ac.aY);(case hc=>exact rfl))
|((with_reducible apply aa.bk);(case hp=>exact ak))
|((with_reducible apply aa.dK);(case hp=>exact ak))
|(with_reducible apply aa.aB)
|((with_reducible apply aa.u0);(case hx=>exact ae))
|fail)
        exact⟨k+1,rfl,rfl,by omega,by omega⟩
      ·
       repeat'(first
|(with_reducible apply ac.seq)
|((with_reducible apply ac.text);(try case hm=>exact rfl))
|(with_reducible first|apply ac.exit|apply aH|apply da|apply fH|apply cY)
|((with_reducible apply ac.aY);(case hc=>exact rfl))
|((with_reducible apply aa.bk);(case hp=>exact ak))
|(with_reducible apply aa.aB)
|((with_reducible apply aa.u0);(case hx=>exact ae))
|fail)
       exact⟨q+1,rfl,rfl,by omega,by omega⟩
     ·
      repeat'(first
|(with_reducible apply ac.seq)
|((with_reducible apply ac.text);(try case hm=>exact rfl))
|(with_reducible first|apply ac.exit|apply ac.ret|apply aH|apply da|apply cY)
|((with_reducible apply ac.aY);(case hc=>exact rfl))
|((with_reducible apply aa.bk);(case hp=>exact ak))
|(with_reducible apply aa.aB)
|((with_reducible apply aa.u0);(case hx=>exact ae))
|fail)
      exact⟨.inr rfl,rfl⟩
   ·
    obtain⟨b,hb⟩:∃b,je c=b:=⟨_,rfl⟩;rw[hb]at U aA;unfold a_ at u D⊢;rw[bK]at u D⊢;rw[aZ]at u D⊢;unfold cx at aT;refine Cl.ap rfl Tryz.func8 rfl rfl rfl ?_
    cases b with
    |false=>
     repeat'(first
|(with_reducible apply ac.seq)
|((with_reducible apply ac.text);(try case hm=>exact rfl))
|(with_reducible first|apply ac.skip|apply ac.ret|apply aH|apply bL)
|((with_reducible apply ac.aR);(case hc=>exact rfl))
|((with_reducible apply ac.aY);(case hc=>exact rfl))
|((with_reducible apply aa.c_);(case hp=>exact ak))
|(with_reducible apply aa.aB)
|((with_reducible apply aa.gf);(case hW=>exact rfl))
|((with_reducible apply aa.av);(case hW=>exact rfl);(case hx=>first
|(exact ai U)
|exact ae))
|((with_reducible apply aa.u0);(case hx=>first
|(exact ai k0)
|(exact ai u)
|(exact di D)
|exact ae))
|fail)
     exact⟨.inr rfl,rfl⟩
    |true=>
     have ei:¬(c.length:Int)=(e0.past.length:Int):=fun hh=>aA ⟨rfl,by omega⟩
     repeat'(first
|(with_reducible apply ac.seq)
|((with_reducible apply ac.text);(try case hm=>exact rfl))
|(with_reducible first|apply ac.skip|apply ac.ret|apply aH|apply bL)
|((with_reducible apply ac.aR);(case hc=>exact rfl))
|((with_reducible apply ac.aY);(case hc=>exact rfl))
|((with_reducible apply aa.c_);(case hp=>exact ak))
|((with_reducible apply aa.iM);(case hp=>exact ak))
|(with_reducible apply aa.aB)
|((with_reducible apply aa.av);(case hW=>exact rfl);(case hx=>first
|(exact ai U)
|exact ae))
|((with_reducible apply aa.u0);(case hx=>first
|(exact ai k0)
|(exact ai u)
|(exact di D)
|exact ae))
|fail)
     exact⟨.inr rfl,rfl⟩
  ·
   unfold a_ at u D⊢;rw[bK]at u D⊢;rw[aZ]at u D⊢;refine Cl.ap rfl Tryz.func8 rfl rfl rfl ?_
   repeat'(first
|(with_reducible apply ac.seq)
|((with_reducible apply ac.text);(try case hm=>exact rfl))
|(with_reducible first|apply ac.skip|apply ac.ret|apply aH|apply bL)
|((with_reducible apply ac.aR);(case hc=>exact rfl))
|((with_reducible apply ac.aY);(case hc=>exact rfl))
|((with_reducible apply aa.c_);(case hp=>exact ak))
|(with_reducible apply aa.aB)
|((with_reducible apply aa.gf);(case hW=>exact rfl))
|((with_reducible apply aa.av);(case hW=>exact rfl);(case hx=>exact ae))
|((with_reducible apply aa.u0);(case hx=>first
|(exact ai k0)
|(exact ai u)
|(exact ai D)
|exact ae))
|fail)
   exact⟨.inr rfl,rfl⟩
 ·
  obtain⟨b1,bu⟩:∃b,oc m p [] l=b:=⟨_,rfl⟩;rw[bu]at u ax;unfold a_ at u⊢;rw[bK]at u⊢;rw[aZ]at u⊢;refine Cl.ap rfl Tryz.func8 rfl rfl rfl ?_
  cases b1 with
  |false=>
   repeat'(first
|(with_reducible apply ac.seq)
|((with_reducible apply ac.text);(try case hm=>exact rfl))
|(with_reducible first|apply ac.skip|apply ac.ret|apply aH|apply bL)
|((with_reducible apply ac.aR);(case hc=>exact rfl))
|((with_reducible apply ac.aY);(case hc=>exact rfl))
|(with_reducible apply aa.aB)
|((with_reducible apply aa.gf);(case hW=>exact rfl))
|((with_reducible apply aa.u0);(case hx=>first
|(exact ai k0)
|(exact ai u)
|exact ae))
|fail)
   exact⟨.inr rfl,rfl⟩
  |true=>
   have c4:30 <l.length:=by
    rcases Nat.lt_or_ge 30 l.length with h|h
    ·exact h
    ·exact absurd ⟨rfl,h⟩ ax
   repeat'(first
|(with_reducible apply ac.seq)
|((with_reducible apply ac.text);(try case hm=>exact rfl))
|(with_reducible first|apply ac.skip|apply ac.ret|apply aH|apply bL)
|((with_reducible apply ac.aR);(case hc=>exact rfl))
|((with_reducible apply ac.aY);(case hc=>exact rfl))
|((with_reducible apply aa.cj);(case hp=>exact ak))
|(with_reducible apply aa.aB)
|((with_reducible apply aa.av);(case hW=>exact rfl);(case hx=>exact ae))
|((with_reducible apply aa.u0);(case hx=>first
|(exact ai k0)
|(exact ai u)
|exact ae))
|fail)
   exact⟨.inr rfl,rfl⟩
end Go.Proofs.YtcgdbhlnkificaaGreatDoor
