/- Law 40: SharesSuffice: the law's function answers true. No condition. -/
import Derived.Test.YtcgdbhlnkificaaGreatDoorUN
import Derived.Test.YtcgdbhlnkificaaGreatDoorUK
import Derived.Test.YtcgdbhlnkificaaGreatDoorTUF
set_option linter.all false
namespace Go.Proofs.YtcgdbhlnkificaaGreatDoor
open Go.RowKit
set_option maxRecDepth 100000
set_option maxHeartbeats 32000000
def T1(m:Md)(p:Pln)(R:Int)(l:aO)(r a:Int):((rP m p R l r a).2≠0/\(rP m p R l r a).1=[])\/(cT m p R l=true/\((0<=r/\r <R)/\0<=a/\a <m.ax.length)/\rP m p R l r a=(fq l r (dS m p a R),0)):=by
 unfold rP;split
 ·rename_i hs;split
  ·rename_i u;exact .inr ⟨hs,u,rfl⟩
  ·exact .inl ⟨by decide,rfl⟩
 ·exact .inl ⟨by decide,rfl⟩
def Tw{m:Md}{l:List Ev}(h:jz m l=true):m.ax.length<=30:=(CC h).1.2.2.2.2.1
def TM{m:Md}{p:Pln}{R:Int}{l:aO}{r a:Int}(hm:bx m)(hp:nO p)(hl:l.length<=17592186044416)(hx:∀x∈l,x.length<=17592186044416/\∀y∈x,y.length<=17592186044416):Cl aj 4 [.t (bN m),.t (a_ p),.t (.int .i64 R),.t (.arr (aU l)),.t (.int .i64 r),.t (.int .i64 a)] [] (.t (.bool true)) []:=by
 have b3:=hm.eff;have k0:=FB;have G:=Cy (p:=p) (l:=[]) (E:=[]) hm b3 hp (by simp) (fun x h=>by cases h) (by simp) (fun x h=>by cases h);have e0:(.arr (b8 []):AV)=.arr []:=rfl;have e1:(.arr (bA []):AV)=.arr []:=rfl;rw[e0,e1]at G;have k4:=CA (l:=l) (by omega) (fun x h=>⟨by have:=(hx x h).1;omega,fun y hy=>by have:=(hx x h).2 y hy;omega⟩);by_cases al:oc m p [] []=true/\po l=true
 ·
  obtain⟨aX,b4⟩:=al;rw[aX]at G;rw[b4]at k4;obtain⟨hW,hS⟩:=Cz hm b3 hp aX;obtain⟨eo,hf,_,_⟩:=RQ aX;have dr:=Tw eo;have bb:=CB b4;have km:=Ao (R:=R) (l:=l) (r:=r) (a:=a) hW (by omega) bb;rcases T1 m p R l r a with⟨hc,h0⟩|⟨hs,⟨⟨g1,g2⟩,g3,g4⟩,hM⟩
  ·
   generalize rP m p R l r a=S at km hc h0;obtain⟨A,c⟩:=S;dsimp only at km hc h0;subst h0;have e2:(.arr (cH []):AV)=.arr []:=rfl;rw[e2]at km;unfold a_ at G km⊢;rw[bK]at G km⊢;rw[aZ]at G km⊢;refine Cl.ap rfl Tryz.func4 rfl rfl rfl ?_
   repeat'(first
|(with_reducible apply ac.seq)
|((with_reducible apply ac.text);(try case hm=>exact rfl))
|(with_reducible first|apply ac.skip|apply ac.ret|apply aH|apply bL)
|((with_reducible apply ac.aR);(case hc=>exact rfl))
|((with_reducible apply ac.aY);(case hc=>exact rfl))
|((with_reducible apply aa.fS);(case hp=>exact ak))
|((with_reducible apply aa.bi)<;>intro J)
|(with_reducible apply aa.aB)
|((with_reducible apply aa.gf);(case hW=>exact rfl))
|((with_reducible apply aa.av);(case hW=>exact rfl);(case hx=>first
|(exact ai k4)
|exact ae))
|((with_reducible apply aa.u0);(case hx=>first
|(exact ai k0)
|(exact ai G)
|(exact di km)
|exact ae))
|fail)
   all_goals first|exact⟨.inr rfl,rfl⟩|(exfalso;exact J rfl)|(exfalso;rename_i hh;exact hh rfl)|(exfalso;omega)
  ·
   rw[hM]at km;dsimp only at km;obtain⟨hv,hR,gg,cC⟩:=lU.1 hs;obtain⟨N,rfl⟩:=Int.eq_ofNat_of_zero_le (show 0<=R by omega);obtain⟨r,rfl⟩:=Int.eq_ofNat_of_zero_le g1;have ct:r <N:=by omega
   have et:gl m p N (QT N r a)=true:=TI (by omega) ⟨by omega,by omega⟩ ⟨g3,g4⟩ dr;have eM:(QT N r a).past.length=N:=List.length_replicate;have V:=fun(z:aO) (hz:Rm z)=>Ae (l:=z) (e:=QT N r a) hW (by omega) hz (by rw[eM];omega);have ka:=V l bb;have bS:=fun(z:aO) (hz:cT m p N z=true)=>S9 hz et;have fZ:=mH l;have fz:=tA (fq l r (dS m p a N))
   have fi:(fq l r (dS m p a N)).length<=2000:=by
    have h1:=DO l r (dS m p a N);have h2:=L0 m p a N;have h3:=(kU.1 hv).gb;omega
   have a6:=fun(fr:Fr)=>LK (fr:=fr) (n:=N) (by omega);obtain⟨Z,hZ⟩:∃Z,aL (List.replicate N 0)=Z:=⟨_,rfl⟩;have hz:List.replicate N [AV.int .i64 0]=Z:=by rw[<- hZ];unfold aL;simp
   rw[hz]at a6
   have hH:((gM m p l (QT N r a)).2=9/\(fq l r (dS m p a N)).length≠0)\/((gM m p l (QT N r a)).2=0/\(fq l r (dS m p a N)).length=0):=by
    rw[bS l hs];by_cases ab:fq l r (dS m p a N)=[]
    ·exact .inr ⟨by rw[if_pos ab],by rw[ab];rfl⟩
    ·exact .inl ⟨by rw[if_neg ab],fun h=>ab (List.eq_nil_of_length_eq_zero h)⟩
   unfold c6 cx at V ka;generalize I:fq l r (dS m p a N)=M at*
   generalize fl:gM m p l (QT N r a)=S at ka hH;obtain⟨B,f⟩:=S;dsimp only[QT]at ka hH;unfold aD at ka;rw[hZ]at ka;unfold a_ at G km ka V⊢;rw[bK]at G km ka V⊢;rw[aZ]at G km ka V⊢;refine Cl.ap rfl Tryz.func4 rfl rfl rfl ?_
   repeat'(first
|(with_reducible apply ac.stop (id:=10))
|(with_reducible apply ac.seq)
|((with_reducible apply ac.text);(try case hm=>exact rfl))
|(with_reducible first|apply ac.skip|apply aH)
|((with_reducible apply ac.aY);(case hc=>exact rfl))
|((with_reducible apply aa.dK);(case hp=>exact ak))
|((with_reducible apply aa.c_);(case hp=>exact ak))
|(with_reducible apply aa.aB)
|((with_reducible apply aa.av);(case hW=>exact rfl);(case hx=>first
|(exact ai k4)
|exact ae))
|((with_reducible apply aa.u0);(case hx=>first
|((with_reducible apply af.dY);(case hs=>exact fun _=>rfl);(case hl|hc|hd=>exact rfl);(case hm=>exact a6 _);(case hf=>exact leq))
|((with_reducible apply af.BH);(case hcal|hav|hx|hh|hm=>exact rfl);(case hcl=>exact ka);(case hd|hf'|hn=>exact rfl);(case hf=>exact leq))
|(exact ai k0)
|(exact ai G)
|(exact di km)
|exact ae))
|fail)
   refine A0.go ?_
   repeat'(first
|(with_reducible first|apply ac.seq|apply ac.block)
|((with_reducible apply ac.text);(try case hm=>exact rfl))
|(with_reducible first|apply ac.skip|apply ac.ret|apply aH|apply bL|apply aa.aB)
|((with_reducible apply aa.u0);(case hx=>first
|((with_reducible apply af.mv);(conv=>lhs;whnf);try exact rfl)
|((with_reducible apply af.asg);(conv=>lhs;whnf);try exact rfl)
|((with_reducible apply af.len);(case ha|hy|ht|hs=>exact rfl);(case hn=>first|exact List.length_map _|exact rfl))
|exact af.r fun _=>rfl))
|(((with_reducible apply ac.Ti);(case hc=>exact rfl))<;>intro J)
|fail)
   ·
    exfalso;rcases hH with⟨rfl,h⟩|⟨rfl,h⟩
    ·simp[h]at J
    ·simp[h]at J
   clear J hH;apply ac.cR
   case ho=>exact rfl
   case hp=>exact rfl
   case hl=>exact rfl
   case hs=>exact slt
   refine az.ind (fun q:Nat=>[(93,.t (.int .i64 (q:Int)))]) (fun q=>q<=l.length/\∀i x,i <q->l[i]?=some x->∀y∈x,j0 y=N) (fun q=>l.length - q) 0 rfl ⟨Nat.zero_le _,fun i x h=>absurd h (Nat.not_lt_zero _)⟩ (fun q J=>?_);obtain⟨gy,cp⟩:=J;rcases Nat.lt_or_ge q l.length with h3|h3
   ·
    obtain⟨x,au⟩:=am h3;have hc:=mG au;have gj:=nV x;have be:=(cC q x au).2;have gN:=(bb.2 x (List.mem_of_getElem? au)).1
    repeat'(first
|(with_reducible first|apply ac.seq|apply ac.block)
|((with_reducible apply ac.text);(try case hm=>exact rfl))
|(with_reducible first|apply ac.skip|apply aH)
|((with_reducible apply ac.aR);(case hc=>exact rfl))
|((with_reducible apply aa.aF);(case hp=>exact ak))
|(with_reducible apply aa.aB)
|((with_reducible apply aa.u0);(case hx=>exact ae))
|fail)
    apply ac.cR
    case ho=>exact rfl
    case hp=>exact rfl
    case hl=>exact rfl
    case hs=>exact slt
    refine az.ind (fun k:Nat=>[(99,.t (.int .i64 (k:Int)))]) (fun k=>k<=x.length/\∀i y,i <k->x[i]?=some y->j0 y=N) (fun k=>x.length - k) 0 rfl ⟨Nat.zero_le _,fun i y h=>absurd h (Nat.not_lt_zero _)⟩ (fun k hk=>?_);obtain⟨fy,cf⟩:=hk;rcases Nat.lt_or_ge k x.length with h4|h4
    ·
     obtain⟨y,U⟩:=am h4;have bZ:=lf U;have gr:=aW y;obtain⟨gY,dd⟩:=be y (List.mem_of_getElem? U);have eR:=fun j:Nat=>Sm (y:=y.take j) (b:=5) (fun n hn=>by have:=dd n (List.mem_of_mem_take hn);omega)
     repeat'(first
|(with_reducible first|apply ac.seq|apply ac.block)
|((with_reducible apply ac.text);(try case hm=>exact rfl))
|(with_reducible first|apply ac.skip|apply aH)
|((with_reducible apply ac.aR);(case hc=>exact rfl))
|((with_reducible apply aa.aF);(case hp=>exact ak))
|(with_reducible apply aa.aB)
|((with_reducible apply aa.u0);(case hx=>exact ae))
|fail)
     apply ac.cR
     case ho=>exact rfl
     case hp=>exact rfl
     case hl=>exact rfl
     case hs=>exact slt
     refine az.ind (fun j:Nat=>[(22,.t (.int .i64 (j0 (y.take j)))),(105,.t (.int .i64 (j:Int)))]) (fun j=>j<=y.length) (fun j=>y.length - j) 0 rfl (Nat.zero_le _) (fun j hj=>?_);have c0:=eR j;have gd:(y.take j).length<=5:=by rw[List.length_take];omega
     rcases Nat.lt_or_ge j y.length with h5|h5
     ·
      obtain⟨n,hn⟩:=am h5;have fx:=bg hn;have gv:=dd n (List.mem_of_getElem? hn);have c4:=S0 hn;generalize j0 (y.take j)=T at c0 c4
      repeat'(first
|(with_reducible first|apply ac.seq|apply ac.block)
|((with_reducible apply ac.text);(try case hm=>exact rfl))
|(with_reducible first|apply ac.skip|apply aH)
|((with_reducible apply ac.aR);(case hc=>exact rfl))
|((with_reducible apply aa.aF);(case hp=>exact ak))
|(with_reducible first|apply aa.aB|apply aa.dF)
|((with_reducible apply aa.u0);(case hx=>exact ae))
|fail)
      exact⟨j+1,by rw[c4];rfl,rfl,by omega,by omega⟩
     ·
      rw[List.take_of_length_le h5]at c0;rw[List.take_of_length_le h5];by_cases dc:j0 y=N
      ·
       repeat'(first
|(with_reducible apply ac.seq)
|((with_reducible apply ac.text);(try case hm=>exact rfl))
|(with_reducible first|apply ac.skip|apply ac.exit|apply aH|apply da|apply fH|apply cY)
|((with_reducible apply ac.aY);(case hc=>exact rfl))
|((with_reducible apply aa.bk);(case hp=>exact ak))
|((with_reducible apply aa.dK);(case hp=>exact ak))
|(with_reducible apply aa.aB)
|((with_reducible apply aa.u0);(case hx=>exact ae))
|fail)
       exact⟨k+1,rfl,rfl,⟨by omega,fun i y' hi bf=>by
        rcases Nat.lt_or_ge i k with b5|b5
        ·exact cf i y' b5 bf
        ·obtain rfl:i=k:=by omega
         rw[U]at bf;cases bf;exact dc⟩,by omega⟩
      ·
       repeat'(first
|(with_reducible apply ac.seq)
|((with_reducible apply ac.text);(try case hm=>exact rfl))
|(with_reducible first|apply ac.exit|apply ac.ret|apply aH|apply da|apply bL|apply eV|apply cY)
|((with_reducible apply ac.aR);(case hc=>exact rfl))
|((with_reducible apply ac.aY);(case hc=>exact rfl))
|((with_reducible apply aa.bk);(case hp=>exact ak))
|((with_reducible apply aa.fS);(case hp=>exact ak))
|(with_reducible apply aa.aB)
|((with_reducible apply aa.u0);(case hx=>exact ae))
|fail)
       exact⟨.inr rfl,rfl⟩
    ·
     repeat'(first
|(with_reducible apply ac.seq)
|((with_reducible apply ac.text);(try case hm=>exact rfl))
|(with_reducible first|apply ac.exit|apply aH|apply da|apply fH|apply cY)
|((with_reducible apply ac.aY);(case hc=>exact rfl))
|((with_reducible apply aa.bk);(case hp=>exact ak))
|(with_reducible apply aa.aB)
|((with_reducible apply aa.u0);(case hx=>exact ae))
|fail)
     exact⟨q+1,rfl,rfl,⟨by omega,fun i x' hi ad y hy=>by
      rcases Nat.lt_or_ge i q with b7|b7
      ·exact cp i x' b7 ad y hy
      ·obtain rfl:i=q:=by omega
       rw[au]at ad;cases ad;obtain⟨t,ht⟩:=List.mem_iff_getElem?.1 hy;exact cf t y (by have:=aC ht;omega) ht⟩,by omega⟩
   ·
    have e3:Ry N l:=fun x ad y hy=>by
     obtain⟨t,ht⟩:=List.mem_iff_getElem?.1 ad;exact cp t x (by have:=aC ht;omega) ht y hy
    have ea:Q4 m p N r M l l 0:=Q4.start hs e3
    repeat'(first
|(with_reducible first|apply ac.seq|apply ac.block)
|((with_reducible apply ac.text);(try case hm=>exact rfl))
|(with_reducible first|apply ac.exit|apply aH|apply da|apply cY)
|((with_reducible apply ac.aY);(case hc=>exact rfl))
|((with_reducible apply aa.bk);(case hp=>exact ak))
|(with_reducible apply aa.aB)
|((with_reducible apply aa.u0);(case hx=>exact ae))
|fail)
    apply ac.cR
    case ho=>exact rfl
    case hp=>exact rfl
    case hl=>exact rfl
    case hs=>exact slt
    refine az.ind (fun x:aO×Nat=>[(3,.t (.arr (aU x.1))),(120,.t (.int .i64 (x.2:Int)))]) (fun x=>x.2<=M.length/\Q4 m p N r M l x.1 x.2) (fun x=>M.length - x.2) (l,0) rfl ⟨Nat.zero_le _,ea⟩ (fun x J=>?_);obtain⟨z,q⟩:=x;dsimp only at J⊢;obtain⟨h1,hG⟩:=J;rcases Nat.lt_or_ge q M.length with h6|h6
    ·
     obtain⟨y,hy⟩:=am h6;obtain⟨j,k,w,U,bm,bl,hw,e5,e4,u⟩:=Q4.begin (a:=a) (by rw[I];exact hG) hs (by rw[I];exact hy) ct;have cl:=fun(z':aO) (i:Nat) (D:Int) (hg:Q9 m p N r j k w z z' i D) (hi:N<=i)=>Q4.next (a:=a) (by rw[I];exact hG) (by rw[I];exact hy) bm bl hw e4 hg hi
     rw[I]at cl;obtain⟨X,Y,b,hX,hY,hb,_⟩:=u.row;have aN:=mG hX;have aT:=lf hY;have eL:=mH z;have ev:=nV X;have ey:=aW Y;have df:=aC hX;have bt:=aC hY;have ag:=(((lU.1 u.val).2.2.2 j X hX).2 Y (List.mem_of_getElem? hY)).1;have e6:=(Gj u.val).1;have eb:=((Gj u.val).2 X (List.mem_of_getElem? hX)).1;obtain⟨yk,yi,ye,yn⟩:=y;dsimp only at U bm bl e5 u;subst U bm bl;have bZ:=ze hy;dsimp only at bZ
     repeat'(first
|(with_reducible first|apply ac.seq|apply ac.block)
|((with_reducible apply ac.text);(try case hm=>exact rfl))
|((with_reducible apply ac.drawn);(case hm=>exact rfl))
|(with_reducible first|apply ac.skip|apply aH)
|((with_reducible apply ac.aR);(case hc=>exact rfl))
|((with_reducible apply ac.aY);(case hc=>exact rfl))
|((with_reducible apply aa.aF);(case hp=>exact ak))
|((with_reducible apply aa.bk);(case hp=>exact ak))
|((with_reducible apply aa.c_);(case hp=>exact ak))
|((with_reducible apply aa.iL);(case hp=>exact ak))
|(with_reducible apply aa.aB)
|((with_reducible apply aa.av);(case hW=>exact rfl);(case hx=>exact ae))
|((with_reducible apply aa.u0);(case hx=>first
|((with_reducible apply af.yM (n:=3));(case ht=>exact PI);(case hy|hb|hl|hv=>exact rfl);(case hx=>(repeat'(first|exact jW.nil|(apply jW.cons)))))
|exact ae))
|fail)
     apply ac.cR
     case ho=>exact rfl
     case hp=>exact rfl
     case hl=>exact rfl
     case hs=>exact slt
     refine az.c8 (fun x:aO×Int×Nat=>[(3,.t (.arr (aU x.1))),(167,.t (.int .i64 (x.2.2:Int)))]) (fun x=>[.box false 30 (([aD m.ao,.arr (bC m.tables),.arr (cq m.bH),.arr (fk m.cons),.arr (fv m.ops),.arr (eg m.ax),.arr (c7 m.aG)]:List AV).map .t),.box false 35 (([.arr (gJ p.aM),.arr (fM p.aA),.arr (cM p.places),aD p.bj]:List AV).map .t),.row true false 1 Z,.box false 53 [.t (.int .i64 (r:Int)),.t (.int .i64 1),.t (.int .i64 1),.ls 2,.t (.int .i64 0),.t (.int .i64 a),.t (.int .i64 0),.t (.int .i64 0),.t (.int .i64 0),.t (.int .i64 0),.t (.int .i64 0),.t (.int .i64 0),.t (.int .i64 1)],.box false 51 [.t (.int .i64 1),.t (.int .i64 (j:Int)),.t (.int .i64 (k:Int)),.t (.int .i64 x.2.1)],.box false 49 (([.int .i64 1,.int .i64 (j:Int),.int .i64 (k:Int)]:List AV).map .t)]) (fun x=>x.2.2<=N/\Q9 m p N r j k w z x.1 x.2.2 x.2.1) (fun x=>N - x.2.2) (z,yn,0) rfl rfl ⟨Nat.zero_le _,u⟩ (fun x J=>?_);clear aN aT eL ev ey df bt ag e6 eb;obtain⟨z',D,i⟩:=x;dsimp only at J⊢;obtain⟨hi,u⟩:=J;obtain⟨X,Y,b,hX,hY,hb,_,fu,_⟩:=u.row;have aN:=mG hX;have aT:=lf hY;have df:j <(aU z').length:=aC aN;have bt:k <(bA X).length:=aC aT;have ag:=((lU.1 u.val).2.2.2 j X hX).2 Y (List.mem_of_getElem? hY);have fw:=ag.2 b (List.mem_of_getElem? hb);have ft:D<=5:=by omega
     rcases Nat.lt_or_ge i N with h7|h7
     ·
      obtain⟨v,an⟩:=am (xs:=Y) (k:=i) (by omega);have ek:=bg an;have fm:i <(aL Y).length:=aC ek;have gA:=ag.2 v (List.mem_of_getElem? an);by_cases cc:i=r
      ·
       subst cc;have bd:=u.skip (.inl rfl)
       repeat'(first
|(with_reducible first|apply ac.seq|apply ac.block)
|((with_reducible apply ac.text);(try case hm=>exact rfl))
|((with_reducible apply ac.drawn);(case hm=>exact rfl))
|(with_reducible first|apply ac.skip|apply ac.exit|apply aH|apply da|apply cY)
|((with_reducible apply ac.aR);(case hc=>exact rfl))
|((with_reducible apply aa.aF);(case hp=>exact ak))
|(with_reducible apply aa.aB)
|((with_reducible apply aa.gf);(case hW=>exact rfl))
|((with_reducible apply aa.u0);(case hx=>exact ae))
|fail)
       exact⟨(z',D,i+1),rfl,rfl,⟨by dsimp only;omega,bd⟩,by dsimp only;omega⟩
      ·
       have e7:¬(i:Int)=(r:Int):=by omega
       by_cases ab:min v D <1
       ·
        have bd:=u.skip (.inr fun X' Y' n bo bu ch=>by
         rw[hX]at bo;cases bo;rw[hY]at bu;cases bu;rw[an]at ch;cases ch;omega)
        repeat'(first
|(with_reducible first|apply ac.seq|apply ac.block)
|((with_reducible apply ac.text);(try case hm=>exact rfl))
|((with_reducible apply ac.drawn);(case hm=>exact rfl))
|(with_reducible first|apply ac.skip|apply ac.exit|apply aH|apply da|apply cY)
|((with_reducible apply ac.aR);(case hc=>exact rfl))
|((with_reducible apply aa.aF);(case hp=>exact ak))
|((with_reducible apply aa.bk);(case hp=>exact ak))
|((with_reducible apply aa.cj);(case hp=>exact ak))
|(with_reducible apply aa.aB)
|((with_reducible apply aa.av);(case hW=>exact rfl);(case hx=>exact ae))
|((with_reducible apply aa.u0);(case hx=>exact ae))
|fail)
        exact⟨(z',D,i+1),rfl,rfl,⟨by dsimp only;omega,bd⟩,by dsimp only;omega⟩
       ·
        obtain⟨z2,ef,a1⟩:=u.SF (x:=⟨1,j,k,yn⟩) rfl rfl rfl h7 cc hX hY an (by omega);have kg:=Ae (l:=z') (e:=pN N i r ⟨1,j,k,yn⟩ (min v D)) hW (by omega) (Gj u.val) (by show(List.replicate N (0:Int)).length<=_;rw[List.length_replicate];omega);rw[ef]at kg;unfold c6 cx pN a_ at kg;rw[bK]at kg;rw[aZ]at kg;dsimp only at kg;unfold aD at kg;rw[hZ]at kg
        repeat'(first
|(with_reducible first|apply ac.seq|apply ac.block)
|((with_reducible apply ac.text);(try case hm=>exact rfl))
|((with_reducible apply ac.drawn);(case hm=>exact rfl))
|(with_reducible first|apply ac.skip|apply aH)
|((with_reducible apply ac.aR);(case hc=>exact rfl))
|((with_reducible apply ac.aY);(case hc=>exact rfl))
|((with_reducible apply aa.aF);(case hp=>exact ak))
|((with_reducible apply aa.bk);(case hp=>exact ak))
|((with_reducible apply aa.dK);(case hp=>exact ak))
|((with_reducible apply aa.c_);(case hp=>exact ak))
|(with_reducible first|apply aa.aB|apply aa.dF)
|((with_reducible apply aa.av);(case hW=>exact rfl);(case hx=>exact ae))
|((with_reducible apply aa.u0);(case hx=>first
|((with_reducible apply af.yM (n:=3));(case ht=>exact PI);(case hy|hb|hl|hv=>exact rfl);(case hx=>(repeat'(first|exact jW.nil|(apply jW.cons)))))
|((with_reducible apply af.TR);(case hs=>exact fun _=>rfl);(case hl|hc|hd=>exact rfl);(case hm=>exact a6 []))
|(exact di kg)
|exact ae))
|fail)
        exact⟨(z2,D - min v D,i+1),rfl,rfl,⟨by dsimp only;omega,a1⟩,by dsimp only;omega⟩
     ·
      have er:=cl z' i D u h7
      repeat'(first
|(with_reducible apply ac.seq)
|((with_reducible apply ac.text);(try case hm=>exact rfl))
|(with_reducible first|apply ac.exit|apply aH|apply da|apply fH|apply cY)
|((with_reducible apply ac.aY);(case hc=>exact rfl))
|((with_reducible apply aa.bk);(case hp=>exact ak))
|(with_reducible apply aa.aB)
|((with_reducible apply aa.u0);(case hx=>exact ae))
|fail)
      exact⟨(z',q+1),rfl,rfl,⟨by dsimp only;omega,er⟩,by dsimp only;omega⟩
    ·
     have en:fq z r (dS m p a N)=[]:=Q4.done (a:=a) (by rw[I];exact hG) hs ct (by rw[I];exact h6);have h0:=bS z hG.val;rw[if_pos en]at h0;have kz:=V z (Gj hG.val);generalize gM m p z (QT N r a)=S2 at h0 kz;obtain⟨B2,f2⟩:=S2;dsimp only[QT]at h0 kz;subst h0;unfold aD at kz;rw[hZ]at kz
     repeat'(first
|(with_reducible apply ac.seq)
|((with_reducible apply ac.text);(try case hm=>exact rfl))
|(with_reducible first|apply ac.exit|apply ac.ret|apply aH|apply da|apply cY)
|((with_reducible apply ac.aY);(case hc=>exact rfl))
|((with_reducible apply aa.aF);(case hp=>exact ak))
|((with_reducible apply aa.bk);(case hp=>exact ak))
|(with_reducible apply aa.aB)
|((with_reducible apply aa.u0);(case hx=>first
|((with_reducible apply af.BH);(case hcal|hav|hx|hh|hm=>exact rfl);(case hcl=>exact kz);(case hd|hf'|hn=>exact rfl);(case hf=>exact leq))
|exact ae))
|fail)
     exact⟨.inr rfl,rfl⟩
 ·
  obtain⟨b1,ei⟩:∃b,oc m p [] []=b:=⟨_,rfl⟩;obtain⟨b2,ej⟩:∃b,po l=b:=⟨_,rfl⟩;rw[ei]at G al;rw[ej]at k4 al;unfold a_ at G⊢;rw[bK]at G⊢;rw[aZ]at G⊢;refine Cl.ap rfl Tryz.func4 rfl rfl rfl ?_
  cases b1 with
  |false=>
   repeat'(first
|(with_reducible apply ac.seq)
|((with_reducible apply ac.text);(try case hm=>exact rfl))
|(with_reducible first|apply ac.skip|apply ac.ret|apply aH|apply bL)
|((with_reducible apply ac.aR);(case hc=>exact rfl))
|((with_reducible apply ac.aY);(case hc=>exact rfl))
|(with_reducible apply aa.aB)
|((with_reducible apply aa.gf);(case hW=>exact rfl))
|((with_reducible apply aa.u0);(case hx=>first
|(exact ai k0)
|(exact ai G)
|exact ae))
|fail)
   exact⟨.inr rfl,rfl⟩
  |true=>
   cases b2 with
   |false=>
    repeat'(first
|(with_reducible apply ac.seq)
|((with_reducible apply ac.text);(try case hm=>exact rfl))
|(with_reducible first|apply ac.skip|apply ac.ret|apply aH|apply bL)
|((with_reducible apply ac.aR);(case hc=>exact rfl))
|((with_reducible apply ac.aY);(case hc=>exact rfl))
|(with_reducible apply aa.aB)
|((with_reducible apply aa.av);(case hW=>exact rfl);(case hx=>first
|(exact ai k4)
|exact ae))
|((with_reducible apply aa.u0);(case hx=>first
|(exact ai k0)
|(exact ai G)
|exact ae))
|fail)
    exact⟨.inr rfl,rfl⟩
   |true=>exact absurd ⟨rfl,rfl⟩ al
end Go.Proofs.YtcgdbhlnkificaaGreatDoor
