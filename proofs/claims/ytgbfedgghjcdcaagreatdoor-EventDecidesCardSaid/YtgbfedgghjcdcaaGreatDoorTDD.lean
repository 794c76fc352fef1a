/- Law 32: EventDecides. No condition. -/
import Derived.Test.YtgbfedgghjcdcaaGreatDoorTDA
import Derived.Test.YtgbfedgghjcdcaaGreatDoorKTA
import Derived.Test.YtgbfedgghjcdcaaGreatDoorCKV
set_option linter.all false
namespace Go.Proofs.YtgbfedgghjcdcaaGreatDoor
open Go.RowKit
set_option maxRecDepth 100000
set_option maxHeartbeats 32000000
def EJ{m:Md}(hm:cW m)(ek:∀a∈m.aJ,mD a.eff)(l:List Ev)(n:Int)(n0:0<=n)(n1:n<=255)(hl:l.length<=17592186044416)(hp:∀e∈l,e.past.length<=17592186044416):Cl ap 6 [.t (di m),.t (.arr (br l)),.t (.int .u8 n)] [] (.t (.bool true)) []:=by
 have kf:=Dz (l:=l) hm ek (by omega) fun e he=>Nat.le_trans (hp e he) (by omega);obtain⟨x1,cu⟩:∃x,jv m l=x:=⟨_,rfl⟩;rw[cu]at kf;have ep:=lW l;have gd:=mH m.aJ
 cases x1 with
 |false=>
  rw[cO]at kf⊢;refine Cl.aE rfl Tryz.func6 rfl rfl rfl ?_
  repeat'(first
|(with_reducible apply aa.seq)
|((with_reducible apply aa.text);(try case hm=>exact rfl))
|(with_reducible first|apply aa.skip|apply aa.ret|apply ai|apply ay)
|((with_reducible apply aa.am);(case hc=>exact rfl))
|((with_reducible apply aa.ak);(case hc=>exact rfl))
|(with_reducible apply ab.af)
|((with_reducible apply ab.gf);(case hW=>exact rfl))
|((with_reducible apply ab.u0);(case hx=>first
|(exact aj qh)
|(exact aj kf)
|exact ac))
|fail)
  exact⟨.inr rfl,rfl⟩
 |true=>
  by_cases dd:l.length=0\/m.aJ.length=0
  ·
   rw[cO]at kf⊢;refine Cl.aE rfl Tryz.func6 rfl rfl rfl ?_
   repeat'(first
|(with_reducible apply aa.seq)
|((with_reducible apply aa.text);(try case hm=>exact rfl))
|(with_reducible first|apply aa.skip|apply aa.ret|apply ai|apply ay)
|((with_reducible apply aa.am);(case hc=>exact rfl))
|((with_reducible apply aa.ak);(case hc=>exact rfl))
|((with_reducible apply ab.bh);(case hp=>exact ae))
|((with_reducible apply ab.a_)<;>intro hq)
|(with_reducible apply ab.af)
|((with_reducible apply ab.gf);(case hW=>exact rfl))
|((with_reducible apply ab.au);(case hW=>exact rfl);(case hx=>exact ac))
|((with_reducible apply ab.u0);(case hx=>first
|(exact aj qh)
|(exact aj kf)
|exact ac))
|fail)
   all_goals first
    |exact⟨.inr rfl,rfl⟩
    |(exfalso;omega)
  obtain⟨f1,f2,f3,f4,f5,f6⟩:=Dy cu;have hS:Small m:=⟨hm,f2,f3⟩;have er:l.length<=60:=f1.2.2.2.2.2;have ea:m.aJ.length<=30:=f1.2.2.2.2.1;have ca:=uM hS.ok;obtain⟨z,b0⟩:=av (xs:=l) (k:=0) (by omega);have fH:=iP b0;have ch:=List.mem_of_getElem? b0;have fl:=bC z.past;have gH:=f4 z ch;have Q:=fun(e:Ev) h=>xe hm (z.past.length:Int) e h;have a7:∀e∈l,e.past.length<=1000:=fun e he=>Nat.le_trans (f4 e he) (by omega);by_cases I:1<=z.past.length/\z.past.length<=5/\fv l=true
  rotate_left
  ·
   have kc:Cl ap 25 [.t (.int .i64 (z.past.length:Int)),.t (.arr (br l))] [] (.t (.aL [.arr [],.int .i64 1])) []:=by
    by_cases hr:1<=z.past.length/\z.past.length<=5
    ·refine Cr (by omega) (fun e he=>Nat.le_trans (hp e he) (by omega)) hr.1 hr.2 ?_;rw[<- Bool.not_eq_true];exact fun h=>I ⟨hr.1,hr.2,h⟩
    ·exact Cs (by omega)
   rw[cO]at kf Q⊢;refine Cl.aE rfl Tryz.func6 rfl rfl rfl ?_
   repeat'(first
|(with_reducible first|apply aa.seq|apply aa.block)
|((with_reducible apply aa.text);(try case hm=>exact rfl))
|(with_reducible first|apply aa.skip|apply ai)
|((with_reducible apply aa.ak);(case hc=>exact rfl))
|((with_reducible apply ab.aV);(case hp=>exact ae))
|(with_reducible apply ab.af)
|((with_reducible apply ab.au);(case hW=>exact rfl);(case hx=>exact ac))
|((with_reducible apply ab.u0);(case hx=>first
|(exact aj qh)
|(exact aj kf)
|(exact bX kc)
|exact ac))
|fail)
   apply aa.aM
   case ho=>exact rfl
   case hp=>exact rfl
   case hl=>exact rfl
   case hs=>exact slt
   refine aI.cd (fun q:Nat=>[(57,.t (.int .i64 (q:Int)))]) (fun q=>[.box false 30 ((cg m).map .t)]) (fun q=>q<=l.length) (fun q=>l.length - q) 0 rfl rfl (by omega) (fun q hq=>?_);rcases Nat.lt_or_ge q l.length with h3|h3
   ·
    obtain⟨e,he⟩:=av h3;have b1:=iP he;have kv:=Q e (by have:=a7 e (List.mem_of_getElem? he);omega);have e1:dX e=.agg [.int .i64 e.r,.int .i64 e.n,.int .i64 e.t,aF e.past,.int .i64 e.k,.int .i64 e.a,.int .i64 e.gk,.int .i64 e.gi,.int .i64 e.ge,.int .i64 e.ga,.int .i64 e.to,.int .i64 e.pl,.int .i64 e.se]:=rfl;rw[e1]at kv;obtain⟨b,hb⟩:∃b,eP m (z.past.length:Int) e=b:=⟨_,rfl⟩;rw[hb]at kv
    cases b with
    |false=>
     repeat'(first
|(with_reducible first|apply aa.seq|apply aa.block)
|((with_reducible apply aa.text);(try case hm=>exact rfl))
|(with_reducible first|apply aa.skip|apply aa.ret|apply ai|apply ay|apply aO)
|((with_reducible apply aa.am);(case hc=>exact rfl))
|((with_reducible apply ab.ao);(case hp=>exact ae))
|(with_reducible apply ab.af)
|((with_reducible apply ab.u0);(case hx=>first
|(exact aj kv)
|exact ac))
|fail)
     exact⟨.inr rfl,rfl⟩
    |true=>
     repeat'(first
|(with_reducible first|apply aa.seq|apply aa.block)
|((with_reducible apply aa.text);(try case hm=>exact rfl))
|(with_reducible first|apply aa.skip|apply ai|apply aG)
|((with_reducible apply aa.am);(case hc=>exact rfl))
|((with_reducible apply aa.ak);(case hc=>exact rfl))
|((with_reducible apply ab.ao);(case hp=>exact ae))
|(with_reducible apply ab.af)
|((with_reducible apply ab.u0);(case hx=>first
|(exact aj kv)
|exact ac))
|fail)
     exact⟨q+1,rfl,rfl,by omega,by omega⟩
   ·
    repeat'(first
|(with_reducible apply aa.seq)
|((with_reducible apply aa.text);(try case hm=>exact rfl))
|(with_reducible first|apply aa.exit|apply aa.ret|apply ai|apply aA|apply ay|apply az)
|((with_reducible apply aa.am);(case hc=>exact rfl))
|((with_reducible apply aa.ak);(case hc=>exact rfl))
|((with_reducible apply ab.aw);(case hp=>exact ae))
|((with_reducible apply ab.fa);(case hp=>exact ae))
|(with_reducible apply ab.af)
|((with_reducible apply ab.gf);(case hW=>exact rfl))
|((with_reducible apply ab.u0);(case hx=>exact ac))
|fail)
    exact⟨.inr rfl,rfl⟩
  obtain⟨g1,g5,ed⟩:=I;have hC:=CD.1 ed;have J:∀e∈l,e.past.length=z.past.length:=fun e he=>hC.alike e he z ch;have kc:=C9 hC J g1 g5;have bN:=tl hC.form J g1 g5;have D:=lN z.past.length l;have eo:=bC (cm z.past.length l);obtain⟨v,hv⟩:=av (xs:=cm z.past.length l) (k:=0) (by omega);have ez:=bB hv;have e3:=qK bN 0;rw[dt hv]at e3;have bb:=fun a t=>EF (a:=a) (t:=t) hC.form J g1 g5;have bW:=fun(a t:Int) (A:dT) (T:Tb) (j:Nat) (u:bn) (h1:∀e∈l,e.t <t) h2 h3 h4 h5 h6=>CX (m:=m) (a:=a) (t:=t) (A:=A) (T:=T) (j:=j) (u:=u) hC J g1 g5 h1 h2 h3 h4 h5 h6;have cc:∀a t,cV (cm z.past.length l) a t=⟨0,v+1,t,cm z.past.length l,0,a,0,0,0,0,0,0,1⟩:=fun a t=>by unfold cV;rw[dt hv]
  obtain⟨C,dm⟩:∃C,cm z.past.length l=C:=⟨_,rfl⟩;rw[dm]at kc bN D eo hv ez bb bW cc;rw[dt hv]at bb;have hD:C≠[]:=fun h=>by rw[h]at D;simp at D;omega
  rw[cO]at kf Q⊢;refine Cl.aE rfl Tryz.func6 rfl rfl rfl ?_
  repeat'(first
|(with_reducible first|apply aa.seq|apply aa.block)
|((with_reducible apply aa.text);(try case hm=>exact rfl))
|(with_reducible first|apply aa.skip|apply ai)
|((with_reducible apply aa.ak);(case hc=>exact rfl))
|((with_reducible apply ab.aV);(case hp=>exact ae))
|(with_reducible apply ab.af)
|((with_reducible apply ab.au);(case hW=>exact rfl);(case hx=>exact ac))
|((with_reducible apply ab.u0);(case hx=>first
|(exact aj qh)
|(exact aj kf)
|(exact bX kc)
|exact ac))
|fail)
  apply aa.aM
  case ho=>exact rfl
  case hp=>exact rfl
  case hl=>exact rfl
  case hs=>exact slt
  refine aI.cd (fun q:Nat=>[(57,.t (.int .i64 (q:Int)))]) (fun q=>[.box false 30 ((cg m).map .t)]) (fun q=>q<=l.length/\∀e∈l.take q,eP m (z.past.length:Int) e=true) (fun q=>l.length - q) 0 rfl rfl ⟨by omega,fun e he=>by simp at he⟩ (fun q hq=>?_);obtain⟨q1,q2⟩:=hq;rcases Nat.lt_or_ge q l.length with h3|h3
  ·
   obtain⟨e,he⟩:=av h3;have b1:=iP he;have kv:=Q e (by have:=a7 e (List.mem_of_getElem? he);omega);have e1:dX e=.agg [.int .i64 e.r,.int .i64 e.n,.int .i64 e.t,aF e.past,.int .i64 e.k,.int .i64 e.a,.int .i64 e.gk,.int .i64 e.gi,.int .i64 e.ge,.int .i64 e.ga,.int .i64 e.to,.int .i64 e.pl,.int .i64 e.se]:=rfl;rw[e1]at kv;obtain⟨b,hb⟩:∃b,eP m (z.past.length:Int) e=b:=⟨_,rfl⟩;rw[hb]at kv
   cases b with
   |false=>
    repeat'(first
|(with_reducible first|apply aa.seq|apply aa.block)
|((with_reducible apply aa.text);(try case hm=>exact rfl))
|(with_reducible first|apply aa.skip|apply aa.ret|apply ai|apply ay|apply aO)
|((with_reducible apply aa.am);(case hc=>exact rfl))
|((with_reducible apply ab.ao);(case hp=>exact ae))
|(with_reducible apply ab.af)
|((with_reducible apply ab.u0);(case hx=>first
|(exact aj kv)
|exact ac))
|fail)
    exact⟨.inr rfl,rfl⟩
   |true=>
    repeat'(first
|(with_reducible first|apply aa.seq|apply aa.block)
|((with_reducible apply aa.text);(try case hm=>exact rfl))
|(with_reducible first|apply aa.skip|apply ai|apply aG)
|((with_reducible apply aa.am);(case hc=>exact rfl))
|((with_reducible apply aa.ak);(case hc=>exact rfl))
|((with_reducible apply ab.ao);(case hp=>exact ae))
|(with_reducible apply ab.af)
|((with_reducible apply ab.u0);(case hx=>first
|(exact aj kv)
|exact ac))
|fail)
    refine⟨q+1,rfl,rfl,⟨by omega,fun x hx=>?_⟩,by omega⟩;rw[List.take_add_one,he]at hx;rcases List.mem_append.1 hx with hx|hx
    ·exact q2 x hx
    ·obtain rfl:x=e:=by simpa using hx
     exact hb
  ·
   rw[List.take_of_length_le h3]at q2;clear Q;by_cases gx:1024<=v
   ·
    repeat'(first
|(with_reducible apply aa.seq)
|((with_reducible apply aa.text);(try case hm=>exact rfl))
|(with_reducible first|apply aa.exit|apply aa.ret|apply ai|apply aA|apply ay|apply az)
|((with_reducible apply aa.am);(case hc=>exact rfl))
|((with_reducible apply aa.ak);(case hc=>exact rfl))
|((with_reducible apply ab.aw);(case hp=>exact ae))
|((with_reducible apply ab.cz);(case hp=>exact ae))
|((with_reducible apply ab.bh);(case hp=>exact ae))
|(with_reducible apply ab.af)
|((with_reducible apply ab.au);(case hW=>exact rfl);(case hx=>exact ac))
|((with_reducible apply ab.u0);(case hx=>exact ac))
|fail)
    all_goals first
     |exact⟨.inr rfl,rfl⟩
     |(exfalso;omega)
   have eR:lJ m l=true:=List.all_eq_true.2 fun e he=>by
    have:=q2 e he;rw[<- J e he]at this;exact this
   have b2:n.tmod (m.aJ.length:Int)=((n.toNat %m.aJ.length:Nat):Int):=by
    have e:n=((n.toNat:Nat):Int):=by omega
    rw[Int.tmod_eq_emod_of_nonneg n0];conv=>lhs;rw[e]
    rfl
   have bk:n.toNat %m.aJ.length <m.aJ.length:=Nat.mod_lt _ (by omega);obtain⟨a,dQ⟩:∃a,n.toNat %m.aJ.length=a:=⟨_,rfl⟩;rw[dQ]at b2 bk;obtain⟨A,hA⟩:=av bk;have fo:=mG hA;have fp:=xT l
   have ft:fC l<=1073741824:=xS (by omega) fun x hx=>by
    have h:=hC.form x hx;simp only[bU,iS,cD,Bool.and_eq_true,decide_eq_true_eq]at h;omega
   have dr:=fun q=>xT (l.take q)
   have dq:∀q,fC (l.take q)<=1073741824:=fun q=>xS (by omega) fun x hx=>by
    have h:=hC.form x (List.mem_of_mem_take hx);simp only[bU,iS,cD,Bool.and_eq_true,decide_eq_true_eq]at h;omega
   repeat'(first
|(with_reducible first|apply aa.seq|apply aa.block)
|((with_reducible apply aa.text);(try case hm=>exact rfl))
|((with_reducible apply aa.tM);(case hm=>exact rfl))
|(with_reducible first|apply aa.skip|apply aa.exit|apply ai|apply aA|apply az)
|((with_reducible apply aa.ak);(case hc=>exact rfl))
|((with_reducible apply ab.aw);(case hp=>exact ae))
|((with_reducible apply ab.cz);(case hp=>exact ae))
|((with_reducible apply ab.aV);(case hp=>exact ae))
|(with_reducible first|apply ab.af|apply ax.af)
|((with_reducible apply ax.u);(case hfl=>kernel_rfl);(case hx=>first
|((with_reducible apply ah.CV);(case hx|hs|hd=>exact rfl);(case h=>omega))
|((with_reducible apply ah.zm);(case hx|hy=>exact rfl);(case hn=>omega);(case h=>exact b2))
|exact ac))
|((with_reducible apply ab.au);(case hW=>exact rfl);(case hx=>exact ac))
|((with_reducible apply ab.u0);(case hx=>exact ac))
|fail)
   apply aa.aM
   case ho=>exact rfl
   case hp=>exact rfl
   case hl=>exact rfl
   case hs=>exact slt
   refine aI.cd (fun q:Nat=>[(89,.t (.int .i64 (q:Int)))]) (fun q=>[.box false 30 ((cg m).map .t),.box false 36 (([.int .i64 0,.int .i64 (v+1),.int .i64 (fC (l.take q)),aF C,.int .i64 0,.int .i64 (a:Int),.int .i64 0,.int .i64 0,.int .i64 0,.int .i64 0,.int .i64 0,.int .i64 0,.int .i64 1]:List AV).map .t)]) (fun q=>q<=l.length) (fun q=>l.length - q) 0 rfl rfl (by omega) (fun q hq=>?_);rcases Nat.lt_or_ge q l.length with h4|h4
   ·
    obtain⟨e,he⟩:=av h4;have b1:=iP he;have ev:=ED he;have fS:=dr q;have fV:=dq q
    repeat'(first
|(with_reducible first|apply aa.seq|apply aa.block)
|((with_reducible apply aa.text);(try case hm=>exact rfl))
|(with_reducible first|apply aa.skip|apply ai)
|((with_reducible apply aa.am);(case hc=>exact rfl))
|((with_reducible apply ab.ao);(case hp=>exact ae))
|(with_reducible first|apply ab.af|apply ab.bM)
|((with_reducible apply ab.u0);(case hx=>exact ac))
|fail)
    exact⟨q+1,rfl,by rw[ev];rfl,by omega,by omega⟩
   ·
    rw[List.take_of_length_le h4];by_cases fi:1073741824<=fC l
    ·
     repeat'(first
|(with_reducible apply aa.seq)
|((with_reducible apply aa.text);(try case hm=>exact rfl))
|(with_reducible first|apply aa.exit|apply aa.ret|apply ai|apply aA|apply ay|apply az)
|((with_reducible apply aa.am);(case hc=>exact rfl))
|((with_reducible apply aa.ak);(case hc=>exact rfl))
|((with_reducible apply ab.ao);(case hp=>exact ae))
|((with_reducible apply ab.aw);(case hp=>exact ae))
|(with_reducible apply ab.af)
|((with_reducible apply ab.u0);(case hx=>exact ac))
|fail)
     all_goals first
      |exact⟨.inr rfl,rfl⟩
      |(exfalso;omega)
    obtain⟨t,ht⟩:∃t,fC l+1=t:=⟨_,rfl⟩
    have ey:∀e∈l,e.t <t:=fun e he=>by
     have:=(uq l 0).2 e he;have h2:e.t<=fC l:=this;omega
    have en:=bb a t (by omega) (by omega) (by omega) (by omega) (by omega)
    have eN:eP m (cV C a t).past.length (cV C a t)=true:=by
     unfold eP;rw[en];have e1:(cV C a t).a=(a:Int):=rfl;rw[e1];simp only[Bool.true_and,decide_true,Bool.or_eq_true,decide_eq_true_eq,Bool.not_eq_true'];exact .inr (by omega)
    have bl:=Bj eR eN
    have et:∀e∈l++[cV C a t],e.past.length<=1000:=fun e he=>by
     rcases List.mem_append.1 he with he|he
     ·exact a7 e he
     ·obtain rfl:e=cV C a t:=by simpa using he
      have e1:(cV C a t).past=C:=rfl;rw[e1];omega
    have aN:=xf hS (l:=l++[cV C a t]) (by simp;omega) et bl;have aB:=xf hS (l:=[]) (by simp) (by simp) rfl;have be:=zr hm ca;have cl:cP 13 [dh (cV C a t)]=true:=yE [cV C a t]
    have cf:bD ((br l).length+[dh (cV C a t)].length) 120=true:=by
     rw[ep];simp[bD];omega
    have eb:br (l++[cV C a t])=br l++[dh (cV C a t)]:=by unfold br;rw[List.map_append];rfl
    have e_:Cl ap 27 [.t (.arr (br l))] [] (.ls 0) [.row false false 13 (br l)]:=by
     cases l with
     |nil=>simp at dd
     |cons y l=>exact C_ (by simp at er⊢;omega)
    have ag:=fun i T h=>AO (m:=m) (l:=l++[cV C a t]) (i:=i) (t:=T) h;have ad:=fun i T h=>AO (m:=m) (l:=[]) (i:=i) (t:=T) h;have bj:=AP m (l++[cV C a t]);have bf:=AP m [];have hW:∀i:Nat,∀T,cS T (cn m [] (i:Int))=[if T.kind=2\/T.kind=3 then 0 else ir T]:=fun i T=>I1;obtain⟨cp,b5⟩:=IK hS.ok hA
    have fB:A.eff.aQ.length<=20:=by
     have h:=f3 A (List.mem_of_getElem? hA);unfold fw at h;simp only[Bool.and_eq_true,decide_eq_true_eq]at h;exact h.1.2
    have ej:=fun T j u h2 h3 h4=>bW a t A T j u ey (by simpa using hA) cp h2 h3 h4;have gj:=mu A.eff.aQ;have aY:=fun k c=>DM hm k c;have bq:dh (cV C a t)=[.int .i64 0,.int .i64 (v+1),.int .i64 t,aF C,.int .i64 0,.int .i64 (a:Int),.int .i64 0,.int .i64 0,.int .i64 0,.int .i64 0,.int .i64 0,.int .i64 0,.int .i64 1]:=by rw[cc];rfl
    rw[eb,bq]at aN;rw[bq]at cl cf;obtain⟨G,hG⟩:∃G,fE m.aq m.tables=G:=⟨_,rfl⟩;obtain⟨V,hV⟩:∃V,lz m (l++[cV C a t])=V:=⟨_,rfl⟩;obtain⟨Z,hZ⟩:∃Z,lz m []=Z:=⟨_,rfl⟩;rw[hG]at be ag ad bj bf f6;rw[hV]at aN ag bj;rw[hZ]at aB ad bf;have gg:=gV G;have gn:=mV V;have gw:=mV Z;have e2:br []=[]:=rfl;rw[e2]at aB;rw[cO]at aN aB be aY;subst ht
    repeat'(first
|(with_reducible first|apply aa.seq|apply aa.block)
|((with_reducible apply aa.text);(try case hm=>exact rfl))
|(with_reducible first|apply aa.skip|apply aa.exit|apply ai|apply aA|apply az)
|((with_reducible apply aa.C4 (effs:=[2,5]) (m:=5));(case hm|he|hk=>exact rfl);(case ht=>(simp only[List.take_succ_cons,List.take_zero];exact rfl));(case hd=>(simp only[List.drop_succ_cons,List.drop_zero];exact rfl));(case hg=>exact rfl))
|((with_reducible apply aa.ak);(case hc=>exact rfl))
|((with_reducible apply ab.aw);(case hp=>exact ae))
|((with_reducible apply ab.cz);(case hp=>exact ae))
|((with_reducible apply ab.dF);(case hp=>exact ae))
|(with_reducible first|apply ab.af|apply ax.af|apply ax.nil)
|((with_reducible apply ax.Ey);(case hx=>((with_reducible apply ah.dI);(case hs=>exact fun _=>rfl);(case ha|ht=>exact rfl);(case hr=>first|(with_reducible exact dB)|(with_reducible exact dC)|(with_reducible exact dD)|(with_reducible exact rw3)|(with_reducible exact rw4)|exact rfl);(case hx|hy|hn|hb=>exact rfl);(case hok=>exact cl);(case hlen=>exact cf);(case hv=>exact rfl);(case hk=>exact dL);(case hf=>exact leq)));(case hk=>kernel_rfl);(case hz=>(apply aH.eq;exact leq)))
|((with_reducible apply ax.u);(case hfl=>kernel_rfl);(case hx=>first
|(exact dy e_)
|(exact rC aN)
|exact ac))
|((with_reducible apply ab.au);(case hW=>exact rfl);(case hx=>exact ac))
|((with_reducible apply ab.u0);(case hx=>first
|(exact bX aB)
|(exact dy be)
|exact ac))
|fail)
    apply aa.aM
    case ho=>exact rfl
    case hp=>exact rfl
    case hl=>exact rfl
    case hs=>exact slt
    refine aI.cd (fun q:Nat=>[(154,.t (.int .i64 (q:Int)))]) (fun q=>[.box false 30 ((cg m).map .t),.box false 36 (([.int .i64 0,.int .i64 (v+1),.int .i64 (fC l+1),aF C,.int .i64 0,.int .i64 (a:Int),.int .i64 0,.int .i64 0,.int .i64 0,.int .i64 0,.int .i64 0,.int .i64 0,.int .i64 1]:List AV).map .t),.row true true 13 (br l++[[.int .i64 0,.int .i64 (v+1),.int .i64 (fC l+1),aF C,.int .i64 0,.int .i64 (a:Int),.int .i64 0,.int .i64 0,.int .i64 0,.int .i64 0,.int .i64 0,.int .i64 0,.int .i64 1]]),.row false false 6 (cR G),.map false (jB (eJ A.eff.aQ q)) (je A.eff.aQ q)]) (fun q=>q<=A.eff.aQ.length) (fun q=>A.eff.aQ.length - q) 0 rfl rfl (by omega) (fun q hq=>?_);rcases Nat.lt_or_ge q A.eff.aQ.length with h5|h5
    ·
     obtain⟨u,hu⟩:=av h5;have hB:=jS hu;have hf:=xm (Ew cp hu);have hks:=Ex hu;have hvs:=I3 hu;have gb:=b5 u (List.mem_of_getElem? hu);unfold jd at hvs;by_cases u0:u.kind=0
     ·
      rw[if_pos u0]at hvs
      repeat'(first
|(with_reducible first|apply aa.seq|apply aa.block)
|((with_reducible apply aa.text);(try case hm=>exact rfl))
|(with_reducible first|apply aa.skip|apply ai|apply aG)
|((with_reducible apply aa.am);(case hc=>exact rfl))
|((with_reducible apply ab.ao);(case hp=>exact ae))
|(with_reducible first|apply ab.af|apply ab.bM)
|((with_reducible apply ab.u0);(case hx=>first
|((with_reducible apply ah.uO);(case hs=>exact fun _=>rfl);(case hm|ha|hk|hd|hy|hb=>exact rfl);(case hf=>exact hf);(case hks=>exact hks);(case hvs=>exact hvs);(case hfr=>exact leq))
|exact ac))
|fail)
      all_goals first
       |exact⟨q+1,rfl,ni rfl rfl rfl rfl rfl,by omega,by omega⟩
       |(exfalso;omega)
     ·
      rw[if_neg u0]at hvs;by_cases u1:u.kind=1
      ·
       rw[if_pos u1]at hvs
       repeat'(first
|(with_reducible first|apply aa.seq|apply aa.block)
|((with_reducible apply aa.text);(try case hm=>exact rfl))
|(with_reducible first|apply aa.skip|apply ai|apply aG)
|((with_reducible apply aa.am);(case hc=>exact rfl))
|((with_reducible apply aa.ak);(case hc=>exact rfl))
|((with_reducible apply ab.ao);(case hp=>exact ae))
|((with_reducible apply ab.aw);(case hp=>exact ae))
|(with_reducible first|apply ab.af|apply ab.bM)
|((with_reducible apply ab.u0);(case hx=>first
|((with_reducible apply ah.uO);(case hs=>exact fun _=>rfl);(case hm|ha|hk|hd|hy|hb=>exact rfl);(case hf=>exact hf);(case hks=>exact hks);(case hvs=>exact hvs);(case hfr=>exact leq))
|exact ac))
|fail)
       all_goals first
        |exact⟨q+1,rfl,ni rfl rfl rfl rfl rfl,by omega,by omega⟩
        |(exfalso;omega)
      ·
       rw[if_neg u1]at hvs
       repeat'(first
|(with_reducible first|apply aa.seq|apply aa.block)
|((with_reducible apply aa.text);(try case hm=>exact rfl))
|(with_reducible first|apply aa.skip|apply ai|apply aG)
|((with_reducible apply aa.am);(case hc=>exact rfl))
|((with_reducible apply aa.ak);(case hc=>exact rfl))
|((with_reducible apply ab.ao);(case hp=>exact ae))
|((with_reducible apply ab.aw);(case hp=>exact ae))
|(with_reducible first|apply ab.af|apply ab.bM)
|((with_reducible apply ab.u0);(case hx=>first
|((with_reducible apply ah.uO);(case hs=>exact fun _=>rfl);(case hm|ha|hk|hd|hy|hb=>exact rfl);(case hf=>exact hf);(case hks=>exact hks);(case hvs=>exact hvs);(case hfr=>exact leq))
|exact ac))
|fail)
       all_goals first
        |exact⟨q+1,rfl,ni rfl rfl rfl rfl rfl,by omega,by omega⟩
        |(exfalso;omega)
    ·
     obtain rfl:q=A.eff.aQ.length:=by omega
     repeat'(first
|(with_reducible first|apply aa.seq|apply aa.block)
|((with_reducible apply aa.text);(try case hm=>exact rfl))
|(with_reducible first|apply aa.exit|apply ai|apply aA|apply az)
|((with_reducible apply aa.ak);(case hc=>exact rfl))
|((with_reducible apply ab.aw);(case hp=>exact ae))
|(with_reducible apply ab.af)
|((with_reducible apply ab.u0);(case hx=>exact ac))
|fail)
     apply aa.aM
     case ho=>exact rfl
     case hp=>exact rfl
     case hl=>exact rfl
     case hs=>exact slt
     refine aI.cd (fun q:Nat=>[(178,.t (.int .i64 (q:Int)))]) (fun q=>[.box false 30 ((cg m).map .t),.box false 36 (([.int .i64 0,.int .i64 (v+1),.int .i64 (fC l+1),aF C,.int .i64 0,.int .i64 (a:Int),.int .i64 0,.int .i64 0,.int .i64 0,.int .i64 0,.int .i64 0,.int .i64 0,.int .i64 1]:List AV).map .t),.row true true 13 (br l++[[.int .i64 0,.int .i64 (v+1),.int .i64 (fC l+1),aF C,.int .i64 0,.int .i64 (a:Int),.int .i64 0,.int .i64 0,.int .i64 0,.int .i64 0,.int .i64 0,.int .i64 0,.int .i64 1]]),.row false false 6 (cR G),.map false (jB (eJ A.eff.aQ A.eff.aQ.length)) (je A.eff.aQ A.eff.aQ.length)]) (fun q=>q<=G.length) (fun q=>G.length - q) 0 rfl rfl (by omega) (fun q hq=>?_);rcases Nat.lt_or_ge q G.length with h6|h6
     ·
      obtain⟨T,hT⟩:=av h6;have gI:=fZ hT;have eL:=ag q T hT;have aU:=ad q T hT;rw[hW]at aU;have cZ:=qn eL;have bd:=qn aU;have an:=GF T.lo T.hi;have al:=aY T.kind (q:Int);obtain⟨w,hw⟩:∃w,(if T.kind=2\/T.kind=3 then 0 else ir T)=w:=⟨_,rfl⟩;rw[hw]at bd;have e6:(aW [w]).length=1:=rfl;have e4:(aW [w])[0]?=some [.int .i64 w]:=rfl;obtain⟨P,hP⟩:∃P,aW [w]=P:=⟨_,rfl⟩;have fm:(dW Z)[q]?=some [.arr P]:=by rw[<- hP];exact bd
      rw[hP]at e6 e4;obtain⟨x,hx⟩:∃x,min (max 0 T.lo) T.hi=x:=⟨_,rfl⟩;rw[hx]at an
      have bc:(T.kind=2\/T.kind=3)/\w=0\/T.kind≠2/\T.kind≠3/\w=x:=by
       unfold ir at hw;rw[hx]at hw;by_cases hk:T.kind=2\/T.kind=3
       ·rw[if_pos hk]at hw;exact .inl ⟨hk,hw.symm⟩
       ·rw[if_neg hk]at hw;exact .inr ⟨fun h=>hk (.inl h),fun h=>hk (.inr h),hw.symm⟩
      clear bd hP hw hW ag ad;rcases Eu (U:=A.eff.aQ) (q:Int)with⟨hf,-⟩|⟨j,u,hf,a6,ct⟩
      ·
       rcases bc with⟨hk|hk,rfl⟩|⟨b3,b4,rfl⟩<;>
       repeat'(first
|(with_reducible first|apply aa.seq|apply aa.block)
|((with_reducible apply aa.text);(try case hm=>exact rfl))
|(with_reducible first|apply aa.skip|apply ai|apply aG)
|((with_reducible apply aa.am);(case hc=>exact rfl))
|((with_reducible apply aa.ak);(case hc=>exact rfl))
|((with_reducible apply ab.ao);(case hp=>exact ae))
|((with_reducible apply ab.aw);(case hp=>exact ae))
|((with_reducible apply ab.cz);(case hp=>exact ae))
|((with_reducible apply ab.bh);(case hp=>exact ae))
|((with_reducible apply ab.aV);(case hp=>exact ae))
|((with_reducible apply ab.dF);(case hp=>exact ae))
|(with_reducible apply ab.af)
|((with_reducible apply ab.gf);(case hW=>exact rfl))
|((with_reducible apply ab.au);(case hW=>exact rfl);(case hx=>exact ac))
|((with_reducible apply ab.u0);(case hx=>first
|((with_reducible apply ah.lk);(case hm|hk|ho=>exact rfl);(case hf=>exact hf);(case hz=>exact rfl))
|(exact aj an)
|exact ac))
|fail)
       all_goals first
        |exact⟨q+1,rfl,ni rfl rfl rfl rfl rfl,by omega,by omega⟩
        |(exfalso;omega)
      ·
       have c1:=I2 a6
       cases a1:qE m T.kind (q:Int)with
       |false=>
        rw[a1]at al;rcases bc with⟨hk|hk,rfl⟩|⟨b3,b4,rfl⟩<;>
        repeat'(first
|(with_reducible first|apply aa.seq|apply aa.block)
|((with_reducible apply aa.text);(try case hm=>exact rfl))
|(with_reducible first|apply aa.skip|apply ai|apply aG)
|((with_reducible apply aa.am);(case hc=>exact rfl))
|((with_reducible apply aa.ak);(case hc=>exact rfl))
|((with_reducible apply ab.ao);(case hp=>exact ae))
|((with_reducible apply ab.aw);(case hp=>exact ae))
|((with_reducible apply ab.cz);(case hp=>exact ae))
|((with_reducible apply ab.bh);(case hp=>exact ae))
|((with_reducible apply ab.aV);(case hp=>exact ae))
|((with_reducible apply ab.dF);(case hp=>exact ae))
|(with_reducible apply ab.af)
|((with_reducible apply ab.gf);(case hW=>exact rfl))
|((with_reducible apply ab.au);(case hW=>exact rfl);(case hx=>first
|(exact aj al)
|exact ac))
|((with_reducible apply ab.u0);(case hx=>first
|((with_reducible apply ah.kx);(case hm|hk|ho=>exact rfl);(case hf=>exact hf);(case hz=>exact c1))
|(exact aj an)
|exact ac))
|fail)
        all_goals first
         |exact⟨q+1,rfl,ni rfl rfl rfl rfl rfl,by omega,by omega⟩
         |(exfalso;omega)
       |true=>
        rw[a1]at al;have hd:=ej T j u (b5 u (List.mem_of_getElem? a6)) a6 (by rw[ct];exact a1);rw[ct]at hd;rw[hd]at cZ;have O:=GG (a:=[jd u]) (b:=[jd u]) (by simp) (by simp);rw[beq_self_eq_true]at O;have e5:aF [jd u]=.arr [[.int .i64 (jd u)]]:=rfl;rw[e5]at O cZ;rcases bc with⟨hk|hk,rfl⟩|⟨b3,b4,rfl⟩<;>
        repeat'(first
|(with_reducible first|apply aa.seq|apply aa.block)
|((with_reducible apply aa.text);(try case hm=>exact rfl))
|(with_reducible first|apply aa.skip|apply ai|apply aG)
|((with_reducible apply aa.am);(case hc=>exact rfl))
|((with_reducible apply aa.ak);(case hc=>exact rfl))
|((with_reducible apply ab.ao);(case hp=>exact ae))
|((with_reducible apply ab.aw);(case hp=>exact ae))
|((with_reducible apply ab.cz);(case hp=>exact ae))
|((with_reducible apply ab.bh);(case hp=>exact ae))
|((with_reducible apply ab.aV);(case hp=>exact ae))
|((with_reducible apply ab.dF);(case hp=>exact ae))
|(with_reducible apply ab.af)
|((with_reducible apply ab.gf);(case hW=>exact rfl))
|((with_reducible apply ab.au);(case hW=>exact rfl);(case hx=>first
|((with_reducible apply ah.oJ (es:=[[.int .i64 (jd u)]]));(case hw=>exact rfl);(case ho=>kernel_rfl);(case h=>kernel_rfl))
|(exact aj al)
|(exact aj O)
|exact ac))
|((with_reducible apply ab.u0);(case hx=>first
|((with_reducible apply ah.kx);(case hm|hk|ho=>exact rfl);(case hf=>exact hf);(case hz=>exact c1))
|(exact aj an)
|exact ac))
|fail)
        all_goals first
         |exact⟨q+1,rfl,ni rfl rfl rfl rfl rfl,by omega,by omega⟩
         |(exfalso;omega)
     ·
      repeat'(first
|(with_reducible apply aa.seq)
|((with_reducible apply aa.text);(try case hm=>exact rfl))
|(with_reducible first|apply aa.exit|apply aa.ret|apply ai|apply aA|apply az)
|((with_reducible apply aa.ak);(case hc=>exact rfl))
|((with_reducible apply ab.aw);(case hp=>exact ae))
|(with_reducible apply ab.af)
|((with_reducible apply ab.u0);(case hx=>exact ac))
|fail)
      exact⟨.inr rfl,rfl⟩
def Bw{m:Nat}{x:AV}(h:Arg Tryz.prog (m+1) 5 x):∃n:Int,x=.int .u8 n/\0<=n/\n<=255:=by
 obtain⟨xs,h1,h2⟩:=h;simp only[aP,Tryz.underlying5]at h1;obtain⟨k,rfl,u⟩:=h1;simp only[Lit.wf,Bool.and_eq_true,decide_eq_true_eq]at u;simp only[Tryz.underlying5]at h2;cases h2;exact⟨k,rfl,u.1,u.2⟩
def EL(xs:List AV)(h:pY Tryz.prog 12 Tryz.f6.params.toList xs):Cl ap 6 (xs.map .t) [] (.t (.bool true)) []:=by
 rw[Tryz.params6]at h;obtain⟨x0,_,rfl,v,x1,_,rfl,h1,x2,_,rfl,h2,rfl⟩:=h;obtain⟨m,rfl,u⟩:=Bu v;obtain⟨l,rfl,y,z⟩:=Bt h1;obtain⟨n,rfl,D,G⟩:=Bw h2;exact EJ u u.eff l n D G y z
end Go.Proofs.YtgbfedgghjcdcaaGreatDoor
