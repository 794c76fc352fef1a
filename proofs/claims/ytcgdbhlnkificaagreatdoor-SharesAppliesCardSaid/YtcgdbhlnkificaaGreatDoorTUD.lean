/- Law 40: shares. No condition. -/
import Derived.Test.YtcgdbhlnkificaaGreatDoorTUA
import Derived.Test.YtcgdbhlnkificaaGreatDoorTLX
set_option linter.all false
namespace Go.Proofs.YtcgdbhlnkificaaGreatDoor
open Go.RowKit
set_option maxRecDepth 100000
set_option maxHeartbeats 32000000
def J5{C:List Int}{c1:AV}{p:Int->Bool}(hl:C.length<=140737488351232)(hp:∀x∈C,Cl aj 43 [.t (.int .i64 x),.t c1] [] (.t (.bool (p x))) []):Cl aj 90 [.t (aD C),.t (.fn (.func 43) 0 [c1])] [] (.t (.int .i64 (bB p C 0))) []:=by
 have z:=aW C;refine Cl.ap rfl Tryz.func90 rfl rfl rfl ?_;refine aq ?_;refine az.ind (fun q:Nat=>[(8,.t (.int .i64 (q:Int)))]) (fun q=>q<=C.length/\bB p C 0=bB p (C.drop q) q) (fun q=>C.length - q) 0 rfl (by simp) (fun q D=>?_);obtain⟨h1,h2⟩:=D;rw[h2];rcases Nat.lt_or_ge q C.length with h3|h3
 ·
  obtain⟨e,u⟩:=am h3;have G:=bg u;have v:=hp e (List.mem_of_getElem? u);rw[drop_at u,ly];obtain⟨b,y⟩:∃b,p e=b:=⟨_,rfl⟩;rw[y]at v⊢
  cases b with
  |true=>
   exact ah
  |false=>
   exact ah
 ·
  rw[List.drop_of_length_le h3];exact ah
def Is{C:List Int}{c1:AV}{p:Int->Bool}(hl:C.length<=140737488351232)(hp:∀x∈C,Cl aj 43 [.t (.int .i64 x),.t c1] [] (.t (.bool (p x))) []):Cl aj 42 [.t (aD C),.t (.fn (.func 43) 0 [c1])] [] (.t (.bool (C.any p))) []:=by
 have u:=J5 hl hp;rw[<- kF p C 0 (by omega)];refine Cl.ap rfl Tryz.func42 rfl rfl rfl ?_;obtain⟨n,v⟩:∃n,bB p C 0=n:=⟨_,rfl⟩;rw[v]at u⊢;exact ah
def PB(R n:Int):Cl aj 43 [.t (.int .i64 n),.t (.tp [.int .i64 R])] [] (.t (.bool (!kX R n))) []:=by
 refine Cl.ap rfl Tryz.func43 rfl rfl rfl ?_;unfold kX;exact ah
def A8{α:Type}{p:Nat->α->Bool}{l:List α}{q:Nat}{x:α}(h:l[q]?=some x)(hq:∀i y,i <q->l[i]?=some y->p i y=true)(hx:p q x=true):∀i y,i <q+1->l[i]?=some y->p i y=true:=fun i y v u=>by
 rcases Nat.lt_or_ge i q with h1|h1
 ·exact hq i y h1 u
 ·obtain rfl:i=q:=by omega
  rw[h]at u;cases u;exact hx
def qu{α:Type}{p:Nat->α->Bool}{l:List α}{q:Nat}{x:α}(h:l[q]?=some x)(hx:p q x=false):allI p l=false:=by
 rw[<- Bool.not_eq_true,eU];intro u;rw[u q x h]at hx;cases hx
def A9{α:Type}{p:Nat->α->Bool}{l:List α}{q:Nat}(hq:∀i y,i <q->l[i]?=some y->p i y=true)(h:l.length<=q):allI p l=true:=by
 rw[eU];intro i y u;exact hq i y (by have:=aC u;omega) u
def tU{m:Md}{p:Pln}{R:Int}{l:aO}(h:PW m p)(hl:Rm l):Cl aj 15 [.t (bN m),.t (a_ p),.t (.int .i64 R),.t (.arr (aU l))] [] (.t (.bool (cT m p R l))) []:=by
 have G:=h.v;have aR:=mH l;have aM:=kP p.aA;have ax:=h.pl.aA;obtain⟨aG,ao⟩:=hl;unfold cT
 cases hv:cy m p with
 |false=>
  rw[hv]at G;rw[Bool.false_and];unfold a_ at G⊢;rw[aZ,bK]at G⊢;refine Cl.ap rfl Tryz.func15 rfl rfl rfl ?_;exact ah
 |true=>
  rw[hv]at G;rw[Bool.true_and];by_cases hR:(1<=R/\R<=5)/\l.length=p.aA.length
  ·
   obtain⟨⟨ab,ad⟩,ag⟩:=hR;rw[decide_eq_true ab,decide_eq_true ad,decide_eq_true ag,show(true&&true)=true from rfl,Bool.true_and,Bool.true_and];have kE:=fun(i:Int)=>zw (i:=i) h;have J:=qI m p;obtain⟨T,hT⟩:∃T,allI (mF m p R) l=T:=⟨_,rfl⟩;rw[hT];unfold a_ at G kE⊢;rw[bK]at G kE⊢;rw[aZ]at G kE⊢;refine Cl.ap rfl Tryz.func15 rfl rfl rfl ?_;refine aq ?_;refine az.ind (fun q:Nat=>[(35,.t (.int .i64 (q:Int)))]) (fun q=>q<=l.length/\∀i y,i <q->l[i]?=some y->mF m p R i y=true) (fun q=>l.length - q) 0 rfl ⟨Nat.zero_le _,fun i y h=>absurd h (Nat.not_lt_zero _)⟩ (fun q hq=>?_);obtain⟨aY,al⟩:=hq;rcases Nat.lt_or_ge q l.length with h5|h5
   ·
    obtain⟨x,u⟩:=am h5;have hc:=mG u;have aT:=nV x;have kE:=kE (q:Int);have J:=J (q:Int);obtain⟨a1,av⟩:=ao x (List.mem_of_getElem? u);have I:mF m p R q x=(decide ((x.length:Int)=eu m p q)&&x.all (oL R)):=rfl;obtain⟨E,hE⟩:∃E,eu m p (q:Int)=E:=⟨_,rfl⟩;rw[hE]at kE J I;by_cases h6:(x.length:Int)=E
    ·
     rw[decide_eq_true h6,Bool.true_and]at I;refine aq ?_;refine az.ind (fun k:Nat=>[(49,.t (.int .i64 (k:Int)))]) (fun k=>k<=x.length/\(x.take k).all (oL R)=true) (fun k=>x.length - k) 0 rfl ⟨Nat.zero_le _,rfl⟩ (fun k hk=>?_);obtain⟨aF,U⟩:=hk;rcases Nat.lt_or_ge k x.length with h7|h7
     ·
      obtain⟨y,D⟩:=am h7;have aB:=lf D;have aX:=aW y;have au:=mU D U;have a6:=av y (List.mem_of_getElem? D);have kc:=Is (C:=y) (c1:=.tp [.int .i64 R]) (p:=fun n=>!kX R n) (by omega) (fun n _=>PB R n);rw[A_]at kc;have Z:oL R y=(decide ((y.length:Int)=R)&&y.all (kX R)):=rfl;obtain⟨W,hW⟩:∃W,y.all (kX R)=W:=⟨_,rfl⟩;rw[hW]at kc Z;by_cases h8:(y.length:Int)=R
      ·
       rw[decide_eq_true h8,Bool.true_and]at Z
       cases W with
       |true=>
        refine aq ?_;exact⟨k+1,rfl,rfl,⟨by omega,au.trans Z⟩,by omega⟩
       |false=>
        have z:T=false:=by
         rw[<- hT];exact qu u (I.trans (jm (List.mem_of_getElem? D) Z))
        subst z;exact ah
      ·
       rw[decide_eq_false h8,Bool.false_and]at Z
       have z:T=false:=by
        rw[<- hT];exact qu u (I.trans (jm (List.mem_of_getElem? D) Z))
       subst z;exact ah
     ·
      rw[List.take_of_length_le h7]at U;refine aq ?_;exact⟨q+1,rfl,rfl,⟨by omega,A8 u al (I.trans U)⟩,by omega⟩
    ·
     rw[decide_eq_false h6,Bool.false_and]at I
     have z:T=false:=by
      rw[<- hT];exact qu u I
     subst z;exact ah
   ·
    have an:T=true:=by
     rw[<- hT];exact A9 al h5
    subst an;exact ah
  ·
   have I:((decide (1<=R)&&decide (R<=5))&&(decide (l.length=p.aA.length)&&allI (mF m p R) l))=false:=by
    rw[<- Bool.not_eq_true];simp only[Bool.and_eq_true,decide_eq_true_eq];exact fun hh=>hR ⟨hh.1,hh.2.1⟩
   rw[I];have V:l.length=p.aA.length↔(l.length:Int)=(p.aA.length:Int):=by omega
   rw[V]at hR;unfold a_ at G⊢;rw[bK]at G⊢;rw[aZ]at G⊢;refine Cl.ap rfl Tryz.func15 rfl rfl rfl ?_;by_cases ab:R <1
   ·
    exact ah
   ·
    by_cases ad:5 <R
    ·
     exact ah
    ·
     have aN:¬(l.length:Int)=(p.aA.length:Int):=fun hh=>hR ⟨by omega,hh⟩;exact ah
def PI:bn aj.P 49=some (true,3):=by kernel_rfl
def F4{m:Md}{p:Pln}{R:Nat}{l:aO}{r:Nat}{a:Int}(h:PW m p)(hf:p.aM.length<=1000)(hs:cT m p (R:Int) l=true)(hr:r <R)(ha:b9 m a=true):Cl aj 44 [.t (bN m),.t (a_ p),.t (.int .i64 (R:Int)),.t (.arr (aU l)),.t (.int .i64 (r:Int)),.t (.int .i64 a)] [] (.t (.arr (cH (fq l (r:Int) (dS m p a (R:Int)))))) []:=by
 obtain⟨hv,hR,bb,hi⟩:=lU.1 hs;have V:vk m p a (R:Int)=true:=C0.2 ⟨hv,jB.1 ha,hR⟩;have J:=MO h V (by omega);have hA:=fun x (hx:x∈dS m p a (R:Int)) (h1:x.k=1)=>JS hs hx h1 (r:=r) (by omega)
 have ad:(dS m p a (R:Int)).length<=2000:=by
  have h1:=L0 m p a (R:Int);have:=(kU.1 hv).gb;omega
 have ap:=tA (dS m p a (R:Int));have al:=DO l (r:Int);obtain⟨pb,au⟩:∃b,h_ p a=b:=⟨_,rfl⟩;rw[au]at J;generalize dS m p a (R:Int)=A at J hA ad ap⊢;unfold a_ at J⊢;rw[aZ,bK]at J⊢;refine Cl.gr rfl Tryz.func44 rfl rfl rfl ?_;refine aq ?_;refine az.c8 (fun x:Nat×Bool×List cz=>[(13,.ls 3),(29,.t (.int .i64 (x.1:Int)))]) (fun x=>[.box false 30 (([aD m.ao,.arr (bC m.tables),.arr (cq m.bH),.arr (fk m.cons),.arr (fv m.ops),.arr (eg m.ax),.arr (c7 m.aG)]:List AV).map .t),.box false 35 (([.arr (gJ p.aM),.arr (fM p.aA),.arr (cM p.places),aD p.bj]:List AV).map .t),.row false false 4 (cH A),.row false x.2.1 4 (cH x.2.2)]) (fun x=>x.1<=A.length/\x.2.2=fq l (r:Int) (A.take x.1)) (fun x=>A.length - x.1) (0,false,[]) rfl rfl ⟨by dsimp only;omega,rfl⟩ (fun x hq=>?_);obtain⟨q,I,O⟩:=x;dsimp only at hq⊢;obtain⟨h1,h2⟩:=hq
 have aT:O.length<=2000:=by
  rw[h2];exact Nat.le_trans (al _) (by rw[List.length_take];omega)
 rcases Nat.lt_or_ge q A.length with h3|h3
 ·
  obtain⟨x,z⟩:=am h3;have hc:=ze z;have v:=LI (l:=l) (r:=(r:Int)) z;rw[<- h2]at v;by_cases hk:x.k=1
  ·
   obtain⟨i,k,X,Y,n,e1,e2,hX,hY,hn,av,bd,aN⟩:=hA x (List.mem_of_getElem? z) hk;rw[av]at v;obtain⟨xk,xi,xe,D⟩:=x;dsimp only at hk e1 e2 hc v aN;subst hk e1 e2;have Z:(aU l)[i]?=some [.arr (bA X)]:=mG hX;have ab:(bA X)[k]?=some [.arr (aL Y)]:=lf hY;have an:(aL Y)[r]?=some [.int .i64 n]:=bg hn;have aX:i <(aU l).length:=aC Z;have a1:k <(bA X).length:=aC ab;have a6:r <(aL Y).length:=aC an;by_cases y:n <D
   ·
    rw[if_pos ⟨rfl,y⟩]at v;have ag:cn ((cH O).length+1) 32=true:=by rw[tA];exact yO (by omega)
    have G:cH O++[[.int .i64 1,.int .i64 (i:Int),.int .i64 (k:Int),.int .i64 (D - n)]]=cH (O++[⟨1,(i:Int),(k:Int),D - n⟩]):=vI O [⟨1,(i:Int),(k:Int),D - n⟩]
    repeat'(first
|(with_reducible first|apply ac.seq|apply ac.block)
|((with_reducible apply ac.text);(try case hm=>exact rfl))
|((with_reducible apply ac.drawn);(case hm=>exact rfl))
|(with_reducible first|apply ac.skip|apply aH)
|((with_reducible apply ac.aR);(case hc=>exact rfl))
|((with_reducible apply ac.aY);(case hc=>exact rfl))
|((with_reducible apply aa.aF);(case hp=>exact ak))
|((with_reducible apply aa.dK);(case hp=>exact ak))
|(with_reducible first|apply aa.aB|apply aa.dF)
|((with_reducible apply aa.u);(case hx=>((with_reducible apply af.ei);(case hs=>exact fun _=>rfl);(case ha|ht=>exact rfl);(case hr=>first|(with_reducible exact ec)|(with_reducible exact rw1)|(with_reducible exact ed)|(with_reducible exact rw3)|(with_reducible exact rw4)|exact rfl);(case hx|hy|hn|hb|hok=>exact rfl);(case hlen=>exact ag);(case hv=>exact G);(case hk=>exact ez);(case hf=>exact leq))))
|((with_reducible apply aa.u0);(case hx=>first
|((with_reducible apply af.yM (n:=3));(case ht=>exact PI);(case hy|hb|hl|hv=>exact rfl);(case hx=>(repeat'(first|exact jW.nil|(apply jW.cons)))))
|exact ae))
|fail)
    exact⟨(q+1,true,O++[⟨1,(i:Int),(k:Int),D - n⟩]),rfl,rfl,⟨by dsimp only;omega,v.symm⟩,by dsimp only;omega⟩
   ·
    rw[if_neg (fun U=>y U.2),List.append_nil]at v;refine aq ?_;exact⟨(q+1,I,O),rfl,rfl,⟨by dsimp only;omega,v.symm⟩,by dsimp only;omega⟩
  ·
   rw[if_neg (fun U=>hk U.1),List.append_nil]at v;obtain⟨xk,xi,xe,D⟩:=x;dsimp only at hk hc;refine aq ?_;exact⟨(q+1,I,O),rfl,rfl,⟨by dsimp only;omega,v.symm⟩,by dsimp only;omega⟩
 ·
  rw[List.take_of_length_le h3]at h2;rw[<- h2];exact ah
def Ao{m:Md}{p:Pln}{R:Int}{l:aO}{r a:Int}(h:PW m p)(hf:p.aM.length<=1000)(hl:Rm l):Cl aj 17 [.t (bN m),.t (a_ p),.t (.int .i64 R),.t (.arr (aU l)),.t (.int .i64 r),.t (.int .i64 a)] [] (.t (.aN [.arr (cH (rP m p R l r a).1),.int .i64 (rP m p R l r a).2])) []:=by
 have u:=tU (R:=R) h hl;have I:(eg m.ax).length=m.ax.length:=List.length_map _;unfold rP
 cases hs:cT m p R l with
 |false=>
  rw[hs]at u;rw[if_neg (by decide)];unfold a_ at u⊢;rw[aZ,bK]at u⊢;refine Cl.gr rfl Tryz.func17 rfl rfl rfl ?_;exact ah
 |true=>
  rw[hs]at u;rw[if_pos rfl];obtain⟨hv,hR,U,hi⟩:=lU.1 hs;obtain⟨N,rfl⟩:=Int.eq_ofNat_of_zero_le (show 0<=R by omega);by_cases v:(0<=r/\r <(N:Int))/\0<=a/\a <m.ax.length
  ·
   rw[if_pos v];obtain⟨⟨z,Z⟩,D,G⟩:=v;obtain⟨r,rfl⟩:=Int.eq_ofNat_of_zero_le z;have y:=F4 h hf hs (r:=r) (by omega) (jB.2 ⟨D,G⟩);generalize fq l (r:Int) (dS m p a (N:Int))=X at y⊢;unfold a_ at u y⊢;rw[aZ,bK]at u y⊢;refine Cl.gr rfl Tryz.func17 rfl rfl rfl ?_;exact ah
  ·
   rw[if_neg v];have J:r <0\/(N:Int)<=r\/a <0\/(m.ax.length:Int)<=a:=by omega
   unfold a_ at u⊢;rw[aZ,bK]at u⊢;refine Cl.gr rfl Tryz.func17 rfl rfl rfl ?_
   repeat'(first
|((with_reducible apply aa.cj);(case hp=>exact ak))
|((with_reducible apply aa.aX)<;>intro V)
|((with_reducible apply aa.bi)<;>intro V)
|(refine aw ?_)
|((with_reducible apply aa.av);(case hW=>exact rfl);(case hx=>exact ae))
|((with_reducible apply aa.u0);(case hx=>first
|(exact ai u)
|exact ae))
|fail)
   all_goals first|exact⟨.inr rfl,rfl⟩|(exfalso;omega)
def pk{m:Md}{p:Pln}{e:Ev}{n:Int}{l:aO}(hk:gl m p n e=true)(hs:cT m p n l=true):iS l e/\n=e.past.length/\(0<=e.r/\e.r <n)/\(e.k=0->b9 m e.a=true):=by
 unfold gl qj at hk;simp only[Bool.and_eq_true,Bool.or_eq_true,Bool.not_eq_true',decide_eq_true_eq,decide_eq_false_iff_not]at hk;obtain⟨⟨I,hn,z⟩,y⟩:=hk;have u:=I;unfold ew at u;rw[Bool.and_eq_true]at u;obtain⟨hh,u⟩:=u;unfold oh je dA at hh;simp only[Bool.and_eq_true,decide_eq_true_eq]at hh;obtain⟨hv,hR,ad,hi⟩:=lU.1 hs;refine⟨fun v=>?_,by omega,by omega,fun V=>?_⟩
 ·rw[v]at y
  have U:e.k=1/\e.gk=1:=by
   unfold gE at v;simpa using v
  rw[if_neg (by omega),if_pos U.1]at u;simp only[Bool.and_eq_true,qT,dA,decide_eq_true_eq]at u;obtain⟨⟨⟨⟨⟨⟨f1,f2⟩,f3⟩,f4⟩,f5⟩,f6⟩,_⟩:=u;rcases y with y|y
  ·cases y
  obtain⟨t1,t2⟩:=y;obtain⟨X,Z⟩:=am (xs:=l) (k:=e.gi.toNat) (by omega);obtain⟨D,G⟩:=hi _ X Z;have J:((e.gi.toNat:Nat):Int)=e.gi:=by omega
  rw[J]at D;obtain⟨Y,hY⟩:=am (xs:=X) (k:=e.ge.toNat) (by omega);have ab:=(G Y (List.mem_of_getElem? hY)).1;exact⟨by omega,by omega,X,Y,Z,hY,by omega,by omega⟩
 ·rw[jB];rw[if_pos V]at u;simp only[Bool.and_eq_true,sd,dA,decide_eq_true_eq]at u;rcases z with z|z
  ·exact absurd V z
  ·exact⟨by omega,z⟩
def LJ{l:aO}{r:Int}{A:List cz}:fq l r A=[]↔(fq l r A).length=0:=by rw[List.length_eq_zero_iff]
def Ae{m:Md}{p:Pln}{l:aO}{e:Ev}(h:PW m p)(hf:p.aM.length<=1000)(hl:Rm l)(he:e.past.length<=1000000):Cl aj 18 [.t (bN m),.t (a_ p),.t (.arr (aU l)),.t (c6 e)] [] (.t (.aN [.arr (aU (gM m p l e).1),.int .i64 (gM m p l e).2])) []:=by
 have z:=h.v;have u:=FX h (e.past.length:Int) e (by omega);have y:=tU (R:=(e.past.length:Int)) h hl;have kc:=FD hl;have ao:=aW e.past;unfold gM;by_cases D:cy m p=true/\gl m p e.past.length e=true/\cT m p e.past.length l=true
 ·
  rw[if_pos D];obtain⟨hv,hk,hs⟩:=D;rw[hv]at z;rw[hk]at u;rw[hs]at y;obtain⟨al,_,⟨ag,ap⟩,J⟩:=pk hk hs;have I:=Ok (b0:=true) (N:=(e.past.length:Int)) al;obtain⟨B,hB⟩:∃B,((ij e).foldl (ig e.past.length) (l,true)).2=B:=⟨_,rfl⟩;obtain⟨L,hL⟩:∃L,(ij e).foldl cE l=L:=⟨_,rfl⟩;rw[hB,hL]at I;rw[hB,hL];by_cases h0:e.k=0
  ·
   obtain⟨r,hr⟩:=Int.eq_ofNat_of_zero_le ag;have G:=F4 h hf hs (r:=r) (by omega) (J h0);rw[<- hr]at G;have ab:=LJ (l:=l) (r:=e.r) (A:=dS m p e.a e.past.length);generalize fq l e.r (dS m p e.a e.past.length)=X at G ab⊢;have an:=tA X;by_cases hX:X=[]
   ·
    rw[if_neg (fun hh=>hh.2 hX)];have ad:=ab.1 hX
    cases B with
    |true=>
     rw[if_pos rfl];unfold a_ at z u y G⊢;unfold c6 cx at u I⊢;rw[aZ,bK]at z u y G⊢;refine Cl.gr rfl Tryz.func18 rfl rfl rfl ?_
     repeat'(first
|(refine a8 ?_)
|(refine aw ?_)
|((with_reducible apply aa.av);(case hW=>exact rfl);(case hx=>first
|(exact ai u)
|(exact ai y)
|(exact di G)
|exact ae))
|((with_reducible apply aa.u0);(case hx=>first
|(exact ai z)
|(exact iG kc)
|(exact lN [5,6,3,4] I)
|exact ae))
|fail)
     exact⟨.inr rfl,rfl⟩
    |false=>
     rw[if_neg (by decide)];unfold a_ at z u y G⊢;unfold c6 cx at u I⊢;rw[aZ,bK]at z u y G⊢;refine Cl.gr rfl Tryz.func18 rfl rfl rfl ?_
     repeat'(first
|(refine a8 ?_)
|(refine aw ?_)
|((with_reducible apply aa.av);(case hW=>exact rfl);(case hx=>first
|(exact ai u)
|(exact ai y)
|(exact di G)
|exact ae))
|((with_reducible apply aa.u0);(case hx=>first
|(exact ai z)
|(exact iG kc)
|(exact lN [5,6,3,4] I)
|exact ae))
|fail)
     exact⟨.inr rfl,rfl⟩
   ·
    rw[if_pos ⟨h0,hX⟩];have ad:0 <X.length:=List.length_pos_iff.2 hX;unfold a_ at z u y G⊢;unfold c6 cx at u⊢;rw[aZ,bK]at z u y G⊢;refine Cl.gr rfl Tryz.func18 rfl rfl rfl ?_;exact ah
  ·
   rw[if_neg (fun hh=>h0 hh.1)]
   cases B with
   |true=>
    rw[if_pos rfl];unfold a_ at z u y⊢;unfold c6 cx at u I⊢;rw[aZ,bK]at z u y⊢;refine Cl.gr rfl Tryz.func18 rfl rfl rfl ?_
    repeat'(first
|((with_reducible apply aa.bk);(case hp=>exact ak))
|(refine aw ?_)
|((with_reducible apply aa.av);(case hW=>exact rfl);(case hx=>first
|(exact ai u)
|(exact ai y)
|exact ae))
|((with_reducible apply aa.u0);(case hx=>first
|(exact ai z)
|(exact iG kc)
|(exact lN [5,6,3,4] I)
|exact ae))
|fail)
    exact⟨.inr rfl,rfl⟩
   |false=>
    rw[if_neg (by decide)];unfold a_ at z u y⊢;unfold c6 cx at u I⊢;rw[aZ,bK]at z u y⊢;refine Cl.gr rfl Tryz.func18 rfl rfl rfl ?_
    repeat'(first
|((with_reducible apply aa.bk);(case hp=>exact ak))
|(refine aw ?_)
|((with_reducible apply aa.av);(case hW=>exact rfl);(case hx=>first
|(exact ai u)
|(exact ai y)
|exact ae))
|((with_reducible apply aa.u0);(case hx=>first
|(exact ai z)
|(exact iG kc)
|(exact lN [5,6,3,4] I)
|exact ae))
|fail)
    exact⟨.inr rfl,rfl⟩
 ·
  rw[if_neg D];obtain⟨b1,U⟩:∃b,cy m p=b:=⟨_,rfl⟩;obtain⟨b2,V⟩:∃b,gl m p e.past.length e=b:=⟨_,rfl⟩;obtain⟨b3,Z⟩:∃b,cT m p e.past.length l=b:=⟨_,rfl⟩;rw[U]at z;rw[V]at u;rw[Z]at y;rw[U,V,Z]at D;unfold a_ at z u y⊢;unfold c6 cx at u⊢;rw[aZ,bK]at z u y⊢;refine Cl.gr rfl Tryz.func18 rfl rfl rfl ?_
  cases b1 with
  |false=>
   exact ah
  |true=>
   cases b2 with
   |false=>
    exact ah
   |true=>
    cases b3 with
    |false=>
     exact ah
    |true=>exact absurd ⟨rfl,rfl,rfl⟩ D
end Go.Proofs.YtcgdbhlnkificaaGreatDoor
