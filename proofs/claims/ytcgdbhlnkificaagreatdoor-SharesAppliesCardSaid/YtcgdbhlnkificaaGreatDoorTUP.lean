/- Law 40: the reference's needs,moves,known,moved and. No condition. -/
import Derived.Test.YtcgdbhlnkificaaGreatDoorTUG
import Derived.Test.YtcgdbhlnkificaaGreatDoorTUI
import Derived.Test.YtcgdbhlnkificaaGreatDoorRPG
import Derived.Test.YtcgdbhlnkificaaGreatDoorTUM
set_option linter.all false
namespace Go.Proofs.YtcgdbhlnkificaaGreatDoor
open Go.RowKit
set_option maxRecDepth 100000
set_option maxHeartbeats 32000000
def Rr(e:Ev):Cl aj 51 [.t (c6 e)] [] (.t (.bool (gE e))) []:=by
 refine Cl.ap rfl Tryz.func51 rfl rfl rfl ?_;unfold gE
 repeat'(first
|(refine aw ?_)
|((with_reducible apply aa.gd);(case hW=>first|exact JG rfl rfl|exact JF rfl rfl|((with_reducible apply JE);(case h=>exact rfl);(case he=>repeat(first|with_reducible exact Cc _ _ _|(with_reducible refine Ce rfl ?_)|with_reducible refine Cd ?_)))|((with_reducible apply JD);(case h=>exact rfl);(case he=>repeat(first|with_reducible exact Cc _ _ _|(with_reducible refine Ce rfl ?_)|with_reducible refine Cd ?_))));(case hx=>(intro u;(rw[u]);(first
|((with_reducible apply af.yh);(case hy|ho=>exact rfl);(case hn=>(conv=>lhs;whnf);try exact rfl))
|exact af.r fun _=>rfl))))
|((with_reducible apply aa.u0);(case hx=>first
|((with_reducible apply af.mv);(conv=>lhs;whnf);try exact rfl)
|((with_reducible apply af.asg);(conv=>lhs;whnf);try exact rfl)
|((with_reducible apply af.yh);(case hy|ho=>exact rfl);(case hn=>(conv=>lhs;whnf);try exact rfl))
|((with_reducible apply af.BC);(case hs=>exact fun _=>rfl);(case hy=>exact rfl);(case ho=>kernel_rfl);(case hn=>exact Dy);(case hf=>exact leq))
|((with_reducible apply af.and);(case hc|hx|hy=>exact rfl))
|exact af.r fun _=>rfl))
|fail)
 all_goals(refine ba (.inr rfl) rfl ?_;simp)
def Q5(m:Md)(p:Pln)(e:Ev):Bool:=!gE e ||(decide (e.gi <p.aA.length)&&decide (e.ge <eu m p e.gi))
def RM{m:Md}{p:Pln}(h:PW m p)(e:Ev):Cl aj 50 [.t (bN m),.t (a_ p),.t (c6 e)] [] (.t (.bool (Q5 m p e))) []:=by
 have v:=Rr e;have u:=EF (i:=e.gi) h;have z:=kP p.aA;have D:=h.pl.aA;unfold Q5;obtain⟨t,ht⟩:∃t,gE e=t:=⟨_,rfl⟩;rw[ht]at v⊢;obtain⟨E,y⟩:∃E,eu m p e.gi=E:=⟨_,rfl⟩;rw[y]at u⊢;unfold a_ at u⊢;rw[bK]at u⊢;rw[aZ]at u⊢;unfold c6 cx at v⊢;refine Cl.ap rfl Tryz.func50 rfl rfl rfl ?_
 cases t with
 |false=>
  rw[show(!false ||(decide (e.gi <p.aA.length)&&decide (e.ge <E)))=true from rfl]
  repeat'(first
|(refine aw ?_)
|((with_reducible apply aa.u0);(case hx=>first
|((with_reducible apply af.yM (n:=3));(case ht=>exact PI);(case hy|hb|hl|hv=>exact rfl);(case hx=>(repeat'(first|exact jW.nil|(apply jW.cons)))))
|(exact ai v)
|exact ae))
|fail)
  exact⟨.inr rfl,rfl⟩
 |true=>
  rw[show(!true ||(decide (e.gi <p.aA.length)&&decide (e.ge <E)))=(decide (e.gi <p.aA.length)&&decide (e.ge <E)) from rfl];by_cases h1:e.gi <p.aA.length
  ·
   by_cases h2:e.ge <E
   ·
    rw[decide_eq_true h1,decide_eq_true h2]
    repeat'(first
|((with_reducible apply aa.cj);(case hp=>exact ak))
|(refine aw ?_)
|((with_reducible apply aa.av);(case hW=>exact rfl);(case hx=>first
|(exact ai u)
|exact ae))
|((with_reducible apply aa.u0);(case hx=>first
|((with_reducible apply af.yM (n:=3));(case ht=>exact PI);(case hy|hb|hl|hv=>exact rfl);(case hx=>(repeat'(first|exact jW.nil|(apply jW.cons)))))
|(exact ai v)
|exact ae))
|fail)
    exact⟨.inr rfl,rfl⟩
   ·
    rw[decide_eq_true h1,decide_eq_false h2]
    repeat'(first
|(refine a8 ?_)
|(refine aw ?_)
|((with_reducible apply aa.av);(case hW=>exact rfl);(case hx=>first
|(exact ai u)
|exact ae))
|((with_reducible apply aa.u0);(case hx=>first
|((with_reducible apply af.yM (n:=3));(case ht=>exact PI);(case hy|hb|hl|hv=>exact rfl);(case hx=>(repeat'(first|exact jW.nil|(apply jW.cons)))))
|(exact ai v)
|exact ae))
|fail)
    exact⟨.inr rfl,rfl⟩
  ·
   rw[decide_eq_false h1]
   repeat'(first
|((with_reducible apply aa.c_);(case hp=>exact ak))
|(refine aw ?_)
|((with_reducible apply aa.av);(case hW=>exact rfl);(case hx=>exact ae))
|((with_reducible apply aa.u0);(case hx=>first
|((with_reducible apply af.yM (n:=3));(case ht=>exact PI);(case hy|hb|hl|hv=>exact rfl);(case hx=>(repeat'(first|exact jW.nil|(apply jW.cons)))))
|(exact ai v)
|exact ae))
|fail)
   exact⟨.inr rfl,rfl⟩
def QU(A:List cz):List cz:=A.filter fun x=>decide (x.k=1)
def SA{A:List cz}{q:Nat}{x:cz}(h:A[q]?=some x):QU (A.take (q+1))=QU (A.take q)++if x.k=1 then[x]else[]:=by
 unfold QU;rw[List.take_add_one,List.filter_append,h];congr 1;by_cases u:x.k=1
 ·simp[u]
 ·simp[u]
def RQ{m:Md}{p:Pln}{k R:Int}(h:PW m p)(hX:Q3 m)(y:vk m p k R=true)(hf:p.aM.length<=1000):Cl aj 53 [.t (bN m),.t (a_ p),.t (.int .i64 k),.t (.int .i64 R)] [] (.t (.arr (cH (QU (dS m p k R))))) []:=by
 have hv:=(C0.1 y).1
 have ag:(dS m p k R).length<=4000:=by
  have h1:=L0 m p k R;have:=(kU.1 hv).gb;omega
 have Z:=Su h hX y (by omega);have al:=tA (dS m p k R);obtain⟨pb,V⟩:∃b,h_ p k=b:=⟨_,rfl⟩;rw[V]at Z;generalize dS m p k R=A at*
 unfold a_ at Z⊢;rw[aZ,bK]at Z⊢;refine Cl.gr rfl Tryz.func53 rfl rfl rfl ?_;refine aq ?_;refine az.c8 (fun x:Nat×Bool×List cz=>[(11,.ls 3),(12,.t (.int .i64 (x.1:Int)))]) (fun x=>[.box false 30 (([aD m.ao,.arr (bC m.tables),.arr (cq m.bH),.arr (fk m.cons),.arr (fv m.ops),.arr (eg m.ax),.arr (c7 m.aG)]:List AV).map .t),.box false 35 (([.arr (gJ p.aM),.arr (fM p.aA),.arr (cM p.places),aD p.bj]:List AV).map .t),.row false false 4 (cH A),.row false x.2.1 4 (cH x.2.2)]) (fun x=>x.1<=A.length/\x.2.2=QU (A.take x.1)) (fun x=>A.length - x.1) (0,false,[]) rfl rfl ⟨by dsimp only;omega,rfl⟩ (fun x hq=>?_);obtain⟨q,ab,O⟩:=x;dsimp only at hq⊢;obtain⟨h1,h2⟩:=hq
 have ad:O.length<=q:=by
  rw[h2];unfold QU;exact Nat.le_trans (List.length_filter_le _ _) (by rw[List.length_take];omega)
 rcases Nat.lt_or_ge q A.length with h3|h3
 ·
  obtain⟨x,D⟩:=am h3;have hc:=ze D;have v:=SA D;rw[<- h2]at v;obtain⟨xk,I,G,J⟩:=x;dsimp only at hc v;by_cases hk:xk=1
  ·
   subst hk;rw[if_pos rfl]at v;have U:cn ((cH O).length+1) 32=true:=by rw[tA];exact yO (by omega)
   have z:cH O++[[.int .i64 1,.int .i64 I,.int .i64 G,.int .i64 J]]=cH (O++[⟨1,I,G,J⟩]):=vI O [⟨1,I,G,J⟩]
   repeat'(first
|(with_reducible first|apply ac.seq|apply ac.block)
|((with_reducible apply ac.text);(try case hm=>exact rfl))
|(with_reducible first|apply ac.skip|apply aH)
|((with_reducible apply ac.aR);(case hc=>exact rfl))
|((with_reducible apply aa.aF);(case hp=>exact ak))
|(with_reducible first|apply aa.aB|apply aa.dF)
|((with_reducible apply aa.u);(case hx=>((with_reducible apply af.ei);(case hs=>exact fun _=>rfl);(case ha|ht=>exact rfl);(case hr=>first|(with_reducible exact ec)|(with_reducible exact rw1)|(with_reducible exact ed)|(with_reducible exact rw3)|(with_reducible exact rw4)|exact rfl);(case hx|hy|hn|hb|hok=>exact rfl);(case hlen=>exact U);(case hv=>exact z);(case hk=>exact ez);(case hf=>exact leq))))
|((with_reducible apply aa.u0);(case hx=>exact ae))
|fail)
   exact⟨(q+1,true,O++[⟨1,I,G,J⟩]),rfl,rfl,⟨by dsimp only;omega,v.symm⟩,by dsimp only;omega⟩
  ·
   rw[if_neg hk,List.append_nil]at v;refine aq ?_;exact⟨(q+1,ab,O),rfl,rfl,⟨by dsimp only;omega,v.symm⟩,by dsimp only;omega⟩
 ·
  rw[List.take_of_length_le h3]at h2;rw[<- h2];exact ah
def RP{l:aO}{e:Ev}(hl:Rm l)(h:iS l e)(ht:gE e=true):Cl aj 52 [.t (.arr (aU l)),.t (c6 e)] [] (.t (.arr (aU (cS l e)))) []:=by
 obtain⟨⟨h1,h2,h3,h4⟩,_,_⟩:=h ht;obtain⟨i1,_⟩:=h.ol ht (0 - e.ga);obtain⟨X,Y,n,I,U,hn,_,v⟩:=qZ i1;have j2:mO (cE l ⟨e.gi.toNat,e.ge.toNat,e.r.toNat,0 - e.ga⟩) ⟨e.gi.toNat,e.ge.toNat,e.to.toNat,e.ga⟩:=((h.qs (Q0 i1)).ol ht e.ga).2;obtain⟨X2,Y2,n2,z,D,G,_,u⟩:=qZ j2;dsimp only at I U hn v z D G u;have J:=aC I;have V:=aC U;rw[v,List.getElem?_set_self J]at z;cases z;rw[List.getElem?_set_self V]at D;cases D;have hw:n+(0 - e.ga)=n - e.ga:=by omega
 rw[hw]at G v u
 have Z:cS l e=l.set e.gi.toNat (X.set e.ge.toNat ((Y.set e.r.toNat (IntKind.i64.wrap (n - e.ga))).set e.to.toNat (IntKind.i64.wrap (n2+e.ga)))):=by
  unfold cS ij;rw[if_pos ht];show cE (cE l ⟨e.gi.toNat,e.ge.toNat,e.r.toNat,0 - e.ga⟩) ⟨e.gi.toNat,e.ge.toNat,e.to.toNat,e.ga⟩=_
  rw[u,v,List.set_set,List.set_set]
 refine Cl.ext (xs:=[.arr (aU l),c6 e]) (by kernel_rfl) rfl ?_;have y:∀(c:List Int) (q:Nat) (n:Int),(aL c).set q [.int .i64 n]=aL (c.set q n):=fun c q n=>by unfold aL;rw[List.map_set]
 have h5:Q8 (aU l) e.gi e.ge e.r e.to e.ga=some (.t (.arr (aU (cS l e))),[]):=by
  unfold Q8;rw[Kj hl,decide_eq_true (show(0<=e.gi/\0<=e.ge)/\0<=e.r/\0<=e.to from⟨⟨h1,h2⟩,h3,h4⟩),mG I];show(match(bA X)[e.ge.toNat]? with|some [.arr ys]=>_|_=>none)=_
  rw[lf U];show(match(aL Y)[e.r.toNat]? with|some [.int .i64 n]=>_|_=>none)=_
  rw[bg hn];show(match((aL Y).set e.r.toNat [.int .i64 (IntKind.i64.wrap (n - e.ga))])[e.to.toNat]? with|some [.int .i64 n']=>_|_=>none)=_
  rw[y,bg G];show some (SV.t (.arr ((aU l).set e.gi.toNat [.arr ((bA X).set e.ge.toNat [.arr ((aL (Y.set e.r.toNat (IntKind.i64.wrap (n - e.ga)))).set e.to.toNat [.int .i64 (IntKind.i64.wrap (n2+e.ga))])])])),([]:Fr))=_
  rw[y,Z];unfold aU jp bA aD;rw[List.map_set,List.map_set]
 have hT:sJ 52 [.arr (aU l),c6 e]=none:=rfl;show qN 52 [.arr (aU l),c6 e]=_
 unfold qN;rw[hT];exact h5
theorem Rq(l:aO)(r:Int):∀A:List cz,fq l r (QU A)=fq l r A
 |[]=>rfl
 |x::A=>by
  have v:=Rq l r A;unfold QU at v⊢;rw[List.filter_cons];by_cases u:x.k=1
  ·rw[if_pos (by simpa using u),DN,DN,v]
  ·rw[if_neg (by simpa using u),DN,if_neg (fun h=>u h.1),v]
theorem Rp{l:aO}{r:Int}:∀{A:List cz},fq l r A=[]↔∀x∈A,x.k=1->¬og l r x <x.n
 |[]=>⟨fun _ x h=>(by cases h),fun _=>rfl⟩
 |x::A=>by
  rw[DN];constructor
  ·intro h;split at h
   ·cases h
   ·rename_i v;intro y u z D;rcases List.mem_cons.1 u with rfl|u
    ·exact v ⟨z,D⟩
    ·exact Rp.1 h y u z D
  ·intro h;rw[if_neg (fun v=>h x (by simp) v.1 v.2)];exact Rp.2 fun y u=>h y (by simp[u])
def Rz{A:List cz}{x:cz}(h:x∈QU A):x∈A/\x.k=1:=by
 unfold QU at h;rw[List.mem_filter]at h;exact⟨h.1,by simpa using h.2⟩
def R4(R:Int)(l:aO)(r:Nat)(x:cz):Prop:=x.k=1/\∃(i k:Nat) (X:List (List Int)) (Y:List Int) (n:Int),x.i=(i:Int)/\x.el=(k:Int)/\l[i]?=some X/\X[k]?=some Y/\Y[r]?=some n/\og l (r:Int) x=n/\(0<=n/\n<=R)/\1<=x.n/\x.n<=R
def RH{m:Md}{p:Pln}{R:Int}{l:aO}(h:cT m p R l=true){a:Int}{r:Nat}(hr:(r:Int)<R):∀x∈QU (dS m p a R),R4 R l r x:=fun _ u=>⟨(Rz u).2,JS h (Rz u).1 (Rz u).2 hr⟩
def Ss{m:Md}{p:Pln}{R:Int}{l:aO}{r a:Int}(h:PW m p)(V:Q3 m)(hf:p.aM.length<=1000)(hl:Rm l):Cl aj 23 [.t (bN m),.t (a_ p),.t (.int .i64 R),.t (.arr (aU l)),.t (.int .i64 r),.t (.int .i64 a)] [] (.t (.aN [.arr (cH (rP m p R l r a).1),.int .i64 (rP m p R l r a).2])) []:=by
 have z:=N_ (R:=R) h hl;have bb:(eg m.ax).length=m.ax.length:=List.length_map _;unfold rP
 cases hs:cT m p R l with
 |false=>
  rw[hs]at z;rw[if_neg (by decide)];unfold a_ at z⊢;rw[aZ,bK]at z⊢;refine Cl.gr rfl Tryz.func23 rfl rfl rfl ?_;exact ah
 |true=>
  rw[hs]at z;rw[if_pos rfl];obtain⟨hv,hR,bl,hi⟩:=lU.1 hs;obtain⟨N,rfl⟩:=Int.eq_ofNat_of_zero_le (show 0<=R by omega);by_cases Z:(0<=r/\r <(N:Int))/\0<=a/\a <m.ax.length
  ·
   rw[if_pos Z];obtain⟨⟨g1,g2⟩,g3,g4⟩:=Z;obtain⟨r,rfl⟩:=Int.eq_ofNat_of_zero_le g1;have kn:=RQ h V (C0.2 ⟨hv,⟨g3,g4⟩,hR⟩) hf;rw[<- Rq]
   have ag:(QU (dS m p a (N:Int))).length<=2000:=by
    refine Nat.le_trans (List.length_filter_le _ _) ?_;have h1:=L0 m p a (N:Int);have:=(kU.1 hv).gb;omega
   have hA:=RH hs (a:=a) (r:=r) (by omega);have au:=tA (QU (dS m p a (N:Int)));have an:=DO l (r:Int);generalize QU (dS m p a (N:Int))=A at kn hA ag au⊢;obtain⟨XX,G⟩:∃X,fq l (r:Int) A=X:=⟨_,rfl⟩;rw[G];unfold a_ at z kn⊢;rw[aZ,bK]at z kn⊢;refine Cl.gr rfl Tryz.func23 rfl rfl rfl ?_;refine aq ?_;refine az.c8 (fun x:Nat×Bool×List cz=>[(14,.ls 2),(16,.t (.int .i64 (x.1:Int)))]) (fun x=>[.box false 30 (([aD m.ao,.arr (bC m.tables),.arr (cq m.bH),.arr (fk m.cons),.arr (fv m.ops),.arr (eg m.ax),.arr (c7 m.aG)]:List AV).map .t),.box false 35 (([.arr (gJ p.aM),.arr (fM p.aA),.arr (cM p.places),aD p.bj]:List AV).map .t),.row false x.2.1 4 (cH x.2.2)]) (fun x=>x.1<=A.length/\x.2.2=fq l (r:Int) (A.take x.1)) (fun x=>A.length - x.1) (0,false,[]) rfl rfl ⟨by dsimp only;omega,rfl⟩ (fun x U=>?_);obtain⟨q,a1,O⟩:=x;dsimp only at U⊢;obtain⟨h1,h2⟩:=U
   have a6:O.length<=2000:=by
    rw[h2];exact Nat.le_trans (an _) (by rw[List.length_take];omega)
   rcases Nat.lt_or_ge q A.length with h3|h3
   ·
    obtain⟨x,D⟩:=am h3;have hc:=ze D;have v:=LI (l:=l) (r:=(r:Int)) D;rw[<- h2]at v;obtain⟨hk,i,k,X,Y,n,e1,e2,V,hY,hn,aT,bm,aY⟩:=hA x (List.mem_of_getElem? D);rw[aT]at v;obtain⟨xk,xi,xe,J⟩:=x;dsimp only at hk e1 e2 hc v aY;subst hk e1 e2;have ab:(aU l)[i]?=some [.arr (bA X)]:=mG V;have ad:(bA X)[k]?=some [.arr (aL Y)]:=lf hY;have ap:(aL Y)[r]?=some [.int .i64 n]:=bg hn;have be:i <(aU l).length:=aC ab;have bf:k <(bA X).length:=aC ad;have bk:r <(aL Y).length:=aC ap;by_cases y:n <J
    ·
     rw[if_pos ⟨rfl,y⟩]at v;have al:cn ((cH O).length+1) 32=true:=by rw[tA];exact yO (by omega)
     have I:cH O++[[.int .i64 1,.int .i64 (i:Int),.int .i64 (k:Int),.int .i64 (J - n)]]=cH (O++[⟨1,(i:Int),(k:Int),J - n⟩]):=vI O [⟨1,(i:Int),(k:Int),J - n⟩]
     repeat'(first
|(with_reducible first|apply ac.seq|apply ac.block)
|((with_reducible apply ac.text);(try case hm=>exact rfl))
|((with_reducible apply ac.drawn);(case hm=>exact rfl))
|(with_reducible first|apply ac.skip|apply aH)
|((with_reducible apply ac.aR);(case hc=>exact rfl))
|((with_reducible apply aa.aF);(case hp=>exact ak))
|(with_reducible first|apply aa.aB|apply aa.dF)
|((with_reducible apply aa.u);(case hx=>((with_reducible apply af.ei);(case hs=>exact fun _=>rfl);(case ha|ht=>exact rfl);(case hr=>first|(with_reducible exact ec)|(with_reducible exact rw1)|(with_reducible exact ed)|(with_reducible exact rw3)|(with_reducible exact rw4)|exact rfl);(case hx|hy|hn|hb|hok=>exact rfl);(case hlen=>exact al);(case hv=>exact I);(case hk=>exact ez);(case hf=>exact leq))))
|((with_reducible apply aa.u0);(case hx=>exact ae))
|fail)
     exact⟨(q+1,true,O++[⟨1,(i:Int),(k:Int),J - n⟩]),rfl,rfl,⟨by dsimp only;omega,v.symm⟩,by dsimp only;omega⟩
    ·
     rw[if_neg (fun hh=>y hh.2),List.append_nil]at v;refine aq ?_;exact⟨(q+1,a1,O),rfl,rfl,⟨by dsimp only;omega,v.symm⟩,by dsimp only;omega⟩
   ·
    rw[List.take_of_length_le h3]at h2;rw[<- G,<- h2];exact ah
  ·
   rw[if_neg Z];have bd:r <0\/(N:Int)<=r\/a <0\/(m.ax.length:Int)<=a:=by omega
   unfold a_ at z⊢;rw[aZ,bK]at z⊢;refine Cl.gr rfl Tryz.func23 rfl rfl rfl ?_
   repeat'(first
|((with_reducible apply aa.cj);(case hp=>exact ak))
|((with_reducible apply aa.aX)<;>intro U)
|((with_reducible apply aa.bi)<;>intro U)
|(refine aw ?_)
|((with_reducible apply aa.av);(case hW=>exact rfl);(case hx=>exact ae))
|((with_reducible apply aa.u0);(case hx=>first
|(exact ai z)
|exact ae))
|fail)
   all_goals first|exact⟨.inr rfl,rfl⟩|(exfalso;omega)
def Ro(m:Md)(p:Pln)(n:Int)(e:Ev):gl m p n e=(qj m n e&&Q5 m p e):=rfl
def SE{e:Ev}(h:gE e=true):e.k=1:=by
 unfold gE at h;rw[Bool.and_eq_true]at h;simpa using h.1
def RR(l:aO):fu 1 (aU l)=true:=by
 unfold fu aU;rw[List.all_map];exact List.all_eq_true.2 fun x _=>rfl
def RN{l:aO}(h:l.length<=1000000):cn (([]:List (List AV)).length+(aU l).length) 24=true:=by rw[List.length_nil,Nat.zero_add,mH];exact oA h (by decide)
def R5{m:Md}{p:Pln}{l:aO}{e:Ev}(h:PW m p)(hX:Q3 m)(hf:p.aM.length<=1000)(hl:Rm l)(he:e.past.length<=1000000):Cl aj 20 [.t (bN m),.t (a_ p),.t (.arr (aU l)),.t (c6 e)] [] (.t (.aN [.arr (aU (gM m p l e).1),.int .i64 (gM m p l e).2])) []:=by
 have D:=RW h.md (e.past.length:Int) e (by omega);have y:=RM h e;have G:=N_ (R:=(e.past.length:Int)) h hl;have Z:=Rr e;have be:=aW e.past;unfold gM;by_cases hok:(qj m (e.past.length:Int) e=true/\Q5 m p e=true)/\cT m p e.past.length l=true
 ·
  obtain⟨⟨J,U⟩,hs⟩:=hok;have hk:gl m p e.past.length e=true:=by rw[Ro,J,U];rfl
  have hv:=(lU.1 hs).1;have hR:=(lU.1 hs).2.1;rw[if_pos ⟨hv,hk,hs⟩];rw[J]at D;rw[U]at y;rw[hs]at G;obtain⟨ab,_,⟨aR,bi⟩,an⟩:=pk hk hs;by_cases ht:gE e=true
  ·
   have bl:=SE ht;rw[ht]at Z;rw[if_neg (fun z=>by have:=z.1;omega),MP hs hk];have km:=RP hl ab ht;have al:=N_ (R:=(e.past.length:Int)) (l:=cS l e) h (He (Ha ab (eG.refl _)) hl);have e0:(ij e).foldl cE l=cS l e:=rfl;rw[e0];generalize cS l e=L at*
   obtain⟨B,hB⟩:∃B,cT m p (e.past.length:Int) L=B:=⟨_,rfl⟩;rw[hB]at al⊢;unfold a_ at y G al⊢;unfold c6 cx at D y Z km⊢;rw[aZ]at D⊢;rw[aZ,bK]at y G al;rw[bK];refine Cl.gr rfl Tryz.func20 rfl rfl rfl ?_
   cases B with
   |true=>
    exact ah
   |false=>
    exact ah
  ·
   have ht:gE e=false:=by simpa using ht
   rw[ht]at Z;have bj:ij e=[]:=Ga ht;rw[bj];have e1:(([]:List jX).foldl (ig e.past.length) (l,true)).2=true:=rfl;have e2:([]:List jX).foldl cE l=l:=rfl;rw[e1,e2,if_pos rfl];have aF:=RR l;have aA:=RN hl.1;by_cases h0:e.k=0
   ·
    obtain⟨r,hr⟩:=Int.eq_ofNat_of_zero_le aR;have kn:=RQ h hX (C0.2 ⟨hv,jB.1 (an h0),hR⟩) hf;have hA:=RH hs (a:=e.a) (r:=r) (by omega);rw[<- Rq];have bf:=tA (QU (dS m p e.a (e.past.length:Int)))
    have bd:(QU (dS m p e.a (e.past.length:Int))).length<=2000:=by
     refine Nat.le_trans (List.length_filter_le _ _) ?_;have h1:=L0 m p e.a (e.past.length:Int);have:=(kU.1 hv).gb;omega
    generalize QU (dS m p e.a (e.past.length:Int))=A at kn hA bd bf⊢
    obtain⟨T,hT⟩:∃T:Bool,T=true↔fq l e.r A=[]:=by
     by_cases z:fq l e.r A=[]
     ·exact⟨true,by simp[z]⟩
     ·exact⟨false,by simp[z]⟩
    have I:(if e.k=0/\fq l e.r A≠[]then(([]:aO),(9:Int))else(l,0))=(bif T then(l,0)else([],9)):=by
     cases T with
     |true=>rw[if_neg (fun z=>z.2 (hT.1 rfl))];rfl
     |false=>rw[if_pos ⟨h0,fun z=>by have:=hT.2 z;cases this⟩];rfl
    rw[I];rw[Rp]at hT;clear I;obtain⟨er,en,et,P,K,ea,gk,gi,ge,ga,bm,pl,se⟩:=e;dsimp only at D y G Z kn hA hT hs hk h0 hr aR bi ab ht be hR⊢;subst h0 hr;unfold a_ at y G kn⊢;unfold c6 cx at D y Z⊢;dsimp only at D y Z⊢;rw[aZ]at D⊢;rw[aZ,bK]at y G kn;rw[bK];refine Cl.gr rfl Tryz.func20 rfl rfl rfl ?_;refine aq ?_;refine az.ind (fun q:Nat=>[(13,.t (.int .i64 (q:Int)))]) (fun q=>q<=A.length/\∀i x,i <q->A[i]?=some x->¬og l (r:Int) x <x.n) (fun q=>A.length - q) 0 rfl ⟨by omega,fun i x z=>absurd z (Nat.not_lt_zero _)⟩ (fun q hq=>?_);obtain⟨h1,h2⟩:=hq;rcases Nat.lt_or_ge q A.length with h3|h3
    ·
     obtain⟨x,ag⟩:=am h3;have V:=List.mem_of_getElem? ag;have hc:=ze ag;obtain⟨hk,i,k,X,Y,n,e1,e2,hX,hY,hn,aX,bS,a1⟩:=hA x V;have J:(aU l)[i]?=some [.arr (bA X)]:=mG hX;have U:(bA X)[k]?=some [.arr (aL Y)]:=lf hY;have aG:(aL Y)[r]?=some [.int .i64 n]:=bg hn;have bt:i <(aU l).length:=aC J;have bu:k <(bA X).length:=aC U;have bH:r <(aL Y).length:=aC aG;by_cases v:n <x.n
     ·
      have a6:T=false:=by
       rw[<- Bool.not_eq_true];intro z;exact hT.1 z x V hk (by rw[aX];exact v)
      subst a6;obtain⟨xk,xi,xe,xn⟩:=x;dsimp only at hk e1 e2 hc v a1;subst hk e1 e2;exact ah
     ·
      have aT:∀i' x',i' <q+1->A[i']?=some x'->¬og l (r:Int) x' <x'.n:=fun i' x' bo ad=>by
       rcases Nat.lt_or_ge i' q with ax|ax
       ·exact h2 i' x' ax ad
       ·obtain rfl:i'=q:=by omega
        rw[ag]at ad;cases ad;rw[aX];exact v
      obtain⟨xk,xi,xe,xn⟩:=x;dsimp only at hk e1 e2 hc v a1;subst hk e1 e2
      repeat'(first
|(refine a8 ?_)
|(refine aw ?_)
|((with_reducible apply aa.u0);(case hx=>exact ae))
|fail)
      exact⟨q+1,rfl,rfl,⟨by omega,aT⟩,by omega⟩
    ·
     have bb:T=true:=hT.2 fun x V _=>by
      obtain⟨i,hi⟩:=List.mem_iff_getElem?.1 V;exact h2 i x (by have:=aC hi;omega) hi
     subst bb
     repeat'(first
|(with_reducible apply ac.seq)
|((with_reducible apply ac.text);(try case hm=>exact rfl))
|(with_reducible first|apply ac.exit|apply ac.ret|apply aH|apply da|apply cY)
|((with_reducible apply ac.aY);(case hc=>exact rfl))
|((with_reducible apply aa.bk);(case hp=>exact ak))
|(with_reducible apply aa.aB)
|((with_reducible apply aa.u);(case hx=>((with_reducible apply af.ei);(case hs=>exact fun _=>rfl);(case ha|ht=>exact rfl);(case hr=>first|(with_reducible exact ec)|(with_reducible exact rw1)|(with_reducible exact ed)|(with_reducible exact rw3)|(with_reducible exact rw4)|exact rfl);(case hx|hy|hn|hb=>exact rfl);(case hok=>exact aF);(case hlen=>exact aA);(case hv=>exact(List.nil_append (aU l)));(case hk=>exact ez);(case hf=>exact leq))))
|((with_reducible apply aa.u0);(case hx=>exact ae))
|fail)
     exact⟨.inr rfl,rfl⟩
   ·
    rw[if_neg (fun z=>h0 z.1)];unfold a_ at y G⊢;unfold c6 cx at D y Z⊢;rw[aZ]at D⊢;rw[aZ,bK]at y G;rw[bK];refine Cl.gr rfl Tryz.func20 rfl rfl rfl ?_
    repeat'(first
|(with_reducible apply ac.seq)
|((with_reducible apply ac.text);(try case hm=>exact rfl))
|(with_reducible first|apply ac.skip|apply ac.ret|apply aH)
|((with_reducible apply ac.aY);(case hc=>exact rfl))
|((with_reducible apply aa.bk);(case hp=>exact ak))
|(with_reducible apply aa.aB)
|((with_reducible apply aa.u);(case hx=>((with_reducible apply af.ei);(case hs=>exact fun _=>rfl);(case ha|ht=>exact rfl);(case hr=>first|(with_reducible exact ec)|(with_reducible exact rw1)|(with_reducible exact ed)|(with_reducible exact rw3)|(with_reducible exact rw4)|exact rfl);(case hx|hy|hn|hb=>exact rfl);(case hok=>exact aF);(case hlen=>exact aA);(case hv=>exact(List.nil_append (aU l)));(case hk=>exact ez);(case hf=>exact leq))))
|((with_reducible apply aa.av);(case hW=>exact rfl);(case hx=>first
|(exact ai G)
|(exact ai y)
|exact ae))
|((with_reducible apply aa.u0);(case hx=>first
|(exact ai D)
|(exact ai Z)
|exact ae))
|fail)
    exact⟨.inr rfl,rfl⟩
 ·
  rw[if_neg (fun z=>by
   obtain⟨_,h1,h2⟩:=z;rw[Ro,Bool.and_eq_true]at h1;exact hok ⟨h1,h2⟩)]
  obtain⟨b1,ao⟩:∃b,qj m (e.past.length:Int) e=b:=⟨_,rfl⟩;obtain⟨b2,ap⟩:∃b,Q5 m p e=b:=⟨_,rfl⟩;obtain⟨b3,au⟩:∃b,cT m p e.past.length l=b:=⟨_,rfl⟩;rw[ao]at D;rw[ap]at y;rw[au]at G;rw[ao,ap,au]at hok;unfold a_ at y G⊢;unfold c6 cx at D y⊢;rw[aZ]at D⊢;rw[aZ,bK]at y G;rw[bK];refine Cl.gr rfl Tryz.func20 rfl rfl rfl ?_
  cases b1 with
  |false=>
   exact ah
  |true=>
   cases b3 with
   |false=>
    exact ah
   |true=>
    cases b2 with
    |false=>
     exact ah
    |true=>exact absurd ⟨⟨rfl,rfl⟩,rfl⟩ hok
def Sj{m:Md}{p:Pln}{R:Int}{l:aO}{E:List Ev}(h:PW m p)(hl:Rm l)(hE:E.length<=1000000)(he:∀e∈E,e.past.length<=1000000):Cl aj 22 [.t (bN m),.t (a_ p),.t (.int .i64 R),.t (.arr (aU l)),.t (.arr (b8 E))] [] (.t (.aN [.arr (aU (jd m p R l E).1),.int .i64 (jd m p R l E).2])) []:=by
 have J:=N_ (R:=R) h hl;have aA:=pn E;unfold jd;have ke:=fun(e:Ev) (hm:e∈E)=>RW h.md R e (by have:=he e hm;omega);have U:=fun(e:Ev)=>RM h e;have kt:=fun(e:Ev)=>Rr e;have km:=fun(z:aO) (e:Ev) (hz:Rm z) (ho:iS z e) (ht:gE e=true)=>RP hz ho ht
 cases hr:cT m p R l with
 |false=>
  rw[hr]at J;rw[if_neg (by simp)];unfold a_ at J⊢;rw[aZ,bK]at J⊢;refine Cl.gr rfl Tryz.func22 rfl rfl rfl ?_;exact ah
 |true=>
  rw[hr]at J;obtain⟨T,hT⟩:∃T,(E.all fun e=>gl m p R e)=T:=⟨_,rfl⟩;rw[hT];have au:=RR l;have ap:=RN hl.1;unfold a_ at J U⊢;rw[aZ]at ke⊢;rw[aZ,bK]at J U;rw[bK];refine Cl.gr rfl Tryz.func22 rfl rfl rfl ?_
  repeat'(first
|(with_reducible first|apply ac.seq|apply ac.block)
|((with_reducible apply ac.text);(try case hm=>exact rfl))
|(with_reducible first|apply ac.skip|apply aH)
|((with_reducible apply ac.aY);(case hc=>exact rfl))
|(with_reducible apply aa.aB)
|((with_reducible apply aa.u);(case hx=>((with_reducible apply af.ei);(case hs=>exact fun _=>rfl);(case ha|ht=>exact rfl);(case hr=>first|(with_reducible exact ec)|(with_reducible exact rw1)|(with_reducible exact ed)|(with_reducible exact rw3)|(with_reducible exact rw4)|exact rfl);(case hx|hy|hn|hb=>exact rfl);(case hok=>exact au);(case hlen=>exact ap);(case hv=>exact(List.nil_append (aU l)));(case hk=>exact ez);(case hf=>exact leq))))
|((with_reducible apply aa.u0);(case hx=>first
|(exact ai J)
|exact ae))
|fail)
  apply ac.cR
  case ho=>exact rfl
  case hp=>exact rfl
  case hl=>exact rfl
  case hs=>exact slt
  refine az.ind (fun x:aO×Nat=>[(12,.t (.arr (aU x.1))),(13,.t (.int .i64 (x.2:Int)))]) (fun x=>x.2<=E.length/\x.1=(E.take x.2).foldl cS l/\((E.take x.2).all fun e=>gl m p R e)=true) (fun x=>E.length - x.2) (l,0) rfl ⟨by dsimp only;omega,rfl,rfl⟩ (fun x hq=>?_);obtain⟨z,q⟩:=x;dsimp only at hq⊢;obtain⟨h1,h2,h3⟩:=hq;rcases Nat.lt_or_ge q E.length with h4|h4
  ·
   obtain⟨e,y⟩:=am h4;have hm:=List.mem_of_getElem? y;have hc:(b8 E)[q]?=some (cx e):=by unfold b8;rw[List.getElem?_map,y];rfl
   have aF:=aW e.past;have ke:=ke e hm;have U:=U e;have kt:=kt e;obtain⟨b1,Z⟩:∃b,qj m R e=b:=⟨_,rfl⟩;obtain⟨b2,ab⟩:∃b,Q5 m p e=b:=⟨_,rfl⟩;rw[Z]at ke;rw[ab]at U;have I:gl m p R e=(b1&&b2):=by rw[Ro,Z,ab]
   have D:((E.take (q+1)).all fun e=>gl m p R e)=(b1&&b2):=by
    rw[mU y h3];exact I
   have ad:(b1&&b2)=false->T=false:=fun hh=>by
    rw[<- hT];exact jm hm (by rw[I];exact hh)
   unfold c6 cx at ke U kt km;unfold cx at hc
   cases b1 with
   |false=>
    have G:=ad rfl;subst G;rw[if_neg (by simp)];exact ah
   |true=>
    cases b2 with
    |false=>
     have G:=ad rfl;subst G;rw[if_neg (by simp)];exact ah
    |true=>
     obtain⟨av,_,_,_⟩:=pk I hr;have ao:∀e∈E.take q,iS l e:=fun e' an=>(pk (List.all_eq_true.1 h3 e' an) hr).1;have V:eG l z:=by rw[h2];exact Ap ao (eG.refl _)
     have ax:=He V hl
     have v:cS z e=(E.take (q+1)).foldl cS l:=by
      rw[List.take_add_one,List.foldl_append,<- h2,y];rfl
     obtain⟨t,ht⟩:∃t,gE e=t:=⟨_,rfl⟩;rw[ht]at kt
     cases t with
     |true=>
      have km:=km z e ax (av.qs V) ht;rw[v]at km;obtain⟨z',ag⟩:∃z',(E.take (q+1)).foldl cS l=z':=⟨_,rfl⟩;rw[ag]at km;refine aq ?_;exact⟨(z',q+1),rfl,rfl,⟨by dsimp only;omega,ag.symm,D⟩,by dsimp only;omega⟩
     |false=>
      rw[F7 ht]at v;refine aq ?_;exact⟨(z,q+1),rfl,rfl,⟨by dsimp only;omega,v,D⟩,by dsimp only;omega⟩
  ·
   rw[List.take_of_length_le h4]at h2 h3;have al:T=true:=by rw[<- hT,h3]
   subst al;rw[if_pos ⟨rfl,rfl⟩,<- h2];exact ah
end Go.Proofs.YtcgdbhlnkificaaGreatDoor
