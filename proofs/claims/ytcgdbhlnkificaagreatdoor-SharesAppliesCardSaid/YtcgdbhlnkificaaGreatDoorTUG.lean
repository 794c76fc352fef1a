/- Law 39: what is few enough,and lists of lists that are. No condition. -/
import Derived.Test.YtcgdbhlnkificaaGreatDoorTNI
import Derived.Test.YtcgdbhlnkificaaGreatDoorRPD
import Derived.Test.YtcgdbhlnkificaaGreatDoorLPC
import Derived.Test.YtcgdbhlnkificaaGreatDoorTUA
import Derived.Test.YtcgdbhlnkificaaGreatDoorTUD
import Derived.Test.YtcgdbhlnkificaaGreatDoorTPJ
set_option linter.all false
namespace Go.Proofs.YtcgdbhlnkificaaGreatDoor
open Go.RowKit
set_option maxRecDepth 100000
set_option maxHeartbeats 32000000
section
variable {g:Cfg} {d:Option (List Nat)} {i:Nat} {env:Env} {fr:Fr}
end
def K6{A:List (List Int)}(hl:A.length<=140737488351232)(hp:∀x∈A,x.length<=140737488351232):Cl aj 41 [.t (.arr (bA A)),.t (.arr (bA A))] [] (.t (.bool true)) []:=by
 have v:=nV A;refine Cl.ap rfl Tryz.func41 rfl rfl rfl ?_;refine aq ?_;refine az.ind (fun q:Nat=>[(5,.t (.int .i64 (q:Int)))]) (fun q=>q<=A.length) (fun q=>A.length - q) 0 rfl (by omega) (fun q D=>?_);rcases Nat.lt_or_ge q A.length with h3|h3
 ·
  obtain⟨x,u⟩:=am h3;have z:=lf u;have y:=Nv (hp x (List.mem_of_getElem? u)) (hp x (List.mem_of_getElem? u));rw[beq_self_eq_true]at y;exact ah
 ·
  exact ah
def rp(n:Int):Bool:=decide (-2000000000000<=n)&&decide (n<=2000000000000)
def pY(x:List Int):Bool:=decide (x.length<=8)&&x.all rp
def yK(L:Lck):Bool:=decide (L.mem.length<=30)
def oc(m:Md)(p:Pln)(l:List (List Int))(E:List Ev):Bool:=jz m E&&(decide (p.aM.length<=20)&&(decide (p.aA.length<=10)&&(decide (p.places.length<=30)&&(decide (p.bj.length<=8)&&(decide (l.length<=20)&&(l.all pY&&p.aA.all yK))))))
def Cy{m:Md}{p:Pln}{l:List (List Int)}{E:List Ev}(hm:bx m)(ad:∀a∈m.ax,jj a.eff)(hp:nO p)(hl:l.length<=140737488351232)(hx:∀x∈l,x.length<=140737488351232)(hE:E.length<=140737488351232)(he:∀e∈E,e.past.length<=140737488351232):Cl aj 10 [.t (bN m),.t (a_ p),.t (.arr (bA l)),.t (.arr (b8 E))] [] (.t (.bool (oc m p l E))) []:=by
 have kf:=Jj (l:=E) hm ad hE he;have aX:=sF p.aM;have aY:=kP p.aA;have bb:=lG p.places;have a6:=aW p.bj;have aT:=nV l;have au:=hp.aM;have av:=hp.aA;have aF:=hp.places;have aB:=hp.bj;obtain⟨b,hb⟩:∃b,jz m E=b:=⟨_,rfl⟩;obtain⟨T,Z⟩:∃b,l.all pY=b:=⟨_,rfl⟩;obtain⟨U,hU⟩:∃b,p.aA.all yK=b:=⟨_,rfl⟩;unfold oc;rw[hb]at kf;rw[hb,Z,hU];unfold a_;rw[aZ]at kf⊢;rw[bK];refine Cl.ap rfl Tryz.func10 rfl rfl rfl ?_
 cases b with
 |false=>
  exact ah
 |true=>
  rw[Bool.true_and];by_cases h0:p.aM.length<=20
  ·
   rw[decide_eq_true h0,Bool.true_and];by_cases h1:p.aA.length<=10
   ·
    rw[decide_eq_true h1,Bool.true_and];by_cases h2:p.places.length<=30
    ·
     rw[decide_eq_true h2,Bool.true_and];by_cases h3:p.bj.length<=8
     ·
      rw[decide_eq_true h3,Bool.true_and];by_cases h4:l.length<=20
      ·
       rw[decide_eq_true h4,Bool.true_and];refine aq ?_;refine az.ind (fun q:Nat=>[(9,.t (.int .i64 (q:Int)))]) (fun q=>q<=l.length/\(l.take q).all pY=true) (fun q=>l.length - q) 0 rfl ⟨by omega,rfl⟩ (fun q hq=>?_);obtain⟨al,u⟩:=hq;rcases Nat.lt_or_ge q l.length with y|y
       ·
        obtain⟨x,v⟩:=am y;have hc:=lf v;have bd:=aW x;have hs:=mU v u;by_cases G:x.length<=8
        ·
         obtain⟨W,hW⟩:∃b,x.all rp=b:=⟨_,rfl⟩;have I:pY x=W:=by unfold pY;rw[hW,decide_eq_true G,Bool.true_and]
         refine aq ?_;refine az.ind (fun k:Nat=>[(10,.t (.int .i64 (k:Int)))]) (fun k=>k<=x.length/\(x.take k).all rp=true) (fun k=>x.length - k) 0 rfl ⟨by omega,rfl⟩ (fun k hk=>?_);obtain⟨aR,D⟩:=hk;rcases Nat.lt_or_ge k x.length with h7|h7
         ·
          obtain⟨n,hn⟩:=am h7;have aN:=bg hn;have an:=mU hn D;by_cases J : -2000000000000<=n/\n<=2000000000000
          ·
           obtain⟨J,h9⟩:=J;have ag:rp n=true:=by unfold rp;rw[decide_eq_true J,decide_eq_true h9];rfl
           refine aq ?_;exact⟨k+1,rfl,rfl,⟨by omega,an.trans ag⟩,by omega⟩
          ·
           have z:T=false:=by
            rw[<- Z];refine jm (List.mem_of_getElem? v) ?_;rw[I,<- hW];refine jm (List.mem_of_getElem? hn) ?_;unfold rp;rw[<- Bool.not_eq_true,Bool.and_eq_true,decide_eq_true_eq,decide_eq_true_eq];exact J
           subst z;by_cases h9:n < -2000000000000
           ·
            exact ah
           ·
            have ao:2000000000000 <n:=by omega
            exact ah
         ·
          rw[List.take_of_length_le h7,hW]at D;refine aq ?_;exact⟨q+1,rfl,rfl,⟨by omega,by rw[hs,I,D]⟩,by omega⟩
        ·
         have z:T=false:=by
          rw[<- Z];refine jm (List.mem_of_getElem? v) ?_;unfold pY;rw[decide_eq_false G,Bool.false_and]
         subst z;exact ah
       ·
        rw[List.take_of_length_le y,Z]at u;subst u;refine aq ?_;refine az.ind (fun q:Nat=>[(11,.t (.int .i64 (q:Int)))]) (fun q=>q<=p.aA.length/\(p.aA.take q).all yK=true) (fun q=>p.aA.length - q) 0 rfl ⟨by omega,rfl⟩ (fun q hq=>?_);obtain⟨al,u⟩:=hq;rcases Nat.lt_or_ge q p.aA.length with y|y
        ·
         obtain⟨L,V⟩:=am y;have hc:=nw V;have a1:=lG L.mem;have hs:=mU V u;have aG:=hp.mem L (List.mem_of_getElem? V);by_cases G:L.mem.length<=30
         ·
          refine aq ?_;exact⟨q+1,rfl,rfl,⟨by omega,hs.trans (decide_eq_true G)⟩,by omega⟩
         ·
          have ab:U=false:=by
           rw[<- hU];exact jm (List.mem_of_getElem? V) (decide_eq_false G)
          subst ab;exact ah
        ·
         rw[List.take_of_length_le y,hU]at u;subst u;exact ah
      ·
       rw[decide_eq_false h4,Bool.false_and];exact ah
     ·
      rw[decide_eq_false h3,Bool.false_and];exact ah
    ·
     rw[decide_eq_false h2,Bool.false_and];exact ah
   ·
    rw[decide_eq_false h1,Bool.false_and];exact ah
  ·
   rw[decide_eq_false h0,Bool.false_and];exact ah
def Ji{m:Md}{l:List Ev}(hm:bx m)(h:jz m l=true):Small m/\m.ops.length<=8:=by
 obtain⟨h1,h2,h3,_⟩:=CC h;exact⟨⟨hm,h2,h3⟩,h1.2.2.2.1⟩
def yi{m:Md}{p:Pln}{l:List (List Int)}{E:List Ev}(h:oc m p l E=true):jz m E=true/\p.aM.length<=20/\l.length<=20/\∀x∈l,x.length<=8:=by
 unfold oc at h;simp only[Bool.and_eq_true,decide_eq_true_eq,List.all_eq_true]at h;obtain⟨h1,h2,_,_,_,h3,h4,_⟩:=h;refine⟨h1,h2,h3,fun x u=>?_⟩;have:=h4 x u;unfold pY at this;rw[Bool.and_eq_true,decide_eq_true_eq]at this;exact this.1
def Cz{m:Md}{p:Pln}{l:List (List Int)}{E:List Ev}(hm:bx m)(u:∀a∈m.ax,jj a.eff)(hp:nO p)(h:oc m p l E=true):PW m p/\Small m:=by
 obtain⟨v,y⟩:=Ji hm (yi h).1;exact⟨⟨hm,u,by omega,hp⟩,v⟩
set_option maxRecDepth 100000
set_option maxHeartbeats 32000000
def N_{m:Md}{p:Pln}{R:Int}{l:aO}(h:PW m p)(hl:Rm l):Cl aj 16 [.t (bN m),.t (a_ p),.t (.int .i64 R),.t (.arr (aU l))] [] (.t (.bool (cT m p R l))) []:=by
 have D:=zZ h;have bd:=mH l;have a6:=kP p.aA;have aN:=h.pl.aA;obtain⟨a1,aB⟩:=hl;unfold cT
 cases hv:cy m p with
 |false=>
  rw[hv]at D;rw[Bool.false_and];unfold a_ at D⊢;rw[aZ,bK]at D⊢;refine Cl.ap rfl Tryz.func16 rfl rfl rfl ?_;exact ah
 |true=>
  rw[hv]at D;rw[Bool.true_and];by_cases hR:(1<=R/\R<=5)/\l.length=p.aA.length
  ·
   obtain⟨⟨al,an⟩,ao⟩:=hR;obtain⟨N,rfl⟩:=Int.eq_ofNat_of_zero_le (show 0<=R by omega);rw[decide_eq_true al,decide_eq_true an,decide_eq_true ao,show(true&&true)=true from rfl,Bool.true_and,Bool.true_and];have kE:=fun(i:Int)=>EF (i:=i) h;have J:=qI m p;obtain⟨T,hT⟩:∃T,allI (mF m p (N:Int)) l=T:=⟨_,rfl⟩;rw[hT];unfold a_ at D kE⊢;rw[bK]at D kE⊢;rw[aZ]at D kE⊢;refine Cl.ap rfl Tryz.func16 rfl rfl rfl ?_;refine aq ?_;refine az.ind (fun q:Nat=>[(9,.t (.int .i64 (q:Int)))]) (fun q=>q<=l.length/\∀i y,i <q->l[i]?=some y->mF m p (N:Int) i y=true) (fun q=>l.length - q) 0 rfl ⟨Nat.zero_le _,fun i y h=>absurd h (Nat.not_lt_zero _)⟩ (fun q hq=>?_);obtain⟨bi,au⟩:=hq;rcases Nat.lt_or_ge q l.length with h5|h5
   ·
    obtain⟨x,u⟩:=am h5;have hc:=mG u;have be:=nV x;have kE:=kE (q:Int);have J:=J (q:Int);obtain⟨bj,aM⟩:=aB x (List.mem_of_getElem? u);have G:mF m p (N:Int) q x=(decide ((x.length:Int)=eu m p q)&&x.all (oL (N:Int))):=rfl;obtain⟨E,hE⟩:∃E,eu m p (q:Int)=E:=⟨_,rfl⟩;rw[hE]at kE J G;by_cases h6:(x.length:Int)=E
    ·
     rw[decide_eq_true h6,Bool.true_and]at G;refine aq ?_;refine az.ind (fun k:Nat=>[(10,.t (.int .i64 (k:Int)))]) (fun k=>k<=x.length/\(x.take k).all (oL (N:Int))=true) (fun k=>x.length - k) 0 rfl ⟨Nat.zero_le _,rfl⟩ (fun k hk=>?_);obtain⟨aY,V⟩:=hk;rcases Nat.lt_or_ge k x.length with h7|h7
     ·
      obtain⟨y,z⟩:=am h7;have aT:=lf z;have bf:=aW y;have aG:=mU z V;have bk:=aM y (List.mem_of_getElem? z);have e1:oL (N:Int) y=(decide ((y.length:Int)=N)&&y.all (kX (N:Int))):=rfl;by_cases h8:y.length=N
      ·
       have I:(y.length:Int)=N:=by omega
       rw[decide_eq_true I,Bool.true_and]at e1;refine aq ?_;refine az.ind (fun j:Nat=>[(11,.t (.int .i64 (j:Int)))]) (fun j=>j<=N/\(y.take j).all (kX (N:Int))=true) (fun j=>N - j) 0 rfl ⟨Nat.zero_le _,rfl⟩ (fun j hj=>?_);obtain⟨aX,U⟩:=hj;rcases Nat.lt_or_ge j N with h9|h9
       ·
        obtain⟨n,hn⟩:=am (xs:=y) (k:=j) (by omega);have aR:=bg hn;have av:=mU hn U;by_cases ab:0<=n/\n<=(N:Int)
        ·
         obtain⟨ad,ag⟩:=ab;have aF:kX (N:Int) n=true:=by unfold kX;rw[decide_eq_true ad,decide_eq_true ag];rfl
         refine aq ?_;exact⟨j+1,rfl,rfl,⟨by omega,av.trans aF⟩,by omega⟩
        ·
         have v:T=false:=by
          rw[<- hT];refine qu u (G.trans (jm (List.mem_of_getElem? z) (e1.trans (jm (List.mem_of_getElem? hn) ?_))));unfold kX;rw[<- Bool.not_eq_true,Bool.and_eq_true,decide_eq_true_eq,decide_eq_true_eq];exact ab
         subst v;by_cases ad:n <0
         ·
          exact ah
         ·
          have ag:(N:Int)<n:=by omega
          exact ah
       ·
        rw[List.take_of_length_le (by omega)]at U;refine aq ?_;exact⟨k+1,rfl,rfl,⟨by omega,aG.trans (e1.trans U)⟩,by omega⟩
      ·
       have I:¬(y.length:Int)=N:=by omega
       rw[decide_eq_false I,Bool.false_and]at e1
       have v:T=false:=by
        rw[<- hT];exact qu u (G.trans (jm (List.mem_of_getElem? z) e1))
       subst v;exact ah
     ·
      rw[List.take_of_length_le h7]at V;refine aq ?_;exact⟨q+1,rfl,rfl,⟨by omega,A8 u au (G.trans V)⟩,by omega⟩
    ·
     rw[decide_eq_false h6,Bool.false_and]at G
     have v:T=false:=by
      rw[<- hT];exact qu u G
     subst v;exact ah
   ·
    have ax:T=true:=by
     rw[<- hT];exact A9 au h5
    subst ax;exact ah
  ·
   have G:((decide (1<=R)&&decide (R<=5))&&(decide (l.length=p.aA.length)&&allI (mF m p R) l))=false:=by
    rw[<- Bool.not_eq_true];simp only[Bool.and_eq_true,decide_eq_true_eq];exact fun hh=>hR ⟨hh.1,hh.2.1⟩
   rw[G];have Z:l.length=p.aA.length↔(l.length:Int)=(p.aA.length:Int):=by omega
   rw[Z]at hR;unfold a_ at D⊢;rw[bK]at D⊢;rw[aZ]at D⊢;refine Cl.ap rfl Tryz.func16 rfl rfl rfl ?_;by_cases al:R <1
   ·
    exact ah
   ·
    by_cases an:5 <R
    ·
     exact ah
    ·
     have bb:¬(l.length:Int)=(p.aA.length:Int):=fun hh=>hR ⟨by omega,hh⟩;exact ah
def rL{A:aO}(hl:Rm A):Cl aj 14 [.t (.arr (aU A)),.t (.arr (aU A))] [] (.t (.bool true)) []:=by
 have G:=mH A;obtain⟨D,u⟩:=hl;refine Cl.ap rfl Tryz.func14 rfl rfl rfl ?_;refine aq ?_;refine az.ind (fun q:Nat=>[(5,.t (.int .i64 (q:Int)))]) (fun q=>q<=A.length) (fun q=>A.length - q) 0 rfl (Nat.zero_le _) (fun q V=>?_);rcases Nat.lt_or_ge q A.length with h3|h3
 ·
  obtain⟨x,z⟩:=am h3;have U:=mG z;obtain⟨I,v⟩:=u x (List.mem_of_getElem? z);have Z:=K6 (A:=x) (by omega) (fun y J=>by have:=v y J;omega);exact ah
 ·
  exact ah
def sK(x:List (List Int)):Bool:=(x.all fun y=>decide (y.length<=8))&&decide (x.length<=8)
def po(l:aO):Bool:=l.all sK&&decide (l.length<=10)
def CB{l:aO}(h:po l=true):Rm l:=by
 unfold po sK at h;simp only[Bool.and_eq_true,decide_eq_true_eq,List.all_eq_true]at h;obtain⟨h1,h2⟩:=h;exact⟨by omega,fun x u=>⟨by have:=(h1 x u).2;omega,fun y v=>by have:=(h1 x u).1 y v;omega⟩⟩
def CA{l:aO}(hl:l.length<=140737488351232)(hx:∀x∈l,x.length<=140737488351232/\∀y∈x,y.length<=140737488351232):Cl aj 11 [.t (.arr (aU l))] [] (.t (.bool (po l))) []:=by
 have an:=mH l;obtain⟨T,V⟩:∃T,l.all sK=T:=⟨_,rfl⟩;unfold po;rw[V];refine Cl.ap rfl Tryz.func11 rfl rfl rfl ?_;refine aq ?_;refine az.ind (fun q:Nat=>[(3,.t (.int .i64 (q:Int)))]) (fun q=>q<=l.length/\(l.take q).all sK=true) (fun q=>l.length - q) 0 rfl ⟨Nat.zero_le _,rfl⟩ (fun q hq=>?_);obtain⟨av,I⟩:=hq;rcases Nat.lt_or_ge q l.length with Z|Z
 ·
  obtain⟨x,u⟩:=am Z;have hc:=mG u;have ao:=nV x;have ab:=mU u I;obtain⟨ax,ad⟩:=hx x (List.mem_of_getElem? u);have U:sK x=((x.all fun y=>decide (y.length<=8))&&decide (x.length<=8)):=rfl;refine aq ?_;refine az.ind (fun k:Nat=>[(4,.t (.int .i64 (k:Int)))]) (fun k=>k<=x.length/\(x.take k).all (fun y=>decide (y.length<=8))=true) (fun k=>x.length - k) 0 rfl ⟨Nat.zero_le _,rfl⟩ (fun k hk=>?_);obtain⟨al,G⟩:=hk;rcases Nat.lt_or_ge k x.length with h7|h7
  ·
   obtain⟨y,v⟩:=am h7;have ag:=lf v;have au:=aW y;have J:=mU v G;have aA:=ad y (List.mem_of_getElem? v);by_cases z:y.length<=8
   ·
    refine aq ?_;exact⟨k+1,rfl,rfl,⟨by omega,J.trans (decide_eq_true z)⟩,by omega⟩
   ·
    have D:T=false:=by
     rw[<- V];refine jm (List.mem_of_getElem? u) ?_;rw[U,jm (List.mem_of_getElem? v) (decide_eq_false z)];rfl
    subst D;rw[Bool.false_and];exact ah
  ·
   rw[List.take_of_length_le h7]at G;rw[G,Bool.true_and]at U;by_cases z:x.length<=8
   ·
    refine aq ?_;exact⟨q+1,rfl,rfl,⟨by omega,ab.trans (U.trans (decide_eq_true z))⟩,by omega⟩
   ·
    have D:T=false:=by
     rw[<- V];exact jm (List.mem_of_getElem? u) (U.trans (decide_eq_false z))
    subst D;rw[Bool.false_and];exact ah
 ·
  rw[List.take_of_length_le Z,V]at I;subst I;rw[Bool.true_and];by_cases z:l.length<=10
  ·
   rw[decide_eq_true z];exact ah
  ·
   rw[decide_eq_false z];exact ah
end Go.Proofs.YtcgdbhlnkificaaGreatDoor
