/- Law 39: what is few enough,and lists of lists that are. No condition. -/
import Derived.Test.YtjolgbkkocjpgaaGreatDoorTNI
import Derived.Test.YtjolgbkkocjpgaaGreatDoorRPD
import Derived.Test.YtjolgbkkocjpgaaGreatDoorTRE
import Derived.Test.YtjolgbkkocjpgaaGreatDoorTRS
set_option linter.all false
namespace Go.Proofs.YtjolgbkkocjpgaaGreatDoor
open Go.RowKit
set_option maxRecDepth 100000
set_option maxHeartbeats 32000000
section
variable {g:Cfg} {d:Option (List Nat)} {i:Nat} {env:Env} {fr:Fr}
def ac.IJ{c:Operand}{args:Array Operand}{tys:Array TypeId}{f:Nat}{pa y u:List SV}{xs:List AV}{v:List SV}{r:SV}{fr':Fr}(hcl:Cl g f v [] r [])(hcal:ep (rd env c)=some (f,pa,y))(hav:pa++args.toList.map (rd env)++y=u)(hx:cR fr (br (aM g f 0 u) u)=some xs)(hh:cE [] (fc (aM g f 0 u) u)=[])(hm:dh (bc []) (aM g f 0 u) u xs=v)
  (hd:dZ d i=false)(hf':dF r=false)(hn:r.refs=[])(hf:aI (freeze fr (bD fr (br (aM g f 0 u) u))) fr'):ac g d i env fr (.call ⟨.value c,args,tys⟩) r fr' []:=.call hcl hcal hav hx hh hm (by
 unfold oo;rw[hf',hd];simp only[SV.xz r hn,hf.eq,List.map_nil,List.append_nil])
end
def wq{A:List (List Int)}(hl:A.length<=140737488351232)(hp:∀x∈A,x.length<=140737488351232):Cl ah 23 [.t (.arr (aF A)),.t (.arr (aF A))] [] (.t (.bool true)) []:=by
 have v:=ic A;refine Cl.aq rfl Tryz.func23 rfl rfl rfl ?_;refine ak ?_;refine ax.ind (fun q:Nat=>[(5,.t (.int .i64 (q:Int)))]) (fun q=>q<=A.length) (fun q=>A.length - q) 0 rfl (by omega) (fun q D=>?_);rcases Nat.lt_or_ge q A.length with h3|h3
 ·
  obtain⟨x,u⟩:=aj h3;have z:=iG u;have y:=OU (hp x (List.mem_of_getElem? u)) (hp x (List.mem_of_getElem? u));rw[beq_self_eq_true]at y;exact ae
 ·
  exact ae
def rT(n:Int):Bool:=decide (-2000000000000<=n)&&decide (n<=2000000000000)
def qA(x:List Int):Bool:=decide (x.length<=8)&&x.all rT
def zN(L:Lck):Bool:=decide (L.mem.length<=30)
def rk(m:Md)(p:Pln)(l:List (List Int))(E:List Ev):Bool:=iJ m E&&(decide (p.ao.length<=20)&&(decide (p.aD.length<=10)&&(decide (p.places.length<=30)&&(decide (p.bh.length<=8)&&(decide (l.length<=20)&&(l.all qA&&p.aD.all zN))))))
def sP{α:Type}{l:List α}{f:α->Bool}{q:Nat}{x:α}(hx:l[q]?=some x)(h:(l.take q).all f=true):(l.take (q+1)).all f=f x:=by
 rw[List.take_add_one,List.all_append,h,hx];simp
def pC{α:Type}{l:List α}{f:α->Bool}{x:α}(hx:x∈l)(h:f x=false):l.all f=false:=by
 rw[<- Bool.not_eq_true];intro u;have:=List.all_eq_true.1 u x hx;rw[h]at this;cases this
def KA{m:Md}{p:Pln}{l:List (List Int)}{E:List Ev}(hm:bo m)(ad:∀a∈m.au,iB a.eff)(hp:ml p)(hl:l.length<=140737488351232)(hx:∀x∈l,x.length<=140737488351232)(hE:E.length<=140737488351232)(he:∀e∈E,e.past.length<=140737488351232):Cl ah 8 [.t (bk m),.t (aN p),.t (.arr (aF l)),.t (.arr (cC E))] [] (.t (.bool (rk m p l E))) []:=by
 have kf:=KD (l:=E) hm ad hE he;have a6:=kE p.ao;have a8:=nK p.aD;have be:=kU p.places;have bd:=aO p.bh;have a1:=ic l;have av:=hp.ao;have aB:=hp.aD;have aJ:=hp.places;have aG:=hp.bh;obtain⟨b,hb⟩:∃b,iJ m E=b:=⟨_,rfl⟩;obtain⟨T,Z⟩:∃b,l.all qA=b:=⟨_,rfl⟩;obtain⟨U,hU⟩:∃b,p.aD.all zN=b:=⟨_,rfl⟩;unfold rk;rw[hb]at kf;rw[hb,Z,hU];unfold aN;rw[aS]at kf⊢;rw[bt];refine Cl.aq rfl Tryz.func8 rfl rfl rfl ?_
 cases b with
 |false=>
  exact ae
 |true=>
  rw[Bool.true_and];by_cases h0:p.ao.length<=20
  ·
   rw[decide_eq_true h0,Bool.true_and];by_cases h1:p.aD.length<=10
   ·
    rw[decide_eq_true h1,Bool.true_and];by_cases h2:p.places.length<=30
    ·
     rw[decide_eq_true h2,Bool.true_and];by_cases h3:p.bh.length<=8
     ·
      rw[decide_eq_true h3,Bool.true_and];by_cases h4:l.length<=20
      ·
       rw[decide_eq_true h4,Bool.true_and];refine ak ?_;refine ax.ind (fun q:Nat=>[(9,.t (.int .i64 (q:Int)))]) (fun q=>q<=l.length/\(l.take q).all qA=true) (fun q=>l.length - q) 0 rfl ⟨by omega,rfl⟩ (fun q hq=>?_);obtain⟨ai,u⟩:=hq;rcases Nat.lt_or_ge q l.length with y|y
       ·
        obtain⟨x,v⟩:=aj y;have hc:=iG v;have bf:=aO x;have hs:=sP v u;by_cases G:x.length<=8
        ·
         obtain⟨W,hW⟩:∃b,x.all rT=b:=⟨_,rfl⟩;have I:qA x=W:=by unfold qA;rw[hW,decide_eq_true G,Bool.true_and]
         refine ak ?_;refine ax.ind (fun k:Nat=>[(10,.t (.int .i64 (k:Int)))]) (fun k=>k<=x.length/\(x.take k).all rT=true) (fun k=>x.length - k) 0 rfl ⟨by omega,rfl⟩ (fun k hk=>?_);obtain⟨aX,D⟩:=hk;rcases Nat.lt_or_ge k x.length with h7|h7
         ·
          obtain⟨n,hn⟩:=aj h7;have aV:=aW hn;have al:=sP hn D;by_cases J : -2000000000000<=n/\n<=2000000000000
          ·
           obtain⟨J,h9⟩:=J;have ag:rT n=true:=by unfold rT;rw[decide_eq_true J,decide_eq_true h9];rfl
           refine ak ?_;exact⟨k+1,rfl,rfl,⟨by omega,al.trans ag⟩,by omega⟩
          ·
           have z:T=false:=by
            rw[<- Z];refine pC (List.mem_of_getElem? v) ?_;rw[I,<- hW];refine pC (List.mem_of_getElem? hn) ?_;unfold rT;rw[<- Bool.not_eq_true,Bool.and_eq_true,decide_eq_true_eq,decide_eq_true_eq];exact J
           subst z;by_cases h9:n < -2000000000000
           ·
            exact ae
           ·
            have an:2000000000000 <n:=by omega
            exact ae
         ·
          rw[List.take_of_length_le h7,hW]at D;refine ak ?_;exact⟨q+1,rfl,rfl,⟨by omega,by rw[hs,I,D]⟩,by omega⟩
        ·
         have z:T=false:=by
          rw[<- Z];refine pC (List.mem_of_getElem? v) ?_;unfold qA;rw[decide_eq_false G,Bool.false_and]
         subst z;exact ae
       ·
        rw[List.take_of_length_le y,Z]at u;subst u;refine ak ?_;refine ax.ind (fun q:Nat=>[(11,.t (.int .i64 (q:Int)))]) (fun q=>q<=p.aD.length/\(p.aD.take q).all zN=true) (fun q=>p.aD.length - q) 0 rfl ⟨by omega,rfl⟩ (fun q hq=>?_);obtain⟨ai,u⟩:=hq;rcases Nat.lt_or_ge q p.aD.length with y|y
        ·
         obtain⟨L,V⟩:=aj y;have hc:=mL V;have bb:=kU L.mem;have hs:=sP V u;have aR:=hp.mem L (List.mem_of_getElem? V);by_cases G:L.mem.length<=30
         ·
          refine ak ?_;exact⟨q+1,rfl,rfl,⟨by omega,hs.trans (decide_eq_true G)⟩,by omega⟩
         ·
          have ab:U=false:=by
           rw[<- hU];exact pC (List.mem_of_getElem? V) (decide_eq_false G)
          subst ab;exact ae
        ·
         rw[List.take_of_length_le y,hU]at u;subst u;exact ae
      ·
       rw[decide_eq_false h4,Bool.false_and];exact ae
     ·
      rw[decide_eq_false h3,Bool.false_and];exact ae
    ·
     rw[decide_eq_false h2,Bool.false_and];exact ae
   ·
    rw[decide_eq_false h1,Bool.false_and];exact ae
  ·
   rw[decide_eq_false h0,Bool.false_and];exact ae
set_option maxRecDepth 100000
set_option maxHeartbeats 32000000
def gw:Md:=⟨[],[⟨⟨#[99]⟩,1,[],0,6,0⟩],[⟨#[99]⟩],[⟨0,0,⟨[⟨0,-1⟩],0⟩,0,0⟩,⟨0,0,⟨[⟨0,1⟩],6⟩,0,0⟩],[⟨⟨#[111]⟩,false,[]⟩],[⟨0,[],⟨[⟨0,2⟩],[],[]⟩⟩],[]⟩
def mC:Pln:=⟨[⟨1,HJ⟩],[],[],[]⟩
def CL:bo gw:=by constructor <;>simp[gw]
def yL:PW gw mC where
 md:=CL
 ef:=by
  intro a u;simp only[gw,List.mem_cons,List.not_mem_nil,or_false]at u;subst u;constructor <;>simp
 op:=by simp[gw]
 pl:=by constructor <;>simp[mC]
def JL:Small gw where
 len:=CL
 ok:=by kernel_rfl
 eN:=by
  intro a u;simp only[gw,List.mem_cons,List.not_mem_nil,or_false]at u;subst u;kernel_rfl
def JO:v_ gw mC 2 [1]=([[3,2]],0):=by kernel_rfl
def JM:gv gw mC [[3,2]] ⟨1,1,1,[0,0],0,0,0,0,0,0,0,0,1⟩=([[3,0]],0):=by kernel_rfl
def JP:lM gw mC [[3,0]] 1 0=([⟨0,0,0,2⟩],0):=by kernel_rfl
def JN:Cl ah 26 [] [] (.aJ [.t (bk gw),.t (aN mC)]) []:=⟨30,by kernel_rfl⟩
def Oq:Cl ah 7 [] [] (.t (.bool true)) []:=by
 have z:=JN;have v:=OT (R:=2) (c:=[1]) yL JL (by decide) (by decide);have u:=Fz (l:=[[3,2]]) (e:=⟨1,1,1,[0,0],0,0,0,0,0,0,0,0,1⟩) yL (by decide) (by decide) (by decide) (by decide);have y:=FN (l:=[[3,0]]) (r:=1) (a:=0) yL (by decide) (by decide) (by decide);have G:=wq (A:=[[3,2]]) (by decide) (by decide);have I:=wq (A:=[[3,0]]) (by decide) (by decide);rw[JO]at v;rw[JM]at u;rw[JP]at y;rw[aS]at z v u y;unfold aN at z v u y;rw[bt]at z v u y;generalize ay gw.ai=s1 at*
 generalize bq gw.tables=s2 at*
 generalize bX gw.bx=s3 at*
 generalize dc gw.cons=s4 at*
 generalize dk gw.ops=s5 at*
 generalize cK gw.au=s6 at*
 generalize cu gw.aG=s7 at*
 generalize eA mC.ao=J at*
 generalize dO mC.aD=U at*
 generalize cw mC.places=V at*
 generalize ay mC.bh=Z at*
 dsimp only at v u y;refine Cl.aq rfl Tryz.func7 rfl rfl rfl ?_
 repeat'(first
|(refine aY ?_)
|((with_reducible apply aa.bi)<;>intro hq)
|(refine ar ?_)
|((with_reducible apply aa.aB);(case hW=>exact rfl);(case hx=>first
|(exact ap G)
|(exact ap I)
|exact af))
|((with_reducible apply aa.u0);(case hx=>first
|(exact gR z)
|(exact gR v)
|(exact gR u)
|(exact gR y)
|exact af))
|fail)
 all_goals first
  |(exfalso;rename_i D;exact D rfl)
  |(exfalso;simp_all;done)
  |(refine a_ (.inr rfl) rfl ?_;simp_all;done)
  |exact⟨.inr rfl,rfl⟩
end Go.Proofs.YtjolgbkkocjpgaaGreatDoor
