/- Law 39: what is few enough,and lists of lists that are the same,as contracts. No condition. -/
import Derived.Test.YtjolgbkkocjpgaaGreatDoorTNI
import Derived.Test.YtjolgbkkocjpgaaGreatDoorRPD
import Derived.Test.YtjolgbkkocjpgaaGreatDoorTRE
import Derived.Test.YtjolgbkkocjpgaaGreatDoorTRS
set_option linter.defProp false
set_option linter.unusedSimpArgs false
set_option linter.unusedVariables false
set_option linter.unusedSectionVars false
namespace Go.Proofs.YtjolgbkkocjpgaaGreatDoor
open Go.RowKit
set_option maxRecDepth 100000
set_option maxHeartbeats 32000000
section
variable {g:Cfg} {d:Option (List Nat)} {i:Nat} {env:Env} {fr:Fr}
def ae.PU{c:Operand}{args:Array Operand}{tys:Array TypeId}{f:Nat}{pa y u:List SV}{xs:List AV}{v:List SV}{r:SV}{fr':Fr}(hcl:Cl g f v [] r [])(hcal:dR (rd env c)=some (f,pa,y))(hav:pa++args.toList.map (rd env)++y=u)(hx:cz fr (bi (aM g f 0 u) u)=some xs)(hh:cx [] (ew (aM g f 0 u) u)=[])(hm:cY (aX []) (aM g f 0 u) u xs=v)
  (hd:dI d i=false)(hf':dl r=false)(hn:r.refs=[])(hf:aJ (freeze fr (bo fr (bi (aM g f 0 u) u))) fr'):ae g d i env fr (.call ⟨.value c,args,tys⟩) r fr' []:=.call hcl hcal hav hx hh hm (by
 unfold nF;rw[hf',hd];simp only[SV.uG r hn,hf.eq,List.map_nil,List.append_nil])
end
def zU{A:List (List Int)}(hl:A.length<=140737488351232)(hp:∀x∈A,x.length<=140737488351232):Cl ai 23 [.t (.arr (aO A)),.t (.arr (aO A))] [] (.t (.bool true)) []:=by
 have v:=jY A;refine Cl.ao rfl Tryz.func23 rfl rfl rfl ?_;refine ar ?_;refine aC.ind (fun q:Nat=>[(5,.t (.int .i64 (q:Int)))]) (fun q=>q<=A.length) (fun q=>A.length - q) 0 rfl (by omega) (fun q D=>?_);rcases Nat.lt_or_ge q A.length with h3|h3
 ·
  obtain⟨x,u⟩:=am h3;have z:=jv u;have y:=KR (hp x (List.mem_of_getElem? u)) (hp x (List.mem_of_getElem? u));rw[beq_self_eq_true]at y;exact af
 ·
  exact af
def q6(n:Int):Bool:=decide (-2000000000000<=n)&&decide (n<=2000000000000)
def pD(x:List Int):Bool:=decide (x.length<=8)&&x.all q6
def zV(L:Lck):Bool:=decide (L.mem.length<=30)
def pE(m:Md)(p:Pln)(l:List (List Int))(E:List Ev):Bool:=jD m E&&(decide (p.aw.length<=20)&&(decide (p.aR.length<=10)&&(decide (p.places.length<=30)&&(decide (p.bI.length<=8)&&(decide (l.length<=20)&&(l.all pD&&p.aR.all zV))))))
def zW{α:Type}{l:List α}{f:α->Bool}{q:Nat}{x:α}(hx:l[q]?=some x)(h:(l.take q).all f=true):(l.take (q+1)).all f=f x:=by
 rw[List.take_add_one,List.all_append,h,hx];simp
def wo{α:Type}{l:List α}{f:α->Bool}{x:α}(hx:x∈l)(h:f x=false):l.all f=false:=by
 rw[<- Bool.not_eq_true];intro u;have:=List.all_eq_true.1 u x hx;rw[h]at this;cases this
def F0{m:Md}{p:Pln}{l:List (List Int)}{E:List Ev}(hm:bt m)(ad:∀a∈m.ay,iC a.eff)(hp:n9 p)(hl:l.length<=140737488351232)(hx:∀x∈l,x.length<=140737488351232)(hE:E.length<=140737488351232)(he:∀e∈E,e.past.length<=140737488351232):Cl ai 8 [.t (bz m),.t (ba p),.t (.arr (aO l)),.t (.arr (bL E))] [] (.t (.bool (pE m p l E))) []:=by
 have kf:=NP (l:=E) hm ad hE he;have aS:=py p.aw;have a1:=vJ p.aR;have bb:=n8 p.places;have a_:=aQ p.bI;have aL:=jY l;have ap:=hp.aw;have au:=hp.aR;have aD:=hp.places;have aA:=hp.bI;obtain⟨b,hb⟩:∃b,jD m E=b:=⟨_,rfl⟩;obtain⟨T,Z⟩:∃b,l.all pD=b:=⟨_,rfl⟩;obtain⟨U,hU⟩:∃b,p.aR.all zV=b:=⟨_,rfl⟩;unfold pE;rw[hb]at kf;rw[hb,Z,hU];unfold ba;rw[aW]at kf⊢;rw[bX];refine Cl.ao rfl Tryz.func8 rfl rfl rfl ?_
 cases b with
 |false=>
  exact af
 |true=>
  rw[Bool.true_and];by_cases h0:p.aw.length<=20
  ·
   rw[decide_eq_true h0,Bool.true_and];by_cases h1:p.aR.length<=10
   ·
    rw[decide_eq_true h1,Bool.true_and];by_cases h2:p.places.length<=30
    ·
     rw[decide_eq_true h2,Bool.true_and];by_cases h3:p.bI.length<=8
     ·
      rw[decide_eq_true h3,Bool.true_and];by_cases h4:l.length<=20
      ·
       rw[decide_eq_true h4,Bool.true_and];refine ar ?_;refine aC.ind (fun q:Nat=>[(9,.t (.int .i64 (q:Int)))]) (fun q=>q<=l.length/\(l.take q).all pD=true) (fun q=>l.length - q) 0 rfl ⟨by omega,rfl⟩ (fun q hq=>?_);obtain⟨ak,u⟩:=hq;rcases Nat.lt_or_ge q l.length with y|y
       ·
        obtain⟨x,v⟩:=am y;have hc:=jv v;have bc:=aQ x;have hs:=zW v u;by_cases G:x.length<=8
        ·
         obtain⟨W,hW⟩:∃b,x.all q6=b:=⟨_,rfl⟩;have I:pD x=W:=by unfold pD;rw[hW,decide_eq_true G,Bool.true_and]
         refine ar ?_;refine aC.ind (fun k:Nat=>[(10,.t (.int .i64 (k:Int)))]) (fun k=>k<=x.length/\(x.take k).all q6=true) (fun k=>x.length - k) 0 rfl ⟨by omega,rfl⟩ (fun k hk=>?_);obtain⟨aI,D⟩:=hk;rcases Nat.lt_or_ge k x.length with h7|h7
         ·
          obtain⟨n,hn⟩:=am h7;have aH:=aU hn;have al:=zW hn D;by_cases J : -2000000000000<=n/\n<=2000000000000
          ·
           obtain⟨J,h9⟩:=J;have ag:q6 n=true:=by unfold q6;rw[decide_eq_true J,decide_eq_true h9];rfl
           refine ar ?_;exact⟨k+1,rfl,rfl,⟨by omega,al.trans ag⟩,by omega⟩
          ·
           have z:T=false:=by
            rw[<- Z];refine wo (List.mem_of_getElem? v) ?_;rw[I,<- hW];refine wo (List.mem_of_getElem? hn) ?_;unfold q6;rw[<- Bool.not_eq_true,Bool.and_eq_true,decide_eq_true_eq,decide_eq_true_eq];exact J
           subst z;by_cases h9:n < -2000000000000
           ·
            exact af
           ·
            have an:2000000000000 <n:=by omega
            exact af
         ·
          rw[List.take_of_length_le h7,hW]at D;refine ar ?_;exact⟨q+1,rfl,rfl,⟨by omega,by rw[hs,I,D]⟩,by omega⟩
        ·
         have z:T=false:=by
          rw[<- Z];refine wo (List.mem_of_getElem? v) ?_;unfold pD;rw[decide_eq_false G,Bool.false_and]
         subst z;exact af
       ·
        rw[List.take_of_length_le y,Z]at u;subst u;refine ar ?_;refine aC.ind (fun q:Nat=>[(11,.t (.int .i64 (q:Int)))]) (fun q=>q<=p.aR.length/\(p.aR.take q).all zV=true) (fun q=>p.aR.length - q) 0 rfl ⟨by omega,rfl⟩ (fun q hq=>?_);obtain⟨ak,u⟩:=hq;rcases Nat.lt_or_ge q p.aR.length with y|y
        ·
         obtain⟨L,V⟩:=am y;have hc:=sP V;have a6:=n8 L.mem;have hs:=zW V u;have aE:=hp.mem L (List.mem_of_getElem? V);by_cases G:L.mem.length<=30
         ·
          refine ar ?_;exact⟨q+1,rfl,rfl,⟨by omega,hs.trans (decide_eq_true G)⟩,by omega⟩
         ·
          have ab:U=false:=by
           rw[<- hU];exact wo (List.mem_of_getElem? V) (decide_eq_false G)
          subst ab;exact af
        ·
         rw[List.take_of_length_le y,hU]at u;subst u;exact af
      ·
       rw[decide_eq_false h4,Bool.false_and];exact af
     ·
      rw[decide_eq_false h3,Bool.false_and];exact af
    ·
     rw[decide_eq_false h2,Bool.false_and];exact af
   ·
    rw[decide_eq_false h1,Bool.false_and];exact af
  ·
   rw[decide_eq_false h0,Bool.false_and];exact af
set_option maxRecDepth 100000
set_option maxHeartbeats 32000000
def fX:Md:=⟨[],[⟨⟨#[99]⟩,1,[],0,6,0⟩],[⟨#[99]⟩],[⟨0,0,⟨[⟨0,-1⟩],0⟩,0,0⟩,⟨0,0,⟨[⟨0,1⟩],6⟩,0,0⟩],[⟨⟨#[111]⟩,false,[]⟩],[⟨0,[],⟨[⟨0,2⟩],[],[]⟩⟩],[]⟩
def mi:Pln:=⟨[⟨1,De⟩],[],[],[]⟩
def F1:bt fX:=by constructor <;>simp[fX]
def zX:PW fX mi where
 md:=F1
 ef:=by
  intro a u;simp only[fX,List.mem_cons,List.not_mem_nil,or_false]at u;subst u;constructor <;>simp
 op:=by simp[fX]
 pl:=by constructor <;>simp[mi]
def PV:Small fX where
 len:=F1
 ok:=by kernel_rfl
 fo:=by
  intro a u;simp only[fX,List.mem_cons,List.not_mem_nil,or_false]at u;subst u;kernel_rfl
def PX:oe fX mi 2 [1]=([[3,2]],0):=by kernel_rfl
def PY:lB fX mi [[3,2]] ⟨1,1,1,[0,0],0,0,0,0,0,0,0,0,1⟩=([[3,0]],0):=by kernel_rfl
def PZ:wm fX mi [[3,0]] 1 0=([⟨0,0,0,2⟩],0):=by kernel_rfl
def P0:Cl ai 26 [] [] (.aL [.t (bz fX),.t (ba mi)]) []:=⟨30,by kernel_rfl⟩
def F2:Cl ai 7 [] [] (.t (.bool true)) []:=by
 have z:=P0;have v:=FY (R:=2) (c:=[1]) zX PV (by decide) (by decide);have u:=FO (l:=[[3,2]]) (e:=⟨1,1,1,[0,0],0,0,0,0,0,0,0,0,1⟩) zX (by decide) (by decide) (by decide) (by decide);have y:=PT (l:=[[3,0]]) (r:=1) (a:=0) zX (by decide) (by decide) (by decide);have G:=zU (A:=[[3,2]]) (by decide) (by decide);have I:=zU (A:=[[3,0]]) (by decide) (by decide);rw[PX]at v;rw[PY]at u;rw[PZ]at y;rw[aW]at z v u y;unfold ba at z v u y;rw[bX]at z v u y;generalize ax fX.ak=s1 at*
 generalize br fX.tables=s2 at*
 generalize b5 fX.bw=s3 at*
 generalize dN fX.cons=s4 at*
 generalize dO fX.ops=s5 at*
 generalize de fX.ay=s6 at*
 generalize cG fX.aI=s7 at*
 generalize fq mi.aw=J at*
 generalize e_ mi.aR=U at*
 generalize cK mi.places=V at*
 generalize ax mi.bI=Z at*
 dsimp only at v u y;refine Cl.ao rfl Tryz.func7 rfl rfl rfl ?_
 repeat'(first
|(with_reducible apply ac.seq)
|((with_reducible apply ac.text);(try case hm=>exact rfl))
|(with_reducible first|apply ac.skip|apply ac.ret|apply az)
|((with_reducible apply ac.aH);(case hc=>exact rfl))
|((with_reducible apply aa.aE);(case hp=>exact aj))
|((with_reducible apply aa.dS);(case hp=>exact aj))
|((with_reducible apply aa.bg)<;>intro hq)
|(with_reducible apply aa.ap)
|((with_reducible apply aa.gf);(case hW=>exact rfl))
|((with_reducible apply aa.aD);(case hW=>exact rfl);(case hx=>first
|(exact aq G)
|(exact aq I)
|exact ah))
|((with_reducible apply aa.u0);(case hx=>first
|(exact qf z)
|(exact qf v)
|(exact qf u)
|(exact qf y)
|exact ah))
|fail)
 all_goals first
  |(exfalso;rename_i D;exact D rfl)
  |(exfalso;simp_all;done)
  |(refine aZ (.inr rfl) rfl ?_;simp_all;done)
  |exact⟨.inr rfl,rfl⟩
end Go.Proofs.YtjolgbkkocjpgaaGreatDoor
