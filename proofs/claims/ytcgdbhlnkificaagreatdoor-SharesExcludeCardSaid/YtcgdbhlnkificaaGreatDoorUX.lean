/- Law 40: SharesExclude: the law's function answers true. No condition. -/
import Derived.Test.YtcgdbhlnkificaaGreatDoorTUV
set_option linter.all false
namespace Go.Proofs.YtcgdbhlnkificaaGreatDoor
open Go.RowKit
set_option maxRecDepth 100000
set_option maxHeartbeats 32000000
def TU(l:List Ev):pW 13 (b8 l)=true:=by
 cases l <;>rfl
def T6(l:List Ev)(k:Nat):(b8 l).take k=b8 (l.take k):=by unfold b8;rw[List.map_take]
def Ro(p:Pln):Pln:=⟨[],p.aA,[],[]⟩
def SM{m:Md}{p:Pln}(h:PW m p):PW m (Ro p) where
 md:=h.md
 ef:=h.ef
 op:=h.op
 pl:=by
  have:=h.pl;constructor <;>first|(simp[Ro];done)|exact this.aA|exact this.mem
def SN{m:Md}{p:Pln}(h:cy m p=true):cy m (Ro p)=true:=by
 have h:=kU.1 h;refine kU.2 ⟨h.lH,h.gb,rfl,fun x u=>(by cases u),h.lock,h.Dz,?_,?_,?_,?_⟩
 all_goals first|rfl|(intro x u;cases u)
def Tu{m:Md}{p:Pln}{e f:Int}(h:Rd m (Ro p) e f=true):∃(j:Nat) (L:Lck),p.aA[j]?=some L/\gL L e=true/\gL L f=true/\j9 m L e=j9 m L f/\(mN m L e=true\/mN m L f=true):=by
 unfold Rd at h;rw[Bool.or_eq_true]at h;rcases h with h|h
 ·unfold h_ Ro at h;simp at h
 ·obtain⟨L,v,u⟩:=List.any_eq_true.1 h;obtain⟨j,y⟩:=List.mem_iff_getElem?.1 v;unfold Q6 at u;simp only[Bool.and_eq_true,Bool.or_eq_true,decide_eq_true_eq]at u;exact⟨j,L,y,u.1.1,u.1.2,u.2.1,u.2.2⟩
def TL{m:Md}{p:Pln}{l:List Ev}(hm:bx m)(hp:nO p)(hE:l.length<=17592186044416)(he:∀e∈l,e.past.length<=17592186044416):Cl aj 7 [.t (bN m),.t (a_ p),.t (.arr (b8 l))] [] (.t (.bool true)) []:=by
 have ad:=hm.eff;have k0:=FB;have z:=Cy (p:=p) hm ad hp (l:=[]) (E:=l) (by simp) (fun x h=>by cases h) (by omega) (fun e h=>by have:=he e h;omega);have e1:(.arr (bA []):AV)=.arr []:=rfl;rw[e1]at z;have bb:=pn l;by_cases Z:oc m p [] l=true/\l.length<=30
 ·
  obtain⟨V,au⟩:=Z;rw[V]at z;obtain⟨hW,hS⟩:=Cz hm ad hp V;obtain⟨aM,hf,_,_⟩:=RQ V;have U:∀e∈l,e.past.length<=8:=(CC aM).2.2.2.1;rcases SI hW (by omega) au U with⟨e0,a1,hH,I⟩|I
  ·
   have kv:=(SM hW).v;rw[SN hH.pl]at kv;have G:=fun(a b:Int)=>TW (e:=a) (f:=b) (SM hW);have u:=fun(a b:Ev) (ha:a∈l) (hb:b∈l)=>Th a b (by have:=U a ha;omega) (by have:=U b hb;omega);have aT:=SN hH.pl
   have D:∀(x y:Ev),x∈l->y∈l->x.k=0->y.k=0->Q2 x y=true->Rd m (Ro p) x.a y.a=true->False:=fun x y hx hy G ky hc hq=>by
    obtain⟨j,L,hL,px,py,aG,hw⟩:=Tu hq;exact hH.SB hx hy G ky hc hL px py aG hw
   unfold a_ at z I kv G⊢;rw[bK]at z I kv G⊢;rw[aZ]at z I kv G⊢;dsimp only[Ro]at kv G;refine Cl.ap rfl Tryz.func7 rfl rfl rfl ?_
   repeat'(first
|(with_reducible first|apply ac.seq|apply ac.block)
|((with_reducible apply ac.text);(try case hm=>exact rfl))
|(with_reducible first|apply ac.skip|apply aH)
|((with_reducible apply ac.aY);(case hc=>exact rfl))
|((with_reducible apply aa.c_);(case hp=>exact ak))
|(with_reducible apply aa.aB)
|((with_reducible apply aa.av);(case hW=>exact rfl);(case hx=>exact ae))
|((with_reducible apply aa.u0);(case hx=>first
|(exact ai k0)
|(exact ai z)
|(exact di I)
|(exact ai kv)
|exact ae))
|fail)
   apply ac.cR
   case ho=>exact rfl
   case hp=>exact rfl
   case hl=>exact rfl
   case hs=>exact slt
   refine az.ind (fun q:Nat=>[(44,.t (.int .i64 (q:Int)))]) (fun q=>q<=l.length) (fun q=>l.length - q) 0 rfl (Nat.zero_le _) (fun q hq=>?_);rcases Nat.lt_or_ge q l.length with h3|h3
   ·
    obtain⟨x,al⟩:=am h3;have ag:=List.mem_of_getElem? al;have hc:=RB al;have aN:=T6 l q;have aX:(l.take q).length=q:=by rw[List.length_take];omega
    have bd:(b8 (l.take q)).length=q:=by rw[pn,List.length_take];omega
    unfold cx at hc
    repeat'(first
|(with_reducible first|apply ac.seq|apply ac.block)
|((with_reducible apply ac.text);(try case hm=>exact rfl))
|(with_reducible first|apply ac.skip|apply aH)
|((with_reducible apply ac.aR);(case hc=>exact rfl))
|((with_reducible apply aa.aF);(case hp=>exact ak))
|(with_reducible apply aa.aB)
|((with_reducible apply aa.u0);(case hx=>first
|((with_reducible apply af.F0);(case he|hx|hi=>exact rfl);(case hn=>first|assumption|omega|(simp;omega));(case hz=>exact TU _);(case hv=>exact aN))
|exact ae))
|fail)
    apply ac.cR
    case ho=>exact rfl
    case hp=>exact rfl
    case hl=>exact rfl
    case hs=>exact slt
    refine az.ind (fun k:Nat=>[(53,.t (.int .i64 (k:Int)))]) (fun k=>k<=q) (fun k=>q - k) 0 rfl (Nat.zero_le _) (fun k hk=>?_);rcases Nat.lt_or_ge k q with h4|h4
    ·
     obtain⟨y,an⟩:=am (xs:=l.take q) (k:=k) (by rw[List.length_take];omega);have ao:=List.mem_of_mem_take (List.mem_of_getElem? an);have ax:=RB an;have G:=G x.a y.a;have u:=u x y ag ao;have D:=D x y ag ao;rw[show cy m ⟨[],p.aA,[],[]⟩=true from aT,Bool.true_and]at G;obtain⟨b1,J⟩:∃b,Q2 x y=b:=⟨_,rfl⟩;obtain⟨b2,ab⟩:∃b,Rd m (Ro p) x.a y.a=b:=⟨_,rfl⟩;rw[J]at u D;rw[show Rd m ⟨[],p.aA,[],[]⟩ x.a y.a=b2 from ab]at G;rw[ab]at D;unfold c6 cx at u;unfold cx at ax;by_cases h5:x.k=0
     ·
      by_cases h6:y.k=0
      ·
       cases b1 with
       |true=>
        cases b2 with
        |true=>exact(D h5 h6 rfl rfl).elim
        |false=>
         repeat'(first
|(with_reducible first|apply ac.seq|apply ac.block)
|((with_reducible apply ac.text);(try case hm=>exact rfl))
|(with_reducible first|apply ac.skip|apply aH|apply fH)
|((with_reducible apply ac.aR);(case hc=>exact rfl))
|((with_reducible apply ac.aY);(case hc=>exact rfl))
|((with_reducible apply aa.aF);(case hp=>exact ak))
|((with_reducible apply aa.cj);(case hp=>exact ak))
|(with_reducible apply aa.aB)
|((with_reducible apply aa.av);(case hW=>exact rfl);(case hx=>first
|(exact ai u)
|(exact ai G)
|exact ae))
|((with_reducible apply aa.u0);(case hx=>exact ae))
|fail)
         exact⟨k+1,rfl,rfl,by omega,by omega⟩
       |false=>
        repeat'(first
|(with_reducible first|apply ac.seq|apply ac.block)
|((with_reducible apply ac.text);(try case hm=>exact rfl))
|(with_reducible first|apply ac.skip|apply aH|apply fH)
|((with_reducible apply ac.aR);(case hc=>exact rfl))
|((with_reducible apply ac.aY);(case hc=>exact rfl))
|((with_reducible apply aa.aF);(case hp=>exact ak))
|((with_reducible apply aa.cj);(case hp=>exact ak))
|(with_reducible apply aa.aB)
|((with_reducible apply aa.gf);(case hW=>exact rfl))
|((with_reducible apply aa.av);(case hW=>exact rfl);(case hx=>first
|(exact ai u)
|exact ae))
|((with_reducible apply aa.u0);(case hx=>exact ae))
|fail)
        exact⟨k+1,rfl,rfl,by omega,by omega⟩
      ·
       repeat'(first
|(with_reducible first|apply ac.seq|apply ac.block)
|((with_reducible apply ac.text);(try case hm=>exact rfl))
|(with_reducible first|apply ac.skip|apply aH|apply fH)
|((with_reducible apply ac.aR);(case hc=>exact rfl))
|((with_reducible apply ac.aY);(case hc=>exact rfl))
|((with_reducible apply aa.aF);(case hp=>exact ak))
|((with_reducible apply aa.c_);(case hp=>exact ak))
|(with_reducible apply aa.aB)
|((with_reducible apply aa.gf);(case hW=>exact rfl))
|((with_reducible apply aa.av);(case hW=>exact rfl);(case hx=>exact ae))
|((with_reducible apply aa.u0);(case hx=>exact ae))
|fail)
       exact⟨k+1,rfl,rfl,by omega,by omega⟩
     ·
      repeat'(first
|(with_reducible first|apply ac.seq|apply ac.block)
|((with_reducible apply ac.text);(try case hm=>exact rfl))
|(with_reducible first|apply ac.skip|apply aH|apply fH)
|((with_reducible apply ac.aR);(case hc=>exact rfl))
|((with_reducible apply ac.aY);(case hc=>exact rfl))
|((with_reducible apply aa.aF);(case hp=>exact ak))
|((with_reducible apply aa.bk);(case hp=>exact ak))
|(with_reducible apply aa.aB)
|((with_reducible apply aa.gf);(case hW=>exact rfl))
|((with_reducible apply aa.u0);(case hx=>exact ae))
|fail)
      exact⟨k+1,rfl,rfl,by omega,by omega⟩
    ·
     repeat'(first
|(with_reducible apply ac.seq)
|((with_reducible apply ac.text);(try case hm=>exact rfl))
|(with_reducible first|apply ac.exit|apply aH|apply da|apply fH|apply cY)
|((with_reducible apply ac.aY);(case hc=>exact rfl))
|((with_reducible apply aa.bk);(case hp=>exact ak))
|(with_reducible apply aa.aB)
|((with_reducible apply aa.u0);(case hx=>exact ae))
|fail)
     exact⟨q+1,rfl,rfl,by omega,by omega⟩
   ·
    repeat'(first
|(with_reducible apply ac.seq)
|((with_reducible apply ac.text);(try case hm=>exact rfl))
|(with_reducible first|apply ac.exit|apply ac.ret|apply aH|apply da|apply cY)
|((with_reducible apply ac.aY);(case hc=>exact rfl))
|((with_reducible apply aa.bk);(case hp=>exact ak))
|(with_reducible apply aa.aB)
|((with_reducible apply aa.u0);(case hx=>exact ae))
|fail)
    exact⟨.inr rfl,rfl⟩
  ·
   unfold a_ at z I⊢;rw[bK]at z I⊢;rw[aZ]at z I⊢;refine Cl.ap rfl Tryz.func7 rfl rfl rfl ?_
   repeat'(first
|(with_reducible apply ac.seq)
|((with_reducible apply ac.text);(try case hm=>exact rfl))
|(with_reducible first|apply ac.skip|apply ac.ret|apply aH|apply bL)
|((with_reducible apply ac.aR);(case hc=>exact rfl))
|((with_reducible apply ac.aY);(case hc=>exact rfl))
|((with_reducible apply aa.c_);(case hp=>exact ak))
|(with_reducible apply aa.aB)
|((with_reducible apply aa.av);(case hW=>exact rfl);(case hx=>exact ae))
|((with_reducible apply aa.u0);(case hx=>first
|(exact ai k0)
|(exact ai z)
|(exact ai I)
|exact ae))
|fail)
   exact⟨.inr rfl,rfl⟩
 ·
  obtain⟨b1,J⟩:∃b,oc m p [] l=b:=⟨_,rfl⟩;rw[J]at z Z;unfold a_ at z⊢;rw[bK]at z⊢;rw[aZ]at z⊢;refine Cl.ap rfl Tryz.func7 rfl rfl rfl ?_
  cases b1 with
  |false=>
   repeat'(first
|(with_reducible apply ac.seq)
|((with_reducible apply ac.text);(try case hm=>exact rfl))
|(with_reducible first|apply ac.skip|apply ac.ret|apply aH|apply bL)
|((with_reducible apply ac.aR);(case hc=>exact rfl))
|((with_reducible apply ac.aY);(case hc=>exact rfl))
|(with_reducible apply aa.aB)
|((with_reducible apply aa.gf);(case hW=>exact rfl))
|((with_reducible apply aa.u0);(case hx=>first
|(exact ai k0)
|(exact ai z)
|exact ae))
|fail)
   exact⟨.inr rfl,rfl⟩
  |true=>
   have a6:30 <l.length:=by
    rcases Nat.lt_or_ge 30 l.length with h|h
    ·exact h
    ·exact absurd ⟨rfl,h⟩ Z
   repeat'(first
|(with_reducible apply ac.seq)
|((with_reducible apply ac.text);(try case hm=>exact rfl))
|(with_reducible first|apply ac.skip|apply ac.ret|apply aH|apply bL)
|((with_reducible apply ac.aR);(case hc=>exact rfl))
|((with_reducible apply ac.aY);(case hc=>exact rfl))
|((with_reducible apply aa.cj);(case hp=>exact ak))
|(with_reducible apply aa.aB)
|((with_reducible apply aa.av);(case hW=>exact rfl);(case hx=>exact ae))
|((with_reducible apply aa.u0);(case hx=>first
|(exact ai k0)
|(exact ai z)
|exact ae))
|fail)
   exact⟨.inr rfl,rfl⟩
end Go.Proofs.YtcgdbhlnkificaaGreatDoor
