/- Law 40: SharesStarts: the law's function answers true. No condition. -/
import Derived.Test.YtcgdbhlnkificaaGreatDoorUH
set_option linter.all false
namespace Go.Proofs.YtcgdbhlnkificaaGreatDoor
open Go.RowKit
set_option maxRecDepth 100000
set_option maxHeartbeats 32000000
def Gj{m:Md}{p:Pln}{R:Int}{l:aO}(h:cT m p R l=true):Rm l:=by
 obtain⟨D,J,U,z⟩:=lU.1 h;have v:=(kU.1 D).gb;refine⟨by omega,fun x G=>?_⟩;obtain⟨i,u⟩:=List.mem_iff_getElem?.1 G;obtain⟨h1,h2⟩:=z i x u;have:=qI m p (i:Int);exact⟨by omega,fun y I=>by have:=(h2 y I).1;omega⟩
def Ka{m:Md}{p:Pln}{R:Int}(hv:cy m p=true)(z:1<=R/\R<=5):cT m p R (iY m p R)=true:=by
 refine lU.2 ⟨hv,z,yC m p R,fun i x u=>?_⟩;unfold iY at u;rw[List.getElem?_map]at u
 cases v:(List.range p.aA.length)[i]? with
 |none=>rw[v]at u;cases u
 |some j=>
  rw[v]at u
  have D:j=i:=by
   have h1:=aC v;rw[List.length_range]at h1;rw[List.getElem?_range h1]at v;exact(Option.some.inj v).symm
  subst D;cases u;have:=qI m p (j:Int);rw[List.length_replicate];refine⟨by omega,fun y I=>?_⟩;rw[List.eq_of_mem_replicate I,List.length_replicate];refine⟨by omega,fun n G=>?_⟩;rw[List.eq_of_mem_replicate G];omega
def O_(m:Md)(p:Pln)(R:Int):mI m p R=([],1)\/(mI m p R=(iY m p R,0)/\cT m p R (iY m p R)=true):=by
 unfold mI;split
 ·rename_i h;exact .inr ⟨rfl,Ka h.1 h.2⟩
 ·exact .inl rfl
def KK{m:Md}{p:Pln}{R:Int}{l:aO}(hm:bx m)(hp:nO p)(hl:l.length<=17592186044416)(hx:∀x∈l,x.length<=17592186044416/\∀y∈x,y.length<=17592186044416):Cl aj 3 [.t (bN m),.t (a_ p),.t (.int .i64 R),.t (.arr (aU l))] [] (.t (.bool true)) []:=by
 have ad:=hm.eff;have V:=FB;have u:=Cy (p:=p) (l:=[]) (E:=[]) hm ad hp (by simp) (fun x h=>by cases h) (by simp) (fun x h=>by cases h);have e0:(.arr (b8 []):AV)=.arr []:=rfl;have e1:(.arr (bA []):AV)=.arr []:=rfl;rw[e0,e1]at u;have U:=CA (l:=l) (by omega) (fun x h=>⟨by have:=(hx x h).1;omega,fun y hy=>by have:=(hx x h).2 y hy;omega⟩)
 cases D:oc m p [] []with
 |false=>
  rw[D]at u;unfold a_ at u⊢;rw[aZ,bK]at u⊢;refine Cl.ap rfl Tryz.func3 rfl rfl rfl ?_
  repeat'(first
|(with_reducible apply ac.seq)
|((with_reducible apply ac.text);(try case hm=>exact rfl))
|(with_reducible first|apply ac.skip|apply ac.ret|apply aH|apply bL)
|((with_reducible apply ac.aR);(case hc=>exact rfl))
|((with_reducible apply ac.aY);(case hc=>exact rfl))
|(with_reducible apply aa.aB)
|((with_reducible apply aa.gf);(case hW=>exact rfl))
|((with_reducible apply aa.u0);(case hx=>first
|(exact ai V)
|(exact ai u)
|exact ae))
|fail)
  exact⟨.inr rfl,rfl⟩
 |true=>
  rw[D]at u
  cases J:po l with
  |false=>
   rw[J]at U;unfold a_ at u⊢;rw[aZ,bK]at u⊢;refine Cl.ap rfl Tryz.func3 rfl rfl rfl ?_
   repeat'(first
|(with_reducible apply ac.seq)
|((with_reducible apply ac.text);(try case hm=>exact rfl))
|(with_reducible first|apply ac.skip|apply ac.ret|apply aH|apply bL)
|((with_reducible apply ac.aR);(case hc=>exact rfl))
|((with_reducible apply ac.aY);(case hc=>exact rfl))
|(with_reducible apply aa.aB)
|((with_reducible apply aa.av);(case hW=>exact rfl);(case hx=>first
|(exact ai U)
|exact ae))
|((with_reducible apply aa.u0);(case hx=>first
|(exact ai V)
|(exact ai u)
|exact ae))
|fail)
   exact⟨.inr rfl,rfl⟩
  |true=>
   rw[J]at U;obtain⟨hW,hS⟩:=Cz hm ad hp D;have hf:=(yi D).2.1;have al:=CB J;have v:=FQ (R:=R) hW;have z:=Nu (R:=R) hW;have I:=tU (R:=R) hW al;have G:=N_ (R:=R) hW al;obtain⟨b,hb⟩:∃b,cT m p R l=b:=⟨_,rfl⟩;rw[hb]at I G;rcases O_ m p R with hI|⟨hI,ab⟩
   ·
    rw[hI]at v z;have ks:=rL (A:=[]) ⟨by simp,fun x h=>by cases h⟩;dsimp only at v z ks;have e2:(.arr (aU []):AV)=.arr []:=rfl;rw[e2]at v z ks;unfold a_ at u v z I G⊢;rw[aZ,bK]at u v z I G⊢;refine Cl.ap rfl Tryz.func3 rfl rfl rfl ?_
    cases b with
    |true=>
     repeat'(first
|(with_reducible apply ac.seq)
|((with_reducible apply ac.text);(try case hm=>exact rfl))
|((with_reducible apply ac.drawn);(case hm=>exact rfl))
|(with_reducible first|apply ac.skip|apply ac.ret|apply aH)
|((with_reducible apply ac.aY);(case hc=>exact rfl))
|((with_reducible apply aa.cj);(case hp=>exact ak))
|((with_reducible apply aa.iM);(case hp=>exact ak))
|(with_reducible apply aa.aB)
|((with_reducible apply aa.gf);(case hW=>exact rfl))
|((with_reducible apply aa.av);(case hW=>exact rfl);(case hx=>first
|(exact ai U)
|(exact ai I)
|(exact ai G)
|exact ae))
|((with_reducible apply aa.u0);(case hx=>first
|(exact ai V)
|(exact ai u)
|(exact di v)
|(exact di z)
|(exact ai ks)
|exact ae))
|fail)
     exact⟨.inr rfl,rfl⟩
    |false=>
     repeat'(first
|(with_reducible apply ac.seq)
|((with_reducible apply ac.text);(try case hm=>exact rfl))
|((with_reducible apply ac.drawn);(case hm=>exact rfl))
|(with_reducible first|apply ac.skip|apply ac.ret|apply aH)
|((with_reducible apply ac.aY);(case hc=>exact rfl))
|((with_reducible apply aa.cj);(case hp=>exact ak))
|((with_reducible apply aa.iM);(case hp=>exact ak))
|(with_reducible apply aa.aB)
|((with_reducible apply aa.gf);(case hW=>exact rfl))
|((with_reducible apply aa.av);(case hW=>exact rfl);(case hx=>first
|(exact ai U)
|(exact ai I)
|(exact ai G)
|exact ae))
|((with_reducible apply aa.u0);(case hx=>first
|(exact ai V)
|(exact ai u)
|(exact di v)
|(exact di z)
|(exact ai ks)
|exact ae))
|fail)
     exact⟨.inr rfl,rfl⟩
   ·
    rw[hI]at v z;have ag:=Gj ab;have ks:=rL ag;have Z:=tU (R:=R) hW ag;rw[ab]at Z;dsimp only at v z;generalize iY m p R=L at v z ks Z;unfold a_ at u v z I G Z⊢;rw[aZ,bK]at u v z I G Z⊢;refine Cl.ap rfl Tryz.func3 rfl rfl rfl ?_
    cases b with
    |true=>
     repeat'(first
|(with_reducible apply ac.seq)
|((with_reducible apply ac.text);(try case hm=>exact rfl))
|((with_reducible apply ac.drawn);(case hm=>exact rfl))
|(with_reducible first|apply ac.skip|apply ac.ret|apply aH)
|((with_reducible apply ac.aY);(case hc=>exact rfl))
|((with_reducible apply aa.cj);(case hp=>exact ak))
|((with_reducible apply aa.iL);(case hp=>exact ak))
|(with_reducible apply aa.aB)
|((with_reducible apply aa.av);(case hW=>exact rfl);(case hx=>first
|(exact ai U)
|(exact ai I)
|(exact ai G)
|(exact ai Z)
|exact ae))
|((with_reducible apply aa.u0);(case hx=>first
|(exact ai V)
|(exact ai u)
|(exact di v)
|(exact di z)
|(exact ai ks)
|exact ae))
|fail)
     exact⟨.inr rfl,rfl⟩
    |false=>
     repeat'(first
|(with_reducible apply ac.seq)
|((with_reducible apply ac.text);(try case hm=>exact rfl))
|((with_reducible apply ac.drawn);(case hm=>exact rfl))
|(with_reducible first|apply ac.skip|apply ac.ret|apply aH)
|((with_reducible apply ac.aY);(case hc=>exact rfl))
|((with_reducible apply aa.cj);(case hp=>exact ak))
|((with_reducible apply aa.iL);(case hp=>exact ak))
|(with_reducible apply aa.aB)
|((with_reducible apply aa.av);(case hW=>exact rfl);(case hx=>first
|(exact ai U)
|(exact ai I)
|(exact ai G)
|(exact ai Z)
|exact ae))
|((with_reducible apply aa.u0);(case hx=>first
|(exact ai V)
|(exact ai u)
|(exact di v)
|(exact di z)
|(exact ai ks)
|exact ae))
|fail)
     exact⟨.inr rfl,rfl⟩
end Go.Proofs.YtcgdbhlnkificaaGreatDoor
