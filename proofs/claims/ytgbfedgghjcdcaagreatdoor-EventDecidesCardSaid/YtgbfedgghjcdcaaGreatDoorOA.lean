/- Law 32: the state of events,as the program finds it. No condition. -/
import Derived.Test.YtgbfedgghjcdcaaGreatDoorNJ
import Derived.Test.YtgbfedgghjcdcaaGreatDoorTS
set_option linter.all false
namespace Go.Proofs.YtgbfedgghjcdcaaGreatDoor
open Go.RowKit
set_option maxRecDepth 100000
set_option maxHeartbeats 32000000
section
variable {g:Cfg} {d:Option (List Nat)} {env:Env} {fr:Fr} {i:Nat}
end
def Di(t:Tb):Cl ap 75 [.t (.agg (i_ t))] [] (.t (.bool (bz t.kind))) []:=by
 obtain⟨nm,u,C,lo,y,v⟩:=t;have z:i_ ⟨nm,u,C,lo,y,v⟩=[.str nm,.int .i64 u,aF C,.int .i64 lo,.int .i64 y,.int .i64 v]:=rfl;rw[z];show Cl ap _ _ [] (.t (.bool (bz u))) []
 refine Cl.aE rfl Tryz.func75 rfl rfl rfl ?_
 repeat'(first
|(with_reducible apply aa.seq)
|((with_reducible apply aa.text);(try case hm=>exact rfl))
|(with_reducible apply aa.ret)
|((with_reducible apply ab.aU)<;>intro D)
|((with_reducible apply ab.a_)<;>intro D)
|(with_reducible apply ab.af)
|((with_reducible apply ab.gf);(case hW=>exact rfl))
|((with_reducible apply ab.au);(case hW=>exact rfl);(case hx=>exact ac))
|((with_reducible apply ab.u0);(case hx=>exact ac))
|fail)
 all_goals(refine aS (.inr rfl) rfl ?_;unfold bz;first|(simp_all;done)|(simp_all;omega))
def Dh{m:Md}{t:Tb}(hm:cW m)(hs:c6 m.aq=true)(ht:t.aB.all (c_ m.aq)=true)(hl:t.aB.length<=3):Cl ap 77 [.t (di m),.t (.agg (i_ t))] [] (.t (.int .i64 (bp m.aq t.aB))) []:=by
 rw[yN hs ht hl];have Q:=bC m.aq;have U:=hm.aq;obtain⟨nm,I,C,lo,G,D⟩:=t;have ht:C.all (c_ m.aq)=true:=ht;have hl:C.length<=3:=hl;have O:=bC C;have J:i_ ⟨nm,I,C,lo,G,D⟩=[.str nm,.int .i64 I,aF C,.int .i64 lo,.int .i64 G,.int .i64 D]:=rfl;rw[cO,J];show Cl ap _ _ [] (.t (.int .i64 (fG m.aq C))) []
 refine Cl.aE rfl Tryz.func77 rfl rfl rfl ?_
 repeat'(first
|(with_reducible first|apply aa.seq|apply aa.block)
|((with_reducible apply aa.text);(try case hm=>exact rfl))
|(with_reducible apply ab.af)
|((with_reducible apply ab.u0);(case hx=>exact ac))
|fail)
 apply aa.aM
 case ho=>exact rfl
 case hp=>exact rfl
 case hl=>exact rfl
 case hs=>exact slt
 refine aI.ind (fun q:Nat=>[(5,.t (.int .i64 (fG m.aq (C.take q)))),(11,.t (.int .i64 (q:Int)))]) (fun q=>q<=C.length) (fun q=>C.length - q) 0 rfl (by omega) (fun q hq=>?_);rcases Nat.lt_or_ge q C.length with h4|h4
 ·
  obtain⟨c,v⟩:=av h4;have hc:=bB v;have ho:=List.all_eq_true.1 ht c (List.mem_of_getElem? v);have z:=rE hs (C:=C.take (q+1)) (List.all_eq_true.2 fun x hx=>List.all_eq_true.1 ht x (List.mem_of_mem_take hx)) (by simp;omega);have u:=uY (S:=m.aq) v;rw[u]at z;simp only[c_,Bool.and_eq_true,decide_eq_true_eq]at ho;obtain⟨V,Z⟩:=ho;obtain⟨s,y⟩:=av (xs:=m.aq) (k:=c.toNat) (by omega);have hg:=bB y;rw[dt y]at z u;obtain⟨p,hp⟩:∃p,fG m.aq (C.take q)=p:=⟨_,rfl⟩;rw[hp]at z u⊢
  repeat'(first
|(with_reducible first|apply aa.seq|apply aa.block)
|((with_reducible apply aa.text);(try case hm=>exact rfl))
|(with_reducible first|apply aa.skip|apply ai)
|((with_reducible apply aa.am);(case hc=>exact rfl))
|((with_reducible apply ab.ao);(case hp=>exact ae))
|(with_reducible first|apply ab.af|apply ab.bM)
|((with_reducible apply ab.u0);(case hx=>first
|((with_reducible apply ah.mul);(case hx|hy=>exact rfl);(case h=>omega))
|exact ac))
|fail)
  refine⟨q+1,?_,rfl,by omega,by omega⟩;rw[u];rfl
 ·
  rw[List.take_of_length_le h4]
  repeat'(first
|(with_reducible apply aa.seq)
|((with_reducible apply aa.text);(try case hm=>exact rfl))
|(with_reducible first|apply aa.exit|apply aa.ret|apply ai|apply aA|apply az)
|((with_reducible apply aa.ak);(case hc=>exact rfl))
|((with_reducible apply ab.aw);(case hp=>exact ae))
|(with_reducible apply ab.af)
|((with_reducible apply ab.u0);(case hx=>exact ac))
|fail)
  exact⟨.inr rfl,rfl⟩
def Ed{l:List Ev}{p:Ev->Bool}{c:AV}(hl:l.length<=140737488351232)(hp:∀x∈l,Cl ap 116 [.t (dX x),.t c] [] (.t (.bool (p x))) []):Cl ap 81 [.t (.arr (br l)),.t (.fn (.func 116) 0 [c])] [] (.t (.int .i64 (cL p l 0))) []:=by
 have z:=lW l;refine Cl.aE rfl Tryz.func81 rfl rfl rfl ?_
 repeat'(first
|(with_reducible first|apply aa.seq|apply aa.block)
|((with_reducible apply aa.text);(try case hm=>exact rfl))
|(with_reducible apply ab.af)
|((with_reducible apply ab.u0);(case hx=>exact ac))
|fail)
 apply aa.aM
 case ho=>exact rfl
 case hp=>exact rfl
 case hl=>exact rfl
 case hs=>exact slt
 refine aI.ind (fun q:Nat=>[(8,.t (.int .i64 (q:Int)))]) (fun q=>q<=l.length/\cL p l 0=cL p (l.drop q) q) (fun q=>l.length - q) 0 rfl (by simp) (fun q D=>?_);obtain⟨h1,h2⟩:=D;rw[h2];rcases Nat.lt_or_ge q l.length with h3|h3
 ·
  obtain⟨e,v⟩:=av h3;have hc:=iP v;have u:=hp e (List.mem_of_getElem? v);rw[drop_at v,np];obtain⟨b,y⟩:∃b,p e=b:=⟨_,rfl⟩;rw[y]at u⊢
  cases b with
  |true=>
   repeat'(first
|(with_reducible first|apply aa.seq|apply aa.block)
|((with_reducible apply aa.text);(try case hm=>exact rfl))
|(with_reducible first|apply aa.skip|apply aa.ret|apply ai|apply ay|apply aO)
|((with_reducible apply aa.am);(case hc=>exact rfl))
|((with_reducible apply ab.ao);(case hp=>exact ae))
|(with_reducible apply ab.af)
|((with_reducible apply ab.u0);(case hx=>first
|(exact aj u)
|exact ac))
|fail)
   exact⟨.inr rfl,rfl⟩
  |false=>
   repeat'(first
|(with_reducible first|apply aa.seq|apply aa.block)
|((with_reducible apply aa.text);(try case hm=>exact rfl))
|(with_reducible first|apply aa.skip|apply ai|apply aG)
|((with_reducible apply aa.am);(case hc=>exact rfl))
|((with_reducible apply aa.ak);(case hc=>exact rfl))
|((with_reducible apply ab.ao);(case hp=>exact ae))
|(with_reducible apply ab.af)
|((with_reducible apply ab.u0);(case hx=>first
|(exact aj u)
|exact ac))
|fail)
   exact⟨q+1,rfl,rfl,⟨by omega,rfl⟩,by omega⟩
 ·
  rw[List.drop_of_length_le h3]
  repeat'(first
|(with_reducible apply aa.seq)
|((with_reducible apply aa.text);(try case hm=>exact rfl))
|(with_reducible first|apply aa.exit|apply aa.ret|apply ai|apply aA|apply az)
|((with_reducible apply aa.ak);(case hc=>exact rfl))
|((with_reducible apply ab.aw);(case hp=>exact ae))
|(with_reducible apply ab.af)
|((with_reducible apply ab.u0);(case hx=>exact ac))
|fail)
  exact⟨.inr rfl,rfl⟩
def CQ{l:List Ev}{p:Ev->Bool}{c:AV}(hl:l.length<=140737488351232)(hp:∀x∈l,Cl ap 116 [.t (dX x),.t c] [] (.t (.bool (p x))) []):Cl ap 32 [.t (.arr (br l)),.t (.fn (.func 116) 0 [c])] [] (.t (.bool (l.any p))) []:=by
 have u:=Ed hl hp;rw[<- pc p l 0 (by omega)];refine Cl.aE rfl Tryz.func32 rfl rfl rfl ?_;obtain⟨n,v⟩:∃n,cL p l 0=n:=⟨_,rfl⟩;rw[v]at u⊢
 repeat'(first
|(with_reducible apply aa.seq)
|((with_reducible apply aa.text);(try case hm=>exact rfl))
|(with_reducible apply aa.ret)
|((with_reducible apply ab.aU)<;>intro y)
|(with_reducible apply ab.af)
|((with_reducible apply ab.u0);(case hx=>first
|(exact aj u)
|exact ac))
|fail)
 all_goals(refine aS (.inr rfl) rfl ?_;simp;try omega)
def lJ(m:Md)(l:List Ev):Bool:=l.all fun e=>eP m e.past.length e
def Dt{m:Md}(hm:cW m)(e:Ev)(he:e.past.length<=140737488351232):Cl ap 116 [.t (dX e),.t (.tp (cg m))] [] (.t (.bool (!eP m e.past.length e))) []:=by
 have u:=xe hm (e.past.length:Int) e he;have z:=bC e.past;rw[cO]at u;have v:cg m=[aF m.aq,.arr (cR m.tables),.arr (d_ m.dq),.arr (jp m.cons),.arr (jJ m.ops),.arr (iL m.aJ),.arr (jz m.bq)]:=rfl;rw[v];obtain⟨b,y⟩:∃b,eP m e.past.length e=b:=⟨_,rfl⟩;rw[y]at u⊢;refine Cl.aE rfl Tryz.func116 rfl rfl rfl ?_
 repeat'(first
|(with_reducible apply aa.seq)
|((with_reducible apply aa.text);(try case hm=>exact rfl))
|(with_reducible first|apply aa.ret|apply ab.af)
|((with_reducible apply ab.u0);(case hx=>first
|(exact aj u)
|exact ac))
|fail)
 exact⟨.inr rfl,rfl⟩
theorem yL(p:Ev->Bool):∀l:List Ev,(!l.any fun e=>!p e)=l.all p
 |[]=>rfl
 |x::l=>by
  rw[List.any_cons,List.all_cons,<- yL p l];cases p x <;>simp
def C7{m:Md}{l:List Ev}(hm:cW m)(hl:l.length<=140737488351232)(hp:∀e∈l,e.past.length<=140737488351232):Cl ap 74 [.t (di m),.t (.arr (br l))] [] (.t (.bool (lJ m l))) []:=by
 have u:=CQ (l:=l) (p:=fun e=>!eP m e.past.length e) (c:=.tp (cg m)) hl fun x hx=>Dt hm x (hp x hx);have v:lJ m l=!l.any fun e=>!eP m e.past.length e:=(yL _ l).symm;have y:cg m=[aF m.aq,.arr (cR m.tables),.arr (d_ m.dq),.arr (jp m.cons),.arr (jJ m.ops),.arr (iL m.aJ),.arr (jz m.bq)]:=rfl;rw[y]at u;rw[v,cO];obtain⟨b,z⟩:∃b,(l.any fun e=>!eP m e.past.length e)=b:=⟨_,rfl⟩;rw[z]at u⊢;refine Cl.aE rfl Tryz.func74 rfl rfl rfl ?_
 repeat'(first
|(with_reducible apply aa.seq)
|((with_reducible apply aa.text);(try case hm=>exact rfl))
|(with_reducible first|apply aa.ret|apply ab.af)
|((with_reducible apply ab.u0);(case hx=>first
|(exact aj u)
|exact ac))
|fail)
 exact⟨.inr rfl,rfl⟩
end Go.Proofs.YtgbfedgghjcdcaaGreatDoor
