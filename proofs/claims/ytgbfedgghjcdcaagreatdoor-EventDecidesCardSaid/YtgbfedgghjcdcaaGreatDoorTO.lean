/- Law 32: updates of a cell: of a kind,seen by others. No condition. -/
import Derived.Test.YtgbfedgghjcdcaaGreatDoorOC
import Derived.Test.YtgbfedgghjcdcaaGreatDoorTK
set_option linter.all false
namespace Go.Proofs.YtgbfedgghjcdcaaGreatDoor
open Go.RowKit
set_option maxRecDepth 100000
set_option maxHeartbeats 32000000
def ee(w:Wr):cb w=[.int .i64 w.e.r,.int .i64 w.e.n,.int .i64 w.e.t,aF w.e.past,.int .i64 w.e.k,.int .i64 w.e.a,.int .i64 w.e.gk,.int .i64 w.e.gi,.int .i64 w.e.ge,.int .i64 w.e.ga,.int .i64 w.e.to,.int .i64 w.e.pl,.int .i64 w.e.se,.int .i64 w.u.kind,.int .i64 w.u.cell,.int .i64 w.u.value]:=rfl
def ah.ES{g:Cfg}{d:Option (List Nat)}{i:Nat}{env:Env}{fr:Fr}{t n r j T:Nat}{y:Operand}{ro:Bool}{cs vs:List SV}{xs:List AV}(ht:bm g.P t=some (true,n))(hy:rd env y=.lp r j)(hb:fr[r]?=some (.box ro T cs))(hlt:Nat.blt (j+n) cs.length=true)(hv:(cs.drop j).take n=vs)(hx:gp vs xs):ah g d i env fr (.load t y) (.t (.agg xs)) fr []:=
 .uG ht hy hb (by rw[Nat.blt_eq]at hlt;rw[Nat.ble_eq];omega) hv hx
def v7(w:Wr)(k:Int):Cl ap 120 [.t (.agg (cb w)),.t (.tp [.int .i64 k])] [] (.t (.bool (!decide (w.u.kind=k)))) []:=by
 rw[ee];refine Cl.aE rfl Tryz.func120 rfl rfl rfl ?_
 repeat'(first
|(with_reducible apply aa.seq)
|((with_reducible apply aa.text);(try case hm=>exact rfl))
|(with_reducible apply aa.ret)
|((with_reducible apply ab.fV)<;>intro v)
|(with_reducible apply ab.af)
|((with_reducible apply ab.u0);(case hx=>exact ac))
|fail)
 all_goals(refine aS (.inr rfl) rfl ?_;simp_all)
def HW(w x:Wr)(k:Int)(hx:x.e.past.length<=140737488351232):Cl ap 164 [.t (.agg (cb x)),.t (.tp [.int .i64 k]),.t (.tp (cb w))] [] (.t (.bool (decide (x.u.kind=k)&&hasS x.e.past w.e.r w.e.n))) []:=by
 have v:=C8 w.e x.e hx;rw[qz,qz]at v;rw[ee,ee];obtain⟨b,hb⟩:∃b,hasS x.e.past w.e.r w.e.n=b:=⟨_,rfl⟩;rw[hb]at v⊢;refine Cl.aE rfl Tryz.func164 rfl rfl rfl ?_
 repeat'(first
|(with_reducible apply aa.seq)
|((with_reducible apply aa.text);(try case hm=>exact rfl))
|(with_reducible apply aa.ret)
|((with_reducible apply ab.aU)<;>intro y)
|(with_reducible apply ab.af)
|((with_reducible apply ab.gf);(case hW=>exact rfl))
|((with_reducible apply ab.au);(case hW=>exact rfl);(case hx=>first
|((with_reducible apply ah.ES);(case hy=>exact rfl);(case ht=>exact dG);(case hb|hlt|hv=>exact rfl);(case hx=>(repeat'(first|exact gp.nil|(apply gp.cons)))))
|(exact aj v)
|exact ac))
|((with_reducible apply ab.u0);(case hx=>exact ac))
|fail)
 all_goals(refine aS (.inr rfl) rfl ?_;simp_all)
def xC{l:List Wr}{p:Wr->Bool}{c:AV}(hl:l.length<=140737488351232)(hp:∀x∈l,Cl ap 120 [.t (.agg (cb x)),.t c] [] (.t (.bool (p x))) []):Cl ap 163 [.t (.arr (aR l)),.t (.fn (.func 120) 0 [c])] [] (.t (.int .i64 (cL p l 0))) []:=by
 have z:=iI l;refine Cl.aE rfl Tryz.func163 rfl rfl rfl ?_
 repeat'(first
|(with_reducible first|apply aa.seq|apply aa.block)
|((with_reducible apply aa.text);(try case hm=>exact rfl))
|(with_reducible apply ab.af)
|((with_reducible apply ab.u0);(case hx=>exact ac))
|fail)
 apply aa.aM
 case ho=>exact rfl
 case hp=>exact rfl
 case hl=>exact rfl
 case hs=>exact slt
 refine aI.ind (fun q:Nat=>[(8,.t (.int .i64 (q:Int)))]) (fun q=>q<=l.length/\cL p l 0=cL p (l.drop q) q) (fun q=>l.length - q) 0 rfl (by simp) (fun q D=>?_);obtain⟨h1,h2⟩:=D;rw[h2];rcases Nat.lt_or_ge q l.length with h3|h3
 ·
  obtain⟨e,v⟩:=av h3;have hc:=pX v;have u:=hp e (List.mem_of_getElem? v);rw[ee]at u;rw[drop_at v,np];obtain⟨b,y⟩:∃b,p e=b:=⟨_,rfl⟩;rw[y]at u⊢
  cases b with
  |true=>
   repeat'(first
|(with_reducible first|apply aa.seq|apply aa.block)
|((with_reducible apply aa.text);(try case hm=>exact rfl))
|(with_reducible first|apply aa.skip|apply aa.ret|apply ai|apply ay|apply aO)
|((with_reducible apply aa.am);(case hc=>exact rfl))
|((with_reducible apply ab.ao);(case hp=>exact ae))
|(with_reducible apply ab.af)
|((with_reducible apply ab.u0);(case hx=>first
|(exact aj u)
|exact ac))
|fail)
   exact⟨.inr rfl,rfl⟩
  |false=>
   repeat'(first
|(with_reducible first|apply aa.seq|apply aa.block)
|((with_reducible apply aa.text);(try case hm=>exact rfl))
|(with_reducible first|apply aa.skip|apply ai|apply aG)
|((with_reducible apply aa.am);(case hc=>exact rfl))
|((with_reducible apply aa.ak);(case hc=>exact rfl))
|((with_reducible apply ab.ao);(case hp=>exact ae))
|(with_reducible apply ab.af)
|((with_reducible apply ab.u0);(case hx=>first
|(exact aj u)
|exact ac))
|fail)
   exact⟨q+1,rfl,rfl,⟨by omega,rfl⟩,by omega⟩
 ·
  rw[List.drop_of_length_le h3]
  repeat'(first
|(with_reducible apply aa.seq)
|((with_reducible apply aa.text);(try case hm=>exact rfl))
|(with_reducible first|apply aa.exit|apply aa.ret|apply ai|apply aA|apply az)
|((with_reducible apply aa.ak);(case hc=>exact rfl))
|((with_reducible apply ab.aw);(case hp=>exact ae))
|(with_reducible apply ab.af)
|((with_reducible apply ab.u0);(case hx=>exact ac))
|fail)
  exact⟨.inr rfl,rfl⟩
def Ec{l:List Wr}{p:Wr->Bool}{c d:AV}(hl:l.length<=140737488351232)(hp:∀x∈l,Cl ap 164 [.t (.agg (cb x)),.t c,.t d] [] (.t (.bool (p x))) []):Cl ap 163 [.t (.arr (aR l)),.t (.fn (.func 164) 0 [c,d])] [] (.t (.int .i64 (cL p l 0))) []:=by
 have z:=iI l;refine Cl.aE rfl Tryz.func163 rfl rfl rfl ?_
 repeat'(first
|(with_reducible first|apply aa.seq|apply aa.block)
|((with_reducible apply aa.text);(try case hm=>exact rfl))
|(with_reducible apply ab.af)
|((with_reducible apply ab.u0);(case hx=>exact ac))
|fail)
 apply aa.aM
 case ho=>exact rfl
 case hp=>exact rfl
 case hl=>exact rfl
 case hs=>exact slt
 refine aI.ind (fun q:Nat=>[(8,.t (.int .i64 (q:Int)))]) (fun q=>q<=l.length/\cL p l 0=cL p (l.drop q) q) (fun q=>l.length - q) 0 rfl (by simp) (fun q D=>?_);obtain⟨h1,h2⟩:=D;rw[h2];rcases Nat.lt_or_ge q l.length with h3|h3
 ·
  obtain⟨e,v⟩:=av h3;have hc:=pX v;have u:=hp e (List.mem_of_getElem? v);rw[ee]at u;rw[drop_at v,np];obtain⟨b,y⟩:∃b,p e=b:=⟨_,rfl⟩;rw[y]at u⊢
  cases b with
  |true=>
   repeat'(first
|(with_reducible first|apply aa.seq|apply aa.block)
|((with_reducible apply aa.text);(try case hm=>exact rfl))
|(with_reducible first|apply aa.skip|apply aa.ret|apply ai|apply ay|apply aO)
|((with_reducible apply aa.am);(case hc=>exact rfl))
|((with_reducible apply ab.ao);(case hp=>exact ae))
|(with_reducible apply ab.af)
|((with_reducible apply ab.u0);(case hx=>first
|(exact aj u)
|exact ac))
|fail)
   exact⟨.inr rfl,rfl⟩
  |false=>
   repeat'(first
|(with_reducible first|apply aa.seq|apply aa.block)
|((with_reducible apply aa.text);(try case hm=>exact rfl))
|(with_reducible first|apply aa.skip|apply ai|apply aG)
|((with_reducible apply aa.am);(case hc=>exact rfl))
|((with_reducible apply aa.ak);(case hc=>exact rfl))
|((with_reducible apply ab.ao);(case hp=>exact ae))
|(with_reducible apply ab.af)
|((with_reducible apply ab.u0);(case hx=>first
|(exact aj u)
|exact ac))
|fail)
   exact⟨q+1,rfl,rfl,⟨by omega,rfl⟩,by omega⟩
 ·
  rw[List.drop_of_length_le h3]
  repeat'(first
|(with_reducible apply aa.seq)
|((with_reducible apply aa.text);(try case hm=>exact rfl))
|(with_reducible first|apply aa.exit|apply aa.ret|apply ai|apply aA|apply az)
|((with_reducible apply aa.ak);(case hc=>exact rfl))
|((with_reducible apply ab.aw);(case hp=>exact ae))
|(with_reducible apply ab.af)
|((with_reducible apply ab.u0);(case hx=>exact ac))
|fail)
  exact⟨.inr rfl,rfl⟩
def CP{l:List Wr}{p:Wr->Bool}{c d:AV}(hl:l.length<=140737488351232)(hp:∀x∈l,Cl ap 164 [.t (.agg (cb x)),.t c,.t d] [] (.t (.bool (p x))) []):Cl ap 123 [.t (.arr (aR l)),.t (.fn (.func 164) 0 [c,d])] [] (.t (.bool (l.any p))) []:=by
 have u:=Ec hl hp;rw[<- pc p l 0 (by omega)];refine Cl.aE rfl Tryz.func123 rfl rfl rfl ?_;obtain⟨n,v⟩:∃n,cL p l 0=n:=⟨_,rfl⟩;rw[v]at u⊢
 repeat'(first
|(with_reducible apply aa.seq)
|((with_reducible apply aa.text);(try case hm=>exact rfl))
|(with_reducible apply aa.ret)
|((with_reducible apply ab.aU)<;>intro y)
|(with_reducible apply ab.af)
|((with_reducible apply ab.u0);(case hx=>first
|(exact aj u)
|exact ac))
|fail)
 all_goals(refine aS (.inr rfl) rfl ?_;simp;try omega)
def Ea{l:List Wr}{p:Wr->Bool}{c:AV}(hl:l.length<=140737488351232)(hp:∀x∈l,Cl ap 124 [.t (.agg (cb x)),.t c] [] (.t (.bool (p x))) []):Cl ap 163 [.t (.arr (aR l)),.t (.fn (.func 124) 0 [c])] [] (.t (.int .i64 (cL p l 0))) []:=by
 have z:=iI l;refine Cl.aE rfl Tryz.func163 rfl rfl rfl ?_
 repeat'(first
|(with_reducible first|apply aa.seq|apply aa.block)
|((with_reducible apply aa.text);(try case hm=>exact rfl))
|(with_reducible apply ab.af)
|((with_reducible apply ab.u0);(case hx=>exact ac))
|fail)
 apply aa.aM
 case ho=>exact rfl
 case hp=>exact rfl
 case hl=>exact rfl
 case hs=>exact slt
 refine aI.ind (fun q:Nat=>[(8,.t (.int .i64 (q:Int)))]) (fun q=>q<=l.length/\cL p l 0=cL p (l.drop q) q) (fun q=>l.length - q) 0 rfl (by simp) (fun q D=>?_);obtain⟨h1,h2⟩:=D;rw[h2];rcases Nat.lt_or_ge q l.length with h3|h3
 ·
  obtain⟨e,v⟩:=av h3;have hc:=pX v;have u:=hp e (List.mem_of_getElem? v);rw[ee]at u;rw[drop_at v,np];obtain⟨b,y⟩:∃b,p e=b:=⟨_,rfl⟩;rw[y]at u⊢
  cases b with
  |true=>
   repeat'(first
|(with_reducible first|apply aa.seq|apply aa.block)
|((with_reducible apply aa.text);(try case hm=>exact rfl))
|(with_reducible first|apply aa.skip|apply aa.ret|apply ai|apply ay|apply aO)
|((with_reducible apply aa.am);(case hc=>exact rfl))
|((with_reducible apply ab.ao);(case hp=>exact ae))
|(with_reducible apply ab.af)
|((with_reducible apply ab.u0);(case hx=>first
|(exact aj u)
|exact ac))
|fail)
   exact⟨.inr rfl,rfl⟩
  |false=>
   repeat'(first
|(with_reducible first|apply aa.seq|apply aa.block)
|((with_reducible apply aa.text);(try case hm=>exact rfl))
|(with_reducible first|apply aa.skip|apply ai|apply aG)
|((with_reducible apply aa.am);(case hc=>exact rfl))
|((with_reducible apply aa.ak);(case hc=>exact rfl))
|((with_reducible apply ab.ao);(case hp=>exact ae))
|(with_reducible apply ab.af)
|((with_reducible apply ab.u0);(case hx=>first
|(exact aj u)
|exact ac))
|fail)
   exact⟨q+1,rfl,rfl,⟨by omega,rfl⟩,by omega⟩
 ·
  rw[List.drop_of_length_le h3]
  repeat'(first
|(with_reducible apply aa.seq)
|((with_reducible apply aa.text);(try case hm=>exact rfl))
|(with_reducible first|apply aa.exit|apply aa.ret|apply ai|apply aA|apply az)
|((with_reducible apply aa.ak);(case hc=>exact rfl))
|((with_reducible apply ab.aw);(case hp=>exact ae))
|(with_reducible apply ab.af)
|((with_reducible apply ab.u0);(case hx=>exact ac))
|fail)
  exact⟨.inr rfl,rfl⟩
def CM{l:List Wr}{p:Wr->Bool}{c:AV}(hl:l.length<=140737488351232)(hp:∀x∈l,Cl ap 124 [.t (.agg (cb x)),.t c] [] (.t (.bool (p x))) []):Cl ap 123 [.t (.arr (aR l)),.t (.fn (.func 124) 0 [c])] [] (.t (.bool (l.any p))) []:=by
 have u:=Ea hl hp;rw[<- pc p l 0 (by omega)];refine Cl.aE rfl Tryz.func123 rfl rfl rfl ?_;obtain⟨n,v⟩:∃n,cL p l 0=n:=⟨_,rfl⟩;rw[v]at u⊢
 repeat'(first
|(with_reducible apply aa.seq)
|((with_reducible apply aa.text);(try case hm=>exact rfl))
|(with_reducible apply aa.ret)
|((with_reducible apply ab.aU)<;>intro y)
|(with_reducible apply ab.af)
|((with_reducible apply ab.u0);(case hx=>first
|(exact aj u)
|exact ac))
|fail)
 all_goals(refine aS (.inr rfl) rfl ?_;simp;try omega)
def Eb{l:List Wr}{p:Wr->Bool}{c:AV}(hl:l.length<=140737488351232)(hp:∀x∈l,Cl ap 127 [.t (.agg (cb x)),.t c] [] (.t (.bool (p x))) []):Cl ap 163 [.t (.arr (aR l)),.t (.fn (.func 127) 0 [c])] [] (.t (.int .i64 (cL p l 0))) []:=by
 have z:=iI l;refine Cl.aE rfl Tryz.func163 rfl rfl rfl ?_
 repeat'(first
|(with_reducible first|apply aa.seq|apply aa.block)
|((with_reducible apply aa.text);(try case hm=>exact rfl))
|(with_reducible apply ab.af)
|((with_reducible apply ab.u0);(case hx=>exact ac))
|fail)
 apply aa.aM
 case ho=>exact rfl
 case hp=>exact rfl
 case hl=>exact rfl
 case hs=>exact slt
 refine aI.ind (fun q:Nat=>[(8,.t (.int .i64 (q:Int)))]) (fun q=>q<=l.length/\cL p l 0=cL p (l.drop q) q) (fun q=>l.length - q) 0 rfl (by simp) (fun q D=>?_);obtain⟨h1,h2⟩:=D;rw[h2];rcases Nat.lt_or_ge q l.length with h3|h3
 ·
  obtain⟨e,v⟩:=av h3;have hc:=pX v;have u:=hp e (List.mem_of_getElem? v);rw[ee]at u;rw[drop_at v,np];obtain⟨b,y⟩:∃b,p e=b:=⟨_,rfl⟩;rw[y]at u⊢
  cases b with
  |true=>
   repeat'(first
|(with_reducible first|apply aa.seq|apply aa.block)
|((with_reducible apply aa.text);(try case hm=>exact rfl))
|(with_reducible first|apply aa.skip|apply aa.ret|apply ai|apply ay|apply aO)
|((with_reducible apply aa.am);(case hc=>exact rfl))
|((with_reducible apply ab.ao);(case hp=>exact ae))
|(with_reducible apply ab.af)
|((with_reducible apply ab.u0);(case hx=>first
|(exact aj u)
|exact ac))
|fail)
   exact⟨.inr rfl,rfl⟩
  |false=>
   repeat'(first
|(with_reducible first|apply aa.seq|apply aa.block)
|((with_reducible apply aa.text);(try case hm=>exact rfl))
|(with_reducible first|apply aa.skip|apply ai|apply aG)
|((with_reducible apply aa.am);(case hc=>exact rfl))
|((with_reducible apply aa.ak);(case hc=>exact rfl))
|((with_reducible apply ab.ao);(case hp=>exact ae))
|(with_reducible apply ab.af)
|((with_reducible apply ab.u0);(case hx=>first
|(exact aj u)
|exact ac))
|fail)
   exact⟨q+1,rfl,rfl,⟨by omega,rfl⟩,by omega⟩
 ·
  rw[List.drop_of_length_le h3]
  repeat'(first
|(with_reducible apply aa.seq)
|((with_reducible apply aa.text);(try case hm=>exact rfl))
|(with_reducible first|apply aa.exit|apply aa.ret|apply ai|apply aA|apply az)
|((with_reducible apply aa.ak);(case hc=>exact rfl))
|((with_reducible apply ab.aw);(case hp=>exact ae))
|(with_reducible apply ab.af)
|((with_reducible apply ab.u0);(case hx=>exact ac))
|fail)
  exact⟨.inr rfl,rfl⟩
def CN{l:List Wr}{p:Wr->Bool}{c:AV}(hl:l.length<=140737488351232)(hp:∀x∈l,Cl ap 127 [.t (.agg (cb x)),.t c] [] (.t (.bool (p x))) []):Cl ap 123 [.t (.arr (aR l)),.t (.fn (.func 127) 0 [c])] [] (.t (.bool (l.any p))) []:=by
 have u:=Eb hl hp;rw[<- pc p l 0 (by omega)];refine Cl.aE rfl Tryz.func123 rfl rfl rfl ?_;obtain⟨n,v⟩:∃n,cL p l 0=n:=⟨_,rfl⟩;rw[v]at u⊢
 repeat'(first
|(with_reducible apply aa.seq)
|((with_reducible apply aa.text);(try case hm=>exact rfl))
|(with_reducible apply aa.ret)
|((with_reducible apply ab.aU)<;>intro y)
|(with_reducible apply ab.af)
|((with_reducible apply ab.u0);(case hx=>first
|(exact aj u)
|exact ac))
|fail)
 all_goals(refine aS (.inr rfl) rfl ?_;simp;try omega)
def vA{w:Wr}{l:List Wr}{k:Int}(hl:l.length<=140737488351232)(hp:∀x∈l,x.e.past.length<=140737488351232):Cl ap 125 [.t (.agg (cb w)),.t (.arr (aR l)),.t (.int .i64 k)] [] (.t (.bool (bO w l k))) []:=by
 have v:=CP (l:=l) (p:=fun x=>decide (x.u.kind=k)&&hasS x.e.past w.e.r w.e.n) (c:=.tp [.int .i64 k]) (d:=.tp (cb w)) hl fun x hx=>HW w x k (hp x hx);have y:bO w l k=l.any fun x=>decide (x.u.kind=k)&&hasS x.e.past w.e.r w.e.n:=rfl;rw[y];rw[ee]at v⊢;obtain⟨b,z⟩:∃b,(l.any fun x=>decide (x.u.kind=k)&&hasS x.e.past w.e.r w.e.n)=b:=⟨_,rfl⟩;rw[z]at v⊢;refine Cl.aE rfl Tryz.func125 rfl rfl rfl ?_
 repeat'(first
|(with_reducible apply aa.seq)
|((with_reducible apply aa.text);(try case hm=>exact rfl))
|(with_reducible first|apply aa.ret|apply ab.af)
|((with_reducible apply ab.u0);(case hx=>first
|(exact aj v)
|exact ac))
|fail)
 exact⟨.inr rfl,rfl⟩
def IA{w:Wr}{l:List Wr}(hl:l.length<=140737488351232)(hp:∀x∈l,x.e.past.length<=140737488351232):Cl ap 124 [.t (.agg (cb w)),.t (.tp [.arr (aR l)])] [] (.t (.bool (!bO w l 1))) []:=by
 have ks:=vA (w:=w) (k:=1) hl hp;rw[ee]at ks⊢;obtain⟨b,u⟩:∃b,bO w l 1=b:=⟨_,rfl⟩;rw[u]at ks⊢;refine Cl.aE rfl Tryz.func124 rfl rfl rfl ?_
 repeat'(first
|(with_reducible apply aa.seq)
|((with_reducible apply aa.text);(try case hm=>exact rfl))
|(with_reducible first|apply aa.ret|apply ab.af)
|((with_reducible apply ab.u0);(case hx=>first
|(exact aj ks)
|exact ac))
|fail)
 exact⟨.inr rfl,rfl⟩
def IB{w:Wr}{l:List Wr}(hl:l.length<=140737488351232)(hp:∀x∈l,x.e.past.length<=140737488351232):Cl ap 127 [.t (.agg (cb w)),.t (.tp [.arr (aR l)])] [] (.t (.bool (!bO w l 0))) []:=by
 have ks:=vA (w:=w) (k:=0) hl hp;rw[ee]at ks⊢;obtain⟨b,u⟩:∃b,bO w l 0=b:=⟨_,rfl⟩;rw[u]at ks⊢;refine Cl.aE rfl Tryz.func127 rfl rfl rfl ?_
 repeat'(first
|(with_reducible apply aa.seq)
|((with_reducible apply aa.text);(try case hm=>exact rfl))
|(with_reducible first|apply aa.ret|apply ab.af)
|((with_reducible apply ab.u0);(case hx=>first
|(exact aj ks)
|exact ac))
|fail)
 exact⟨.inr rfl,rfl⟩
theorem xE{α:Type}(p:α->Bool):∀(l:List α) (i:Int),(cL p l i= -1/\∀x∈l,p x=false)\/∃(q:Nat) (x:α),cL p l i=i+q/\l[q]?=some x/\p x=true/\∀y∈l.take q,p y=false
 |[],i=>.inl ⟨rfl,by simp⟩
 |x::l,i=>by
  rw[np]
  cases v:p x with
  |true=>exact .inr ⟨0,x,by simp,rfl,v,by simp⟩
  |false=>
   rcases xE p l (i+1)with⟨h1,h2⟩|⟨q,y,h1,h2,h3,h4⟩
   ·refine .inl ⟨by simpa using h1,fun z u=>?_⟩;rcases List.mem_cons.1 u with rfl|u
    ·exact v
    ·exact h2 z u
   ·refine .inr ⟨q+1,y,by simp[h1];omega,h2,h3,fun z u=>?_⟩;rw[List.take_succ_cons]at u;rcases List.mem_cons.1 u with rfl|u
    ·exact v
    ·exact h4 z u
def yO{l:List Wr}{k:Int}(h:∀x∈l,(!decide (x.u.kind=k))=false):aX l k=l:=by
 unfold aX;rw[List.filter_eq_self];intro x v;simpa using h x v
def rz{l:List Wr}{k:Int}{q:Nat}{w:Wr}(h:l[q]?=some w):aX (l.take (q+1)) k=aX (l.take q) k++if w.u.kind=k then[w]else[]:=by
 rw[List.take_add_one,h];unfold aX;rw[Option.toList,List.filter_append];by_cases v:w.u.kind=k <;>simp[v]
def ew(W:List Wr)(k:Int)(q:Nat):List (List AV):=aR (aX (W.take q) k++W.drop (aX (W.take q) k).length)
def cw(W:List Wr)(k:Int)(q:Nat):Nat:=(aX (W.take q) k).length
def oR(W:List Wr)(k:Int)(q:Nat):cw W k q<=q:=by
 unfold cw aX;exact Nat.le_trans (List.length_filter_le _ _) (by simp;omega)
def zC{W:List Wr}{k:Int}{q:Nat}(h:q<=W.length):(ew W k q).length=W.length:=by
 have:=oR W k q;unfold cw at this;unfold ew;rw[iI,List.length_append,List.length_drop];omega
def GU{W:List Wr}{k:Int}{q:Nat}{w:Wr}(h:W[q]?=some w):(ew W k q)[q]?=some (cb w):=by
 have:=oR W k q;unfold cw at this;refine fR (f:=cb) ?_;rw[List.getElem?_append_right (by omega),List.getElem?_drop,<- h];congr 1;omega
def GW{W:List Wr}{k:Int}{q:Nat}{w:Wr}(h:W[q]?=some w)(hk:w.u.kind=k):(ew W k q).set (cw W k q) (cb w)=ew W k (q+1):=by
 have v:=oR W k q;have z:=aC h;unfold cw at v⊢;unfold ew;rw[rz h,if_pos hk];unfold aR;rw[<- List.map_set];congr 1;rw[List.set_append_right _ _ (Nat.le_refl _),Nat.sub_self,List.length_append,List.length_singleton,List.append_assoc];congr 1;obtain⟨y,D⟩:=av (xs:=W) (k:=(aX (W.take q) k).length) (by omega);rw[drop_at D];rfl
def CJ{W:List Wr}{k:Int}{q:Nat}{w:Wr}(h:W[q]?=some w)(hk:w.u.kind=k):cw W k (q+1)=cw W k q+1:=by
 unfold cw;rw[rz h,if_pos hk,List.length_append,List.length_singleton]
def GV{W:List Wr}{k:Int}{q:Nat}{w:Wr}(h:W[q]?=some w)(hk:w.u.kind≠k):ew W k (q+1)=ew W k q/\cw W k (q+1)=cw W k q:=by
 unfold ew cw;rw[rz h,if_neg hk,List.append_nil];exact⟨rfl,rfl⟩
def GX{W:List Wr}{k:Int}{q:Nat}{w:Wr}(h:W[q]?=some w)(hk:(!decide (w.u.kind=k))=true)(hp:∀y∈W.take q,(!decide (y.u.kind=k))=false):ew W k (q+1)=aR W/\cw W k (q+1)=q:=by
 have D:=aC h;have hk:w.u.kind≠k:=by simpa using hk
 have v:=yO hp;have z:(W.take q).length=q:=by simp;omega
 unfold ew cw;rw[rz h,if_neg hk,List.append_nil,v,z,List.take_append_drop];exact⟨rfl,rfl⟩
def eW:da ap.P 120=some (155,16):=by kernel_rfl
section
variable {g:Cfg} {d:Option (List Nat)} {i:Nat} {env:Env} {fr:Fr}
def ah.tu{y:Operand}{tys:Array TypeId}{args:Array Operand}{t:Nat}{s x:SV}{fr1 fr':Fr}(hs:∀C:CallF,step g C d i env fr (.call ⟨.builtin .clear,args,tys⟩)=bu g C (cX d i) env fr (.call ⟨.builtin .clear,args,tys⟩))(ha:args.toList=[y])(ht:tys.toList=[t])(hy:rd env y=s)(hm:lM g.P fr t s=some (x,fr1,[]))(hf:aH fr1 fr'):ah g d i env fr (.call ⟨.builtin .clear,args,tys⟩) x fr' []:=.r fun C=>by
 obtain rfl:=hf.eq;subst hy;rw[hs];unfold bu;simp only[ha,ht,hm]
def ah.uC{t e sz r a n:Nat}{x y:Operand}{k:IntKind}{q:Nat}{ro tch:Bool}{es:List (List AV)}(he:da g.P t=some (e,sz))(hx:rd env x=.lv r sz a n)(hi:rd env y=.t (.int k (q:Int)))(hb:fr[r]?=some (.row ro tch sz es))(hn:a+n<=es.length)(hq:q <n):
  ah g d i env fr (.indexAddr t x y) (.le r sz (a+q) 0) fr []:=.p rfl rfl (by
 have h1:gJ (q:Int) n=true:=by
  unfold gJ;rw[Int.toNat_natCast,Bool.and_eq_true,Nat.blt_eq];exact⟨decide_eq_true (by omega),hq⟩
 have h2:Nat.beq sz sz=true:=by simp
 have h3:eZ fr r sz a n=some ((es.drop a).take n):=by
  unfold eZ;rw[hb];have h4:Nat.ble (a+n) es.length=true:=by rw[Nat.ble_eq];exact hn
  simp[h4]
 unfold bt gK;simp only[he,hx,hi,h1,h2,h3,Bool.and_self,Int.toNat_natCast])
end
def mA:List AV:=[.int .i64 0,.int .i64 0,.int .i64 0,.arr [],.int .i64 0,.int .i64 0,.int .i64 0,.int .i64 0,.int .i64 0,.int .i64 0,.int .i64 0,.int .i64 0,.int .i64 0,.int .i64 0,.int .i64 0,.int .i64 0]
def CH(fr:Fr)(r a n:Nat):lM ap.P fr 120 (.lv r 16 a n)=j0 fr mA r 16 a n:=by kernel_rfl
def CG(fr:Fr)(r:Nat):lM ap.P fr 120 (.ls r)=match fr[r]? with
 |some (.row _ _ _ es)=>j0 fr mA r 16 0 es.length
 |_=>none:=by kernel_rfl
def tv{fr:Fr}{tch:Bool}{es:List (List AV)}{zs:List AV}{sz a n r:Nat}(hb:fr[r]?=some (.row false tch sz es))(h:a+n<=es.length):j0 fr zs r sz a n=some (.dead,fr.set r (.row false tch sz (es.take a++List.replicate n zs++es.drop (a+n))),[]):=by
 unfold j0;rw[hb]
 have h2:(Nat.beq sz sz&&Nat.ble (a+n) es.length)=true:=by
  rw[Bool.and_eq_true,Nat.ble_eq];exact⟨by simp,h⟩
 simp only[h2]
def CY{W:List Wr}{k:Int}(hl:W.length<=1000):∃r es,Cl ap 118 [.ls 0,.t (.fn (.func 120) 0 [.tp [.int .i64 k]])] [.row false false 16 (aR W)] r [.row false false 16 es]/\(r=.ls 0/\es=aR (aX W k)\/∃i,r=.lv 0 16 0 i/\i<=es.length/\es.take i=aR (aX W k)):=by
 have ki:=xC (l:=W) (p:=fun x=>!decide (x.u.kind=k)) (c:=.tp [.int .i64 k]) (by omega) fun x _=>v7 x k;have an:=iI W;rcases xE (fun x:Wr=>!decide (x.u.kind=k)) W 0 with⟨h1,h2⟩|⟨q0,w0,h1,h2,h3,h4⟩
 ·
  rw[h1]at ki;refine⟨.ls 0,aR W,?_,.inl ⟨rfl,by rw[yO h2]⟩⟩;refine Cl.aE rfl Tryz.func118 rfl rfl rfl ?_
  repeat'(first
|(with_reducible apply aa.seq)
|((with_reducible apply aa.text);(try case hm=>exact rfl))
|(with_reducible first|apply aa.ret|apply ay)
|((with_reducible apply aa.am);(case hc=>exact rfl))
|((with_reducible apply ab.ao);(case hp=>exact ae))
|(with_reducible apply ab.af)
|((with_reducible apply ab.u0);(case hx=>first
|(exact aj ki)
|exact ac))
|fail)
  exact⟨.inr rfl,rfl⟩
 ·
  rw[h1,Int.zero_add]at ki;have aq:=aC h2;obtain⟨s1,s2⟩:=GX h2 h3 h4;have hD:=zC (W:=W) (k:=k) (Nat.le_refl W.length)
  have G:cw W k W.length <W.length:=by
   have:=oR W k W.length;rcases Nat.lt_or_ge (cw W k W.length) W.length with h|h
   ·exact h
   ·exfalso;have he:cw W k W.length=W.length:=by omega
    unfold cw at he;rw[List.take_length]at he;have:=(List.length_filter_eq_length_iff (p:=fun w:Wr=>decide (w.u.kind=k)) (l:=W)).1 he w0 (List.mem_of_getElem? h2);rw[this]at h3;cases h3
  have O:(ew W k W.length).take (cw W k W.length)=aR (aX W k):=by
   unfold ew cw;rw[List.take_length];unfold aR;rw[<- List.map_take,List.take_left'];rfl
  refine⟨.lv 0 16 0 (cw W k W.length),(ew W k W.length).take (cw W k W.length)++List.replicate (W.length - cw W k W.length) mA++(ew W k W.length).drop (cw W k W.length+(W.length - cw W k W.length)),?_,.inr ⟨_,rfl,?_,?_⟩⟩
  rotate_left
  ·simp;omega
  ·rw[List.append_assoc,List.take_append_of_le_length (by simp;omega),List.take_take,Nat.min_self,O]
  refine Cl.aE rfl Tryz.func118 rfl rfl rfl ?_
  repeat'(first
|(with_reducible first|apply aa.seq|apply aa.block)
|((with_reducible apply aa.text);(try case hm=>exact rfl))
|(with_reducible first|apply aa.skip|apply ai)
|((with_reducible apply aa.ak);(case hc=>exact rfl))
|((with_reducible apply ab.aw);(case hp=>exact ae))
|(with_reducible apply ab.af)
|((with_reducible apply ab.u0);(case hx=>first
|(exact aj ki)
|exact ac))
|fail)
  apply aa.aM
  case ho=>exact rfl
  case hp=>exact rfl
  case hl=>exact rfl
  case hs=>exact slt
  refine aI.cd (fun q:Nat=>[(5,.t (.int .i64 (cw W k q:Int))),(6,.t (.int .i64 (q:Int)))]) (fun q=>[.row false false 16 (ew W k q)]) (fun q=>q<=W.length) (fun q=>W.length - q) (q0+1) (by rw[s2];rfl) (by rw[s1]) (by omega) (fun q hq=>?_);have I:=zC (k:=k) hq;have ad:=oR W k q;rcases Nat.lt_or_ge q W.length with g3|g3
  ·
   obtain⟨w,Z⟩:=av g3;have Q:=GU (k:=k) Z;have U:=v7 w k;have y:=CJ (k:=k) Z;have v:=GW (k:=k) Z;have J:=GV (k:=k) Z;rw[ee]at Q U v;obtain⟨R,V⟩:∃R,ew W k q=R:=⟨_,rfl⟩;obtain⟨c,hc⟩:∃c,cw W k q=c:=⟨_,rfl⟩;rw[V]at Q I v J⊢;rw[hc]at ad y v J⊢;by_cases z:w.u.kind=k
   ·
    rw[decide_eq_true z]at U;have v:=v z;have y:=y z;obtain⟨o,ho⟩:=av (xs:=R) (k:=c) (by omega)
    have ag:o.length=16:=by
     have:o∈aR (aX (W.take q) k++W.drop (aX (W.take q) k).length):=by
      have h:=List.mem_of_getElem? ho;rw[<- V]at h;exact h
     obtain⟨w',_,rfl⟩:=List.mem_map.1 this;rfl
    repeat'(first
|(with_reducible first|apply aa.seq|apply aa.block)
|((with_reducible apply aa.text);(try case hm=>exact rfl))
|(with_reducible first|apply aa.skip|apply ai)
|((with_reducible apply aa.am);(case hc=>exact rfl))
|((with_reducible apply ab.ao);(case hp=>exact ae))
|(with_reducible first|apply ab.af|apply ab.bM)
|((with_reducible apply ab.u0);(case hx=>first
|((with_reducible apply ah.H7);(case hs=>exact fun _=>rfl);(case ht=>exact pO);(case ha|hy=>exact rfl);(case hone=>kernel_rfl);(case hl|hb=>exact rfl);(case hk=>exact ho);(case ho=>exact ag);(case hv=>exact v);(case hf=>exact leq))
|(exact aj U)
|exact ac))
|fail)
    exact⟨q+1,by rw[y];rfl,rfl,by omega,by omega⟩
   ·
    rw[decide_eq_false z]at U;obtain⟨n1,n2⟩:=J z
    repeat'(first
|(with_reducible first|apply aa.seq|apply aa.block)
|((with_reducible apply aa.text);(try case hm=>exact rfl))
|(with_reducible first|apply aa.skip|apply ai|apply aG)
|((with_reducible apply aa.am);(case hc=>exact rfl))
|((with_reducible apply aa.ak);(case hc=>exact rfl))
|((with_reducible apply ab.ao);(case hp=>exact ae))
|(with_reducible apply ab.af)
|((with_reducible apply ab.u0);(case hx=>first
|(exact aj U)
|exact ac))
|fail)
    exact⟨q+1,by rw[n2];rfl,by rw[n1];rfl,by omega,by omega⟩
  ·
   obtain rfl:q=W.length:=by omega
   obtain⟨R,V⟩:∃R,ew W k W.length=R:=⟨_,rfl⟩;obtain⟨c,hc⟩:∃c,cw W k W.length=c:=⟨_,rfl⟩;rw[V]at I⊢;rw[hc]at G⊢;rw[<- I]at G⊢;have au:=sL (r:=0) (sz:=16) (n:=R.length) (q:=c) (k:=.i64) G;rcases Nat.eq_zero_or_pos c with h0|h0
   ·
    subst h0;have D:gh 0 16 0 (R.take 0++List.replicate R.length mA++R.drop (0+R.length)).length (R.take 0++List.replicate R.length mA++R.drop (0+R.length)).length none (some (.t (.int .i64 ((0:Nat):Int))))=some (.lv 0 16 0 0):=sL (by simp;omega)
    repeat'(first
|(with_reducible apply aa.seq)
|((with_reducible apply aa.text);(try case hm=>exact rfl))
|(with_reducible first|apply aa.exit|apply aa.ret|apply ai|apply aA|apply az)
|((with_reducible apply aa.ak);(case hc=>exact rfl))
|((with_reducible apply ab.aw);(case hp=>exact ae))
|(with_reducible apply ab.af)
|((with_reducible apply ab.u0);(case hx=>first
|((with_reducible apply ah.mq);(case he=>first|(with_reducible exact eT)|(with_reducible exact el1)|(with_reducible exact eU)|(with_reducible exact el3)|(with_reducible exact el4)|(with_reducible exact eV)|(with_reducible exact el6)|(with_reducible exact eW)|exact rfl);(case hx|hl|hh|hb=>exact rfl);(case hv=>exact I6))
|((with_reducible apply ah.mq);(case he=>first|(with_reducible exact eT)|(with_reducible exact el1)|(with_reducible exact eU)|(with_reducible exact el3)|(with_reducible exact el4)|(with_reducible exact eV)|(with_reducible exact el6)|(with_reducible exact eW)|exact rfl);(case hx|hl|hh|hb=>exact rfl);(case hv=>exact D))
|((with_reducible apply ah.tu);(case hs=>exact fun _=>rfl);(case ha|ht|hy=>exact rfl);(case hm=>exact(CG _ 0).trans (tv (tch:=false) (es:=R) (a:=0) (n:=R.length) rfl (by omega)));(case hf=>exact leq))
|exact ac))
|fail)
    exact⟨.inr rfl,rfl⟩
   ·
    have al:=vZ (r:=0) (sz:=16) (n:=R.length) (q:=c) (k:=.i64) h0 G;have D:gh 0 16 0 (R.take c++List.replicate (R.length - c) mA++R.drop (c+(R.length - c))).length (R.take c++List.replicate (R.length - c) mA++R.drop (c+(R.length - c))).length none (some (.t (.int .i64 (c:Int))))=some (.lv 0 16 0 c):=sL (by simp;omega)
    repeat'(first
|(with_reducible apply aa.seq)
|((with_reducible apply aa.text);(try case hm=>exact rfl))
|(with_reducible first|apply aa.exit|apply aa.ret|apply ai|apply aA|apply az)
|((with_reducible apply aa.ak);(case hc=>exact rfl))
|((with_reducible apply ab.aw);(case hp=>exact ae))
|(with_reducible apply ab.af)
|((with_reducible apply ab.u0);(case hx=>first
|((with_reducible apply ah.mq);(case he=>first|(with_reducible exact eT)|(with_reducible exact el1)|(with_reducible exact eU)|(with_reducible exact el3)|(with_reducible exact el4)|(with_reducible exact eV)|(with_reducible exact el6)|(with_reducible exact eW)|exact rfl);(case hx|hl|hh|hb=>exact rfl);(case hv=>exact al))
|((with_reducible apply ah.mq);(case he=>first|(with_reducible exact eT)|(with_reducible exact el1)|(with_reducible exact eU)|(with_reducible exact el3)|(with_reducible exact el4)|(with_reducible exact eV)|(with_reducible exact el6)|(with_reducible exact eW)|exact rfl);(case hx|hl|hh|hb=>exact rfl);(case hv=>exact D))
|((with_reducible apply ah.tu);(case hs=>exact fun _=>rfl);(case ha|ht|hy=>exact rfl);(case hm=>exact(CH _ 0 c (R.length - c)).trans (tv (tch:=false) (es:=R) rfl (by omega)));(case hf=>exact leq))
|exact ac))
|fail)
    exact⟨.inr rfl,rfl⟩
def Fz(W:List Wr):cP 16 (aR W)=true:=by
 unfold cP aR;rw[List.all_map];exact List.all_eq_true.2 fun w _=>rfl
def CC{W:List Wr}(hl:W.length<=1000)(h:W≠[]):Cl ap 119 [.t (.arr (aR W))] [] (.ls 0) [.row false false 16 (aR W)]:=by
 cases W with
 |nil=>exact absurd rfl h
 |cons w W=>
  have h1:cP 16 (cb w::aR W)=true:=Fz (w::W)
  have h2:Nat.ble (aR W).length 999999=true:=by
   rw[Nat.ble_eq,iI];simp at hl;omega
  have e:oO 16 (cb w::aR W)=match cP 16 (cb w::aR W)&&Nat.ble (aR W).length 999999 with
   |true=>some (.ls 0,[.row false false 16 (cb w::aR W)])
   |false=>none:=rfl
  rw[h1,h2]at e;exact⟨1,e⟩
def It{B:Lb}{es:List (List AV)}{i:Nat}(h:i<=es.length):kJ true 0 (eH 0 (some (.lv 1 16 0 i)) [B,.row false false 16 es])=some (.t (.arr (es.take i)),[]):=by
 have e:eZ [.row false false 16 es] 0 16 0 i=some (es.take i):=by
  have h2:Nat.ble (0+i) es.length=true:=by rw[Nat.ble_eq];omega
  show(match Nat.beq 16 16&&Nat.ble (0+i) es.length with|true=>some ((es.drop 0).take i)|false=>none)=_
  rw[h2];rfl
 have u:eH 0 (some (.lv 1 16 0 i)) [B,.row false false 16 es]=some (.lv 0 16 0 i,[.row false false 16 es]):=by
  cases B <;>rfl
 rw[u];show(match(match eZ [.row false false 16 es] 0 16 0 i with|some es=>some (AV.arr es)|none=>none)with|some x=>some (SV.t x,([]:Fr))|none=>some (.lv 0 16 0 i,[.row false false 16 es]))=_
 rw[e]
def pw{W:List Wr}{k:Int}(hl:W.length<=1000):Cl ap 117 [.t (.arr (aR W)),.t (.int .i64 k)] [] (.t (.arr (aR (aX W k)))) []:=by
 rcases List.eq_nil_or_concat W with z|⟨I,w,z⟩
 ·
  subst z;have v:Cl ap 119 [.t (.arr (aR []))] [] (.t (.arr [])) []:=⟨1,rfl⟩;have G:Cl ap 163 [.t (.arr []),.t (.fn (.func 120) 0 [.tp [.int .i64 k]])] [] (.t (.int .i64 (-1))) []:=xC (l:=[]) (p:=fun x=>!decide (x.u.kind=k)) (c:=.tp [.int .i64 k]) (by simp) fun x _=>v7 x k
  have y:Cl ap 118 [.t (.arr []),.t (.fn (.func 120) 0 [.tp [.int .i64 k]])] [] (.t (.arr [])) []:=by
   refine Cl.aE rfl Tryz.func118 rfl rfl rfl ?_
   repeat'(first
|(with_reducible apply aa.seq)
|((with_reducible apply aa.text);(try case hm=>exact rfl))
|(with_reducible first|apply aa.ret|apply ay)
|((with_reducible apply aa.am);(case hc=>exact rfl))
|((with_reducible apply ab.ao);(case hp=>exact ae))
|(with_reducible apply ab.af)
|((with_reducible apply ab.u0);(case hx=>first
|(exact aj G)
|exact ac))
|fail)
   exact⟨.inr rfl,rfl⟩
  refine Cl.fS rfl Tryz.func117 rfl rfl rfl ?_
  repeat'(first
|(with_reducible apply aa.seq)
|((with_reducible apply aa.text);(try case hm=>exact rfl))
|(with_reducible first|apply aa.ret|apply ab.af)
|((with_reducible apply ab.u0);(case hx=>first
|(exact rC y)
|(exact bX v)
|exact ac))
|fail)
  exact⟨.inr rfl,rfl⟩
 ·
  have D:W≠[]:=by rw[z];simp
  have v:=CC hl D;obtain⟨r,J,y,⟨rfl,rfl⟩|⟨i,rfl,h1,h2⟩⟩:=CY (W:=W) (k:=k) hl
  ·
   refine Cl.fS rfl Tryz.func117 rfl rfl rfl ?_
   repeat'(first
|(with_reducible apply aa.seq)
|((with_reducible apply aa.text);(try case hm=>exact rfl))
|(with_reducible first|apply aa.ret|apply ab.af)
|((with_reducible apply ab.u0);(case hx=>first
|(exact dy v)
|(exact yV [1] y)
|exact ac))
|fail)
   exact⟨.inr rfl,rfl⟩
  ·
   rw[<- h2];refine Cl.fS rfl Tryz.func117 rfl rfl rfl ?_
   repeat'(first
|(with_reducible apply aa.seq)
|((with_reducible apply aa.text);(try case hm=>exact rfl))
|(with_reducible first|apply aa.ret|apply ab.af)
|((with_reducible apply ab.u0);(case hx=>first
|(exact dy v)
|(exact yV [1] y)
|exact ac))
|fail)
   exact⟨.inr rfl,It h1⟩
set_option maxRecDepth 100000
set_option maxHeartbeats 32000000
def wv(b:Bool):Cl ap 122 [.t (.bool b)] [] (.tc (aW (kQ b))) []:=by
 refine Cl.aE rfl Tryz.func122 rfl rfl rfl ?_
 cases b with
 |true=>
  repeat'(first
|(with_reducible apply aa.seq)
|((with_reducible apply aa.text);(try case hm=>exact rfl))
|(with_reducible first|apply aa.ret|apply ay)
|((with_reducible apply aa.am);(case hc=>exact rfl))
|(with_reducible apply ab.af)
|((with_reducible apply ab.u0);(case hx=>exact ac))
|fail)
  exact⟨.inr rfl,rfl⟩
 |false=>
  repeat'(first
|(with_reducible apply aa.seq)
|((with_reducible apply aa.text);(try case hm=>exact rfl))
|(with_reducible first|apply aa.skip|apply aa.ret|apply ai)
|((with_reducible apply aa.ak);(case hc=>exact rfl))
|(with_reducible apply ab.af)
|((with_reducible apply ab.u0);(case hx=>exact ac))
|fail)
  exact⟨.inr rfl,rfl⟩
structure gr (W:List Wr):Prop where
 len:W.length<=1000
 past:∀w∈W,w.e.past.length<=1000
def gr.uZ{W:List Wr}(h:gr W):∀w∈W,w.e.past.length<=140737488351232:=fun w u=>Nat.le_trans (h.past w u) (by omega)
def gr.of{W:List Wr}(h:gr W)(k:Int):(aX W k).length<=1000:=Nat.le_trans (List.length_filter_le _ _) h.len
def dl:AV:=.tp [.fn (.func 117) 0 []]
def IL{W:List Wr}(h:gr W):Cl ap 121 [.t (.arr (aR W)),.t dl] [] (.t (aF (kQ ((aX W 0).any fun w=>!bO w W 1)))) []:=by
 have y:=pw (k:=0) h.len;have z:=h.of 0;have u:=CM (l:=aX W 0) (p:=fun w=>!bO w W 1) (c:=.tp [.arr (aR W)]) (by omega) fun w _=>IA (w:=w) (Nat.le_trans h.len (by omega)) h.uZ;obtain⟨b,v⟩:∃b,((aX W 0).any fun w=>!bO w W 1)=b:=⟨_,rfl⟩;rw[v]at u⊢;have D:=wv b;unfold dl;refine Cl.fS rfl Tryz.func121 rfl rfl rfl ?_
 repeat'(first
|(with_reducible apply aa.seq)
|((with_reducible apply aa.text);(try case hm=>exact rfl))
|(with_reducible first|apply aa.ret|apply ab.af)
|((with_reducible apply ab.u0);(case hx=>first
|(exact bX y)
|(exact aj u)
|(exact bX D)
|exact ac))
|fail)
 exact⟨.inr rfl,rfl⟩
def IM{W:List Wr}(h:gr W):Cl ap 126 [.t (.arr (aR W)),.t dl] [] (.t (aF (kQ (decide (aX W 0≠[])&&!(aX W 1).any fun w=>!bO w W 0)))) []:=by
 have z:=pw (k:=0) h.len;have D:=pw (k:=1) h.len;have G:=h.of 0;have I:=h.of 1;have v:=iI (aX W 0);have J:=CN (l:=aX W 1) (p:=fun w=>!bO w W 0) (c:=.tp [.arr (aR W)]) (by omega) fun w _=>IB (w:=w) (Nat.le_trans h.len (by omega)) h.uZ;obtain⟨b,U⟩:∃b,((aX W 1).any fun w=>!bO w W 0)=b:=⟨_,rfl⟩;rw[U]at J⊢;have u:=wv (decide (aX W 0≠[])&&!b)
 have y:decide (aX W 0≠[])=decide (0 <(aX W 0).length):=by
  cases aX W 0 <;>simp
 rw[y]at u⊢;obtain⟨O,Q⟩:∃O,aX W 0=O:=⟨_,rfl⟩;rw[Q]at z G v u⊢;by_cases hp:0 <O.length
 ·
  rw[decide_eq_true hp]at u⊢;unfold dl;refine Cl.fS rfl Tryz.func126 rfl rfl rfl ?_
  repeat'(first
|(with_reducible apply aa.seq)
|((with_reducible apply aa.text);(try case hm=>exact rfl))
|(with_reducible apply aa.ret)
|((with_reducible apply ab.ao);(case hp=>exact ae))
|(with_reducible apply ab.af)
|((with_reducible apply ab.au);(case hW=>exact rfl);(case hx=>first
|(exact bX D)
|(exact aj J)
|exact ac))
|((with_reducible apply ab.u0);(case hx=>first
|(exact bX z)
|(exact bX u)
|exact ac))
|fail)
  exact⟨.inr rfl,rfl⟩
 ·
  rw[decide_eq_false hp]at u⊢;unfold dl;refine Cl.fS rfl Tryz.func126 rfl rfl rfl ?_
  repeat'(first
|(with_reducible apply aa.seq)
|((with_reducible apply aa.text);(try case hm=>exact rfl))
|(with_reducible apply aa.ret)
|((with_reducible apply ab.aw);(case hp=>exact ae))
|(with_reducible apply ab.af)
|((with_reducible apply ab.gf);(case hW=>exact rfl))
|((with_reducible apply ab.u0);(case hx=>first
|(exact bX z)
|(exact bX u)
|exact ac))
|fail)
  exact⟨.inr rfl,rfl⟩
def Hj(a b c d:Int):decide (0 <gO [sg a b,sg c d])=(decide (b <a)||(decide (b=a)&&decide (d <c))):=by
 unfold gO sg;rcases Int.lt_trichotomy a b with h|h|h
 ·simp[gO,h];omega
 ·subst h;rcases Int.lt_trichotomy c d with h|h|h <;>simp[gO,h]<;>omega
 ·simp[gO,h];omega
def CI(a b:Wr):Cl ap 130 [.t (.agg (cb a)),.t (.agg (cb b))] [] (.t (.int .i64 (gO [sg a.e.t b.e.t,sg a.e.r b.e.r]))) []:=by
 have v:=wX a.e.t b.e.t;have z:=wX a.e.r b.e.r;have u:=FU (l:=[sg a.e.t b.e.t,sg a.e.r b.e.r]) (by simp);rw[ee,ee];obtain⟨x,hx⟩:∃x,sg a.e.t b.e.t=x:=⟨_,rfl⟩;obtain⟨y,D⟩:∃y,sg a.e.r b.e.r=y:=⟨_,rfl⟩;rw[hx]at v u⊢;rw[D]at z u⊢;refine Cl.aE rfl Tryz.func130 rfl rfl rfl ?_
 repeat'(first
|(with_reducible apply aa.seq)
|((with_reducible apply aa.text);(try case hm=>exact rfl))
|((with_reducible apply aa.drawn);(case hm=>exact rfl))
|(with_reducible first|apply aa.ret|apply ab.af)
|((with_reducible apply ab.u0);(case hx=>first
|(exact aj v)
|(exact aj z)
|(exact aj u)
|exact ac))
|fail)
 exact⟨.inr rfl,rfl⟩
theorem yp{w:Wr}:∀{r:List Wr} {q:Nat} {x:Wr},r[q]?=some x->dx w (r.take (q+1))=if jF x (dx w (r.take q))then x else dx w (r.take q)
 |[],q,x,h=>by simp at h
 |y::r,0,x,h=>by
  simp at h;subst h;rfl
 |y::r,q+1,x,h=>by
  rw[List.take_succ_cons,List.take_succ_cons,dx,dx];exact yp (by simpa using h)
def Fk{w:Wr}{r:List Wr}(hl:r.length<=1000):Cl ap 129 [.t (.arr (aR (w::r))),.t (.fn (.func 130) 0 [])] [] (.t (.agg (cb (dx w r)))) []:=by
 have D:=iI (w::r);have J:(w::r).length=r.length+1:=rfl;have v:(aR (w::r))[0]?=some (cb w):=rfl;rw[ee]at v;obtain⟨E,Q⟩:∃E,aR (w::r)=E:=⟨_,rfl⟩
 have z:∀q x,r[q]?=some x->E[q+1]?=some (cb x):=fun q x hx=>by
  rw[<- Q];exact fR (f:=cb) (l:=w::r) (k:=q+1) hx
 rw[Q]at D v⊢;rw[J]at D;refine Cl.aE rfl Tryz.func129 rfl rfl rfl ?_
 repeat'(first
|(with_reducible first|apply aa.seq|apply aa.block)
|((with_reducible apply aa.text);(try case hm=>exact rfl))
|(with_reducible first|apply aa.skip|apply ai)
|((with_reducible apply aa.ak);(case hc=>exact rfl))
|((with_reducible apply ab.aw);(case hp=>exact ae))
|(with_reducible apply ab.af)
|((with_reducible apply ab.u0);(case hx=>exact ac))
|fail)
 apply aa.aM
 case ho=>exact rfl
 case hp=>exact rfl
 case hl=>exact rfl
 case hs=>exact slt
 refine aI.cd (fun q:Nat=>[(6,.t (.int .i64 ((q+1:Nat):Int)))]) (fun q=>[.box false 155 [.t (.int .i64 0),.t (.int .i64 0),.t (.int .i64 0),.nil,.t (.int .i64 0),.t (.int .i64 0),.t (.int .i64 0),.t (.int .i64 0),.t (.int .i64 0),.t (.int .i64 0),.t (.int .i64 0),.t (.int .i64 0),.t (.int .i64 0),.t (.int .i64 0),.t (.int .i64 0),.t (.int .i64 0)],.box false 155 ((cb (dx w (r.take q))).map .t)]) (fun q=>q<=r.length) (fun q=>r.length - q) 0 rfl rfl (by omega) (fun q Z=>?_);rcases Nat.lt_or_ge q r.length with h3|h3
 ·
  obtain⟨x,hx⟩:=av h3;have hc:=z q x hx;have hm:=yp (w:=w) hx;obtain⟨M,V⟩:∃M,dx w (r.take q)=M:=⟨_,rfl⟩;rw[V]at hm⊢;have G:=CI x M;have hs:=Hj x.e.t M.e.t x.e.r M.e.r;have O:jF x M=(decide (M.e.t <x.e.t)||(decide (M.e.t=x.e.t)&&decide (M.e.r <x.e.r))):=rfl;rw[<- O]at hs;rw[ee]at hc;rw[ee,ee]at G;obtain⟨c,I⟩:∃c,gO [sg x.e.t M.e.t,sg x.e.r M.e.r]=c:=⟨_,rfl⟩;rw[I]at G hs;have U:cb M=[.int .i64 M.e.r,.int .i64 M.e.n,.int .i64 M.e.t,aF M.e.past,.int .i64 M.e.k,.int .i64 M.e.a,.int .i64 M.e.gk,.int .i64 M.e.gi,.int .i64 M.e.ge,.int .i64 M.e.ga,.int .i64 M.e.to,.int .i64 M.e.pl,.int .i64 M.e.se,.int .i64 M.u.kind,.int .i64 M.u.cell,.int .i64 M.u.value]:=rfl;rw[U];by_cases y:0 <c
  ·
   rw[decide_eq_true y]at hs;rw[<- hs,if_pos rfl]at hm
   repeat'(first
|(with_reducible first|apply aa.seq|apply aa.block)
|((with_reducible apply aa.text);(try case hm=>exact rfl))
|((with_reducible apply aa.drawn);(case hm=>exact rfl))
|(with_reducible first|apply aa.skip|apply ai)
|((with_reducible apply aa.am);(case hc=>exact rfl))
|((with_reducible apply ab.ao);(case hp=>exact ae))
|(with_reducible first|apply ab.af|apply ab.bM)
|((with_reducible apply ab.u0);(case hx=>first
|(exact aj G)
|exact ac))
|fail)
   exact⟨q+1,rfl,by rw[hm];rfl,by omega,by omega⟩
  ·
   rw[decide_eq_false y]at hs;rw[<- hs,if_neg (by decide)]at hm
   repeat'(first
|(with_reducible first|apply aa.seq|apply aa.block)
|((with_reducible apply aa.text);(try case hm=>exact rfl))
|((with_reducible apply aa.drawn);(case hm=>exact rfl))
|(with_reducible first|apply aa.skip|apply ai|apply aG)
|((with_reducible apply aa.am);(case hc=>exact rfl))
|((with_reducible apply aa.ak);(case hc=>exact rfl))
|((with_reducible apply ab.ao);(case hp=>exact ae))
|((with_reducible apply ab.aw);(case hp=>exact ae))
|(with_reducible apply ab.af)
|((with_reducible apply ab.u0);(case hx=>first
|(exact aj G)
|exact ac))
|fail)
   exact⟨q+1,rfl,by rw[hm];rfl,by omega,by omega⟩
 ·
  rw[List.take_of_length_le h3]
  repeat'(first
|(with_reducible apply aa.seq)
|((with_reducible apply aa.text);(try case hm=>exact rfl))
|(with_reducible first|apply aa.exit|apply aa.ret|apply ai|apply aA|apply az)
|((with_reducible apply aa.ak);(case hc=>exact rfl))
|((with_reducible apply ab.aw);(case hp=>exact ae))
|(with_reducible apply ab.af)
|((with_reducible apply ab.u0);(case hx=>exact ac))
|fail)
  exact⟨.inr rfl,rfl⟩
def IP{W:List Wr}{n:Int}(h:gr W):Cl ap 128 [.t (.arr (aR W)),.t dl,.t (.tp [.int .i64 n])] [] (.t (aF (match aX W 2 with|[]=>[n]|w::r=>[(dx w r).u.value]))) []:=by
 have z:=pw (k:=2) h.len;have y:=h.of 2;have v:=iI (aX W 2);obtain⟨O,Q⟩:∃O,aX W 2=O:=⟨_,rfl⟩;rw[Q]at z y v⊢
 cases O with
 |nil=>
  have U:([]:List Wr).length=0:=rfl;unfold dl;refine Cl.fS rfl Tryz.func128 rfl rfl rfl ?_
  repeat'(first
|(with_reducible apply aa.seq)
|((with_reducible apply aa.text);(try case hm=>exact rfl))
|(with_reducible first|apply aa.ret|apply ay)
|((with_reducible apply aa.am);(case hc=>exact rfl))
|((with_reducible apply ab.ao);(case hp=>exact ae))
|(with_reducible apply ab.af)
|((with_reducible apply ab.u0);(case hx=>first
|(exact bX z)
|exact ac))
|fail)
  exact⟨.inr rfl,rfl⟩
 |cons w r=>
  have D:=Fk (w:=w) (r:=r) (by simp at y;omega);have G:(w::r).length=r.length+1:=rfl;rw[G]at v;show Cl ap _ _ [] (.t (aF [(dx w r).u.value])) []
  obtain⟨M,J⟩:∃M,dx w r=M:=⟨_,rfl⟩;rw[J]at D⊢;rw[ee M]at D;obtain⟨E,I⟩:∃E,aR (w::r)=E:=⟨_,rfl⟩;rw[I]at D v z;unfold dl;refine Cl.fS rfl Tryz.func128 rfl rfl rfl ?_
  repeat'(first
|(with_reducible apply aa.seq)
|((with_reducible apply aa.text);(try case hm=>exact rfl))
|(with_reducible first|apply aa.skip|apply aa.ret|apply ai)
|((with_reducible apply aa.ak);(case hc=>exact rfl))
|((with_reducible apply ab.aw);(case hp=>exact ae))
|(with_reducible apply ab.af)
|((with_reducible apply ab.u0);(case hx=>first
|(exact bX z)
|(exact bX D)
|exact ac))
|fail)
  exact⟨.inr rfl,rfl⟩
theorem tE:∀(l:List Int) (x y:Int),bx (l++[x,y])=if x=y then bx (l++[x])else bx (l++[x])++[y]
 |[],x,y=>by
  by_cases h:x=y <;>simp[bx,h]
 |[a],x,y=>by
  have:=tE [] x y;simp only[List.nil_append]at this;show bx (a::x::[y])=if x=y then bx (a::[x])else bx (a::[x])++[y]
  rw[bx,this];by_cases h:x=y <;>by_cases h2:a=x <;>simp[bx,h,h2]
 |a::b::l,x,y=>by
  have:=tE (b::l) x y;simp only[List.cons_append]at this⊢;rw[bx,bx,this];by_cases h:x=y <;>by_cases h2:a=b <;>simp[h,h2]
def mY{S:List Int}{q:Nat}{x y:Int}(hx:S[q]?=some x)(hy:S[q+1]?=some y):bx (S.take (q+2))=if x=y then bx (S.take (q+1))else bx (S.take (q+1))++[y]:=by
 have u:S.take (q+1)=S.take q++[x]:=by rw[List.take_add_one,hx];rfl
 have v:S.take (q+2)=S.take q++[x,y]:=by rw[List.take_add_one,hy,u];simp
 rw[v,u];exact tE _ x y
def bT(S:List Int)(q:Nat):Nat:=(bx (S.take q)).length
def dN(S:List Int)(q:Nat):List (List AV):=aW (bx (S.take q)++S.drop (bT S q))
theorem w7{S:List Int}:∀{q:Nat},q<=S.length->bT S q<=q
 |0,_=>by simp[bT,bx]
 |1,h=>by
  cases S with
  |nil=>simp at h
  |cons x S=>simp[bT,bx]
 |q+2,h=>by
  obtain⟨x,u⟩:=av (xs:=S) (k:=q) (by omega);obtain⟨y,v⟩:=av (xs:=S) (k:=q+1) (by omega);have z:=w7 (S:=S) (q:=q+1) (by omega);unfold bT at z⊢;rw[mY u v];split
  ·omega
  ·rw[List.length_append,List.length_singleton];omega
def zF{S:List Int}{q:Nat}(h:q<=S.length):(dN S q).length=S.length:=by
 have:=w7 h;unfold dN;rw[bC,List.length_append,List.length_drop];unfold bT at this⊢;omega
def zD{S:List Int}{q k:Nat}{x:Int}(hq:q<=S.length)(hk:bT S q<=k)(h:S[k]?=some x):(dN S q)[k]?=some [.int .i64 x]:=by
 refine bB ?_;unfold bT at hk;rw[List.getElem?_append_right hk,List.getElem?_drop,<- h];congr 1;unfold bT;omega
def GZ{S:List Int}{q:Nat}{y:Int}(h:bx (S.take (q+1))=bx (S.take q)++[y])(hc:bT S q <S.length):(dN S q).set (bT S q) [.int .i64 y]=dN S (q+1)/\bT S (q+1)=bT S q+1:=by
 unfold dN bT at*
 rw[h];obtain⟨x,u⟩:=av hc;refine⟨?_,by rw[List.length_append,List.length_singleton]⟩;have e:[AV.int .i64 y]=(fun n:Int=>[AV.int .i64 n]) y:=rfl;unfold aW;rw[e,<- List.map_set];congr 1;rw[List.set_append_right _ _ (Nat.le_refl _),Nat.sub_self,List.length_append,List.length_singleton,List.append_assoc,drop_at u];rfl
def GY{S:List Int}{q:Nat}(h:bx (S.take (q+1))=bx (S.take q)):dN S (q+1)=dN S q/\bT S (q+1)=bT S q:=by
 unfold dN bT;rw[h];exact⟨rfl,rfl⟩
section
variable {g:Cfg} {d:Option (List Nat)} {i:Nat} {env:Env} {fr:Fr}
def ah.xO{t e sz r a n:Nat}{x y:Operand}{k:IntKind}{m:Int}{ro tch:Bool}{es:List (List AV)}(he:da g.P t=some (e,sz))(hx:rd env x=.lv r sz a n)(hi:rd env y=.t (.int k m))(hb:fr[r]?=some (.row ro tch sz es))(hn:a+n<=es.length)(h0:0<=m)(hq:m.toNat <n):
  ah g d i env fr (.indexAddr t x y) (.le r sz (a+m.toNat) 0) fr []:=by
 have u:m=((m.toNat:Nat):Int):=by omega
 have:=ah.uC (d:=d) (i:=i) (y:=y) (k:=k) (q:=m.toNat) he hx (by rw[<- u];exact hi) hb hn hq;exact this
def ah.uI{y:Operand}{tys:Array TypeId}{t r sz a n:Nat}{args:Array Operand}{ro tch:Bool}{es:List (List AV)}(ha:args.toList=[y])(hy:rd env y=.lv r sz a n)(ht:tys[0]?=some t)(hs:gL g.P t=true)(hb:fr[r]?=some (.row ro tch sz es))(hn:a+n<=es.length):ah g d i env fr (.call ⟨.builtin .len,args,tys⟩) (.t (.int .i64 (n:Int))) fr []:=
 .len (es:=(es.drop a).take n) ha (by rw[hy];exact yi hb hn rfl) ht hs (by rw[List.length_take,List.length_drop];omega)
end
def CF(fr:Fr)(r a n:Nat):lM ap.P fr 22 (.lv r 1 a n)=j0 fr [.int .i64 0] r 1 a n:=by kernel_rfl
def CK{S:List Int}(hl:S.length<=1000):∃r es,Cl ap 133 [.ls 0] [.row false false 1 (aW S)] r [.row false false 1 es]/\(r=.ls 0/\es=aW (bx S)\/∃i,r=.lv 0 1 0 i/\i<=es.length/\es.take i=aW (bx S)):=by
 have bj:=bC S
 have first:(∀q,1<=q->q <S.length->S[q]?≠S[q - 1]?)\/∃q,1<=q/\q <S.length/\S[q]?=S[q - 1]?/\∀p,1<=p->p <q->S[p]?≠S[p - 1]?:=by
  apply Classical.byContradiction;intro hn;have a_:¬ ∀q,1<=q->q <S.length->S[q]?≠S[q - 1]?:=fun h=>hn (.inl h)
  have bb:∀n q,q<=n->1<=q->q <S.length->S[q]?≠S[q - 1]?:=fun n=>by
   induction n with
   |zero=>intro q h1 h2;omega
   |succ n O=>
    intro q h1 h2 h3 he;rcases Nat.lt_or_ge n q with h4|h4
    ·exact hn (.inr ⟨q,h2,h3,he,fun p bd bl=>O p (by omega) bd (by omega)⟩)
    ·exact O q h4 h2 h3 he
  exact a_ fun q=>bb q q (Nat.le_refl _)
 have Z:∀q,q<=S.length->(∀p,1<=p->p <q->S[p]?≠S[p - 1]?)->bx (S.take q)=S.take q:=fun q=>by
  induction q with
  |zero=>intro _ _;simp[bx]
  |succ q O=>
   intro h1 h2
   cases q with
   |zero=>
    cases S with
    |nil=>rfl
    |cons x S=>simp[bx]
   |succ q=>
    obtain⟨x,hx⟩:=av (xs:=S) (k:=q) (by omega);obtain⟨y,hy⟩:=av (xs:=S) (k:=q+1) (by omega);have v:x≠y:=fun e=>h2 (q+1) (by omega) (by omega) (by rw[hy,Nat.add_sub_cancel,hx,e]);rw[mY hx hy,if_neg v,O (by omega) fun p h3 h4=>h2 p h3 (by omega)];conv=>rhs;rw[List.take_add_one,hy]
    rfl
 have J:∀q,1<=q->q <S.length->∃x y,S[q - 1]?=some x/\S[q]?=some y:=fun q h1 h2=>by
  obtain⟨x,hx⟩:=av (xs:=S) (k:=q - 1) (by omega);obtain⟨y,hy⟩:=av (xs:=S) (k:=q) h2;exact⟨x,y,hx,hy⟩
 have V:∀q:Nat,1<=q->((q:Int) - 1).toNat=q - 1:=fun q h=>by omega
 rcases first with u|⟨d,d1,d2,d3,d4⟩
 ·
  refine⟨.ls 0,aW S,?_,.inl ⟨rfl,by have:=Z S.length (Nat.le_refl _) u;rw[List.take_length]at this;rw[this]⟩⟩;refine Cl.aE rfl Tryz.func133 rfl rfl rfl ?_;rcases Nat.lt_or_ge S.length 2 with h2|h2
  ·
   repeat'(first
|(with_reducible apply aa.seq)
|((with_reducible apply aa.text);(try case hm=>exact rfl))
|(with_reducible first|apply aa.ret|apply ay)
|((with_reducible apply aa.am);(case hc=>exact rfl))
|((with_reducible apply ab.ao);(case hp=>exact ae))
|(with_reducible apply ab.af)
|((with_reducible apply ab.u0);(case hx=>exact ac))
|fail)
   exact⟨.inr rfl,rfl⟩
  ·
   repeat'(first
|(with_reducible first|apply aa.seq|apply aa.block)
|((with_reducible apply aa.text);(try case hm=>exact rfl))
|(with_reducible first|apply aa.skip|apply ai)
|((with_reducible apply aa.ak);(case hc=>exact rfl))
|((with_reducible apply ab.aw);(case hp=>exact ae))
|(with_reducible apply ab.af)
|((with_reducible apply ab.u0);(case hx=>exact ac))
|fail)
   apply aa.aM
   case ho=>exact rfl
   case hp=>exact rfl
   case hl=>exact rfl
   case hs=>exact slt
   refine aI.cd (fun q:Nat=>[(3,.t (.int .i64 (q:Int)))]) (fun q=>[.row false false 1 (aW S)]) (fun q=>1<=q/\q<=S.length) (fun q=>S.length - q) 1 rfl rfl (by omega) (fun q hq=>?_);obtain⟨q1,q2⟩:=hq;rcases Nat.lt_or_ge q S.length with h3|h3
   ·
    obtain⟨x,y,hx,hy⟩:=J q q1 h3;have hc:=bB hy;have hd:=bB hx;rw[<- V q q1]at hd;have v:¬y=x:=fun e=>u q q1 h3 (by rw[hx,hy,e])
    repeat'(first
|(with_reducible first|apply aa.seq|apply aa.block)
|((with_reducible apply aa.text);(try case hm=>exact rfl))
|((with_reducible apply aa.drawn);(case hm=>exact rfl))
|(with_reducible first|apply aa.skip|apply ai|apply aG)
|((with_reducible apply aa.am);(case hc=>exact rfl))
|((with_reducible apply aa.ak);(case hc=>exact rfl))
|((with_reducible apply ab.ao);(case hp=>exact ae))
|((with_reducible apply ab.aw);(case hp=>exact ae))
|(with_reducible apply ab.af)
|((with_reducible apply ab.u0);(case hx=>exact ac))
|fail)
    exact⟨q+1,rfl,rfl,by omega,by omega⟩
   ·
    repeat'(first
|(with_reducible apply aa.seq)
|((with_reducible apply aa.text);(try case hm=>exact rfl))
|(with_reducible first|apply aa.exit|apply aa.ret|apply ai|apply aA|apply az)
|((with_reducible apply aa.ak);(case hc=>exact rfl))
|((with_reducible apply ab.aw);(case hp=>exact ae))
|(with_reducible apply ab.af)
|((with_reducible apply ab.u0);(case hx=>exact ac))
|fail)
    exact⟨.inr rfl,rfl⟩
 ·
  have a6:=Z d (by omega) d4;have a7:(S.take d).length=d:=by simp;omega
  obtain⟨x0,y0,aQ,aV⟩:=J d d1 d2
  have aU:x0=y0:=by
   rw[aQ,aV]at d3;exact(Option.some.inj d3).symm
  have G:bx (S.take (d+1))=S.take d:=by
   obtain⟨p,rfl⟩:∃p,d=p+1:=⟨d - 1,by omega⟩;have:=mY (q:=p) (by simpa using aQ) aV;rw[this,if_pos aU,a6]
  have aB:bT S (d+1)=d:=by unfold bT;rw[G,a7]
  have bf:dN S (d+1)=aW S:=by unfold dN;rw[aB,G,List.take_append_drop]
  have aq:∀q,d+1<=q->q<=S.length->bT S q+1<=q:=fun q=>by
   induction q with
   |zero=>intro h;omega
   |succ q O=>
    intro h1 h2;rcases Nat.lt_or_ge d q with h3|h3
    ·have O:=O (by omega) (by omega);obtain⟨p,rfl⟩:∃p,q=p+1:=⟨q - 1,by omega⟩;obtain⟨x,hx⟩:=av (xs:=S) (k:=p) (by omega);obtain⟨y,hy⟩:=av (xs:=S) (k:=p+1) (by omega);unfold bT at O⊢;rw[mY hx hy];split
     ·omega
     ·rw[List.length_append,List.length_singleton];omega
    ·obtain rfl:q=d:=by omega
     omega
  have an:∀q,d+1<=q->q<=S.length->d<=bT S q:=fun q=>by
   induction q with
   |zero=>intro h;omega
   |succ q O=>
    intro h1 h2;rcases Nat.lt_or_ge d q with h3|h3
    ·have O:=O (by omega) (by omega);obtain⟨p,rfl⟩:∃p,q=p+1:=⟨q - 1,by omega⟩;obtain⟨x,hx⟩:=av (xs:=S) (k:=p) (by omega);obtain⟨y,hy⟩:=av (xs:=S) (k:=p+1) (by omega);unfold bT at O⊢;rw[mY hx hy];split
     ·omega
     ·rw[List.length_append,List.length_singleton];omega
    ·obtain rfl:q=d:=by omega
     omega
  have ag:=aq S.length (by omega) (Nat.le_refl _);have aY:=an S.length (by omega) (Nat.le_refl _);have hD:=zF (S:=S) (Nat.le_refl _)
  have al:(dN S S.length).take (bT S S.length)=aW (bx S):=by
   unfold dN bT;rw[List.take_length];unfold aW;rw[<- List.map_take,List.take_left'];rfl
  refine⟨.lv 0 1 0 (bT S S.length),(dN S S.length).take (bT S S.length)++List.replicate (S.length - bT S S.length) [.int .i64 0]++(dN S S.length).drop (bT S S.length+(S.length - bT S S.length)),?_,.inr ⟨_,rfl,?_,?_⟩⟩
  rotate_left
  ·simp;omega
  ·rw[List.append_assoc,List.take_append_of_le_length (by simp;omega),List.take_take,Nat.min_self,al]
  refine Cl.aE rfl Tryz.func133 rfl rfl rfl ?_
  repeat'(first
|(with_reducible first|apply aa.seq|apply aa.block)
|((with_reducible apply aa.text);(try case hm=>exact rfl))
|(with_reducible first|apply aa.skip|apply ai)
|((with_reducible apply aa.ak);(case hc=>exact rfl))
|((with_reducible apply ab.aw);(case hp=>exact ae))
|(with_reducible apply ab.af)
|((with_reducible apply ab.u0);(case hx=>exact ac))
|fail)
  apply aa.aM
  case ho=>exact rfl
  case hp=>exact rfl
  case hl=>exact rfl
  case hs=>exact slt
  refine aI.cd (fun q:Nat=>[(3,.t (.int .i64 (q:Int)))]) (fun q=>[.row false false 1 (aW S)]) (fun q=>1<=q/\q<=d) (fun q=>S.length - q) 1 rfl rfl (by omega) (fun q hq=>?_);obtain⟨q1,q2⟩:=hq;obtain⟨x,y,hx,hy⟩:=J q q1 (by omega);have hc:=bB hy;have hd:=bB hx;rw[<- V q q1]at hd;rcases Nat.lt_or_ge q d with h3|h3
  ·
   have v:¬y=x:=fun e=>d4 q q1 h3 (by rw[hx,hy,e])
   repeat'(first
|(with_reducible first|apply aa.seq|apply aa.block)
|((with_reducible apply aa.text);(try case hm=>exact rfl))
|((with_reducible apply aa.drawn);(case hm=>exact rfl))
|(with_reducible first|apply aa.skip|apply ai|apply aG)
|((with_reducible apply aa.am);(case hc=>exact rfl))
|((with_reducible apply aa.ak);(case hc=>exact rfl))
|((with_reducible apply ab.ao);(case hp=>exact ae))
|((with_reducible apply ab.aw);(case hp=>exact ae))
|(with_reducible apply ab.af)
|((with_reducible apply ab.u0);(case hx=>exact ac))
|fail)
   exact⟨q+1,rfl,rfl,by omega,by omega⟩
  ·
   obtain rfl:q=d:=by omega
   have v:y=x:=by
    rw[hx,hy]at d3;exact Option.some.inj d3
   have bh:=vZ (r:=0) (sz:=1) (n:=(aW S).length) (q:=q) (k:=.i64) (by omega) (by omega);have au:∀es:List (List AV),es.length=S.length->gT [.row false false 1 es] (.lv 0 1 q ((aW S).length - q))=some ((es.drop q).take ((aW S).length - q)):=fun es he=>yi rfl (by omega) rfl
   repeat'(first
|(with_reducible first|apply aa.seq|apply aa.block)
|((with_reducible apply aa.text);(try case hm=>exact rfl))
|((with_reducible apply aa.drawn);(case hm=>exact rfl))
|(with_reducible first|apply aa.skip|apply ai)
|((with_reducible apply aa.am);(case hc=>exact rfl))
|((with_reducible apply ab.ao);(case hp=>exact ae))
|(with_reducible apply ab.af)
|((with_reducible apply ab.u0);(case hx=>first
|((with_reducible apply ah.mq);(case he=>first|(with_reducible exact eT)|(with_reducible exact el1)|(with_reducible exact eU)|(with_reducible exact el3)|(with_reducible exact el4)|(with_reducible exact eV)|(with_reducible exact el6)|(with_reducible exact eW)|exact rfl);(case hx|hl|hh|hb=>exact rfl);(case hv=>exact bh))
|exact ac))
|fail)
   apply aa.aM
   case ho=>exact rfl
   case hp=>exact rfl
   case hl=>exact rfl
   case hs=>exact slt
   refine aI.cd (fun a:Nat=>[(3,.t (.int .i64 (bT S (q+a):Int))),(5,.t (.int .i64 (a:Int)))]) (fun a=>[.row false false 1 (dN S (q+a))]) (fun a=>1<=a/\q+a<=S.length) (fun a=>S.length - a) 1 (by rw[aB];rfl) (by rw[bf]) (by omega) (fun a ha=>?_);obtain⟨a1,a2⟩:=ha;have g1:=aq (q+a) (by omega) a2;have g2:=an (q+a) (by omega) a2;have Q:=zF a2;have au:=au _ Q;have bk:(((dN S (q+a)).drop q).take ((aW S).length - q)).length=(aW S).length - q:=by simp;omega
   rcases Nat.lt_or_ge (q+a) S.length with g3|g3
   ·
    obtain⟨x,y,hx,hy⟩:=J (q+a) (by omega) g3;have hc:=zD (q:=q+a) (k:=q+a) a2 (by omega) hy;have hd:=zD (q:=q+a) (k:=q+a - 1) a2 (by omega) hx
    have aJ:bx (S.take (q+(a+1)))=if x=y then bx (S.take (q+a))else bx (S.take (q+a))++[y]:=by
     obtain⟨p,hp⟩:∃p,q+a=p+1:=⟨q+a - 1,by omega⟩;rw[hp]at hx hy⊢;rw[show q+(a+1)=p+2 by omega];exact mY hx hy
    have e1:q+((a:Int) - 1).toNat=q+a - 1:=by omega
    rw[<- e1]at hd;have U:q+(a+1)=q+a+1:=by omega
    rw[U]at aJ;have I:=fun h=>GZ (S:=S) (q:=q+a) (y:=y) h (by omega);have u:=GY (S:=S) (q:=q+a);rw[<- U]at I u;have D:bx (S.take (q+(a+1)))=if x=y then bx (S.take (q+a))else bx (S.take (q+a))++[y]:=by rw[U];exact aJ
    obtain⟨R,hR⟩:∃R,dN S (q+a)=R:=⟨_,rfl⟩;obtain⟨c,ad⟩:∃c,bT S (q+a)=c:=⟨_,rfl⟩;rw[hR]at hc hd Q I u⊢;rw[ad]at g1 g2 I u⊢;by_cases v:y=x
    ·
     rw[if_pos v.symm]at D;obtain⟨n1,n2⟩:=u D
     repeat'(first
|(with_reducible first|apply aa.seq|apply aa.block)
|((with_reducible apply aa.text);(try case hm=>exact rfl))
|((with_reducible apply aa.drawn);(case hm=>exact rfl))
|(with_reducible first|apply aa.skip|apply ai|apply aG)
|((with_reducible apply aa.am);(case hc=>exact rfl))
|((with_reducible apply aa.ak);(case hc=>exact rfl))
|((with_reducible apply ab.ao);(case hp=>exact ae))
|((with_reducible apply ab.cz);(case hp=>exact ae))
|(with_reducible apply ab.af)
|((with_reducible apply ab.u0);(case hx=>first
|((with_reducible apply ah.uI);(case ha|hy|ht|hs|hb=>exact rfl);(case hn=>omega))
|((with_reducible apply ah.uC);(case he=>first|(with_reducible exact eT)|(with_reducible exact el1)|(with_reducible exact eU)|(with_reducible exact el3)|(with_reducible exact el4)|(with_reducible exact eV)|(with_reducible exact el6)|(with_reducible exact eW)|exact rfl);(case hx|hi|hb=>exact rfl);(case hn=>omega);(case hq=>omega))
|((with_reducible apply ah.xO);(case he=>first|(with_reducible exact eT)|(with_reducible exact el1)|(with_reducible exact eU)|(with_reducible exact el3)|(with_reducible exact el4)|(with_reducible exact eV)|(with_reducible exact el6)|(with_reducible exact eW)|exact rfl);(case hx|hi|hb=>exact rfl);(case hn=>omega);(case h0=>omega);(case hq=>omega))
|exact ac))
|fail)
     exact⟨a+1,by rw[n2];rfl,by rw[n1];rfl,by omega,by omega⟩
    ·
     rw[if_neg (fun e=>v e.symm)]at D;obtain⟨n1,n2⟩:=I D;obtain⟨o,ho⟩:=av (xs:=R) (k:=c) (by omega)
     have bc:o.length=1:=by
      have h:=List.mem_of_getElem? ho;rw[<- hR]at h;unfold dN aW at h;obtain⟨z,_,rfl⟩:=List.mem_map.1 h;rfl
     obtain⟨o1,rfl⟩:∃o1,o=[o1]:=by
      match o,bc with
      |[o1],_=>exact⟨o1,rfl⟩
     repeat'(first
|(with_reducible first|apply aa.seq|apply aa.block)
|((with_reducible apply aa.text);(try case hm=>exact rfl))
|((with_reducible apply aa.drawn);(case hm=>exact rfl))
|(with_reducible first|apply aa.skip|apply ai)
|((with_reducible apply aa.am);(case hc=>exact rfl))
|((with_reducible apply ab.ao);(case hp=>exact ae))
|((with_reducible apply ab.fa);(case hp=>exact ae))
|(with_reducible first|apply ab.af|apply ab.bM)
|((with_reducible apply ab.u0);(case hx=>first
|((with_reducible apply ah.uI);(case ha|hy|ht|hs|hb=>exact rfl);(case hn=>omega))
|((with_reducible apply ah.uC);(case he=>first|(with_reducible exact eT)|(with_reducible exact el1)|(with_reducible exact eU)|(with_reducible exact el3)|(with_reducible exact el4)|(with_reducible exact eV)|(with_reducible exact el6)|(with_reducible exact eW)|exact rfl);(case hx|hi|hb=>exact rfl);(case hn=>omega);(case hq=>omega))
|((with_reducible apply ah.xO);(case he=>first|(with_reducible exact eT)|(with_reducible exact el1)|(with_reducible exact eU)|(with_reducible exact el3)|(with_reducible exact el4)|(with_reducible exact eV)|(with_reducible exact el6)|(with_reducible exact eW)|exact rfl);(case hx|hi|hb=>exact rfl);(case hn=>omega);(case h0=>omega);(case hq=>omega))
|((with_reducible apply ah.vM);(case hs=>exact fun _=>rfl);(case ha|hy|ht|hone=>exact rfl);(case hn=>kernel_rfl);(case hb=>exact rfl);(case hk=>exact ho);(case hj=>exact rfl);(case hv=>exact n1);(case hf=>exact leq))
|exact ac))
|fail)
     exact⟨a+1,by rw[n2];rfl,rfl,by omega,by omega⟩
   ·
    have be:q+a=S.length:=by omega
    rw[be]at Q⊢;obtain⟨R,hR⟩:∃R,dN S S.length=R:=⟨_,rfl⟩;obtain⟨c,ad⟩:∃c,bT S S.length=c:=⟨_,rfl⟩;rw[hR]at Q⊢;rw[ad]at ag aY⊢;rw[<- Q]at ag⊢;have aN:=vZ (r:=0) (sz:=1) (n:=R.length) (q:=c) (k:=.i64) (by omega) (by omega);have aL:gh 0 1 0 (R.take c++List.replicate (R.length - c) ([.int .i64 0]:List AV)++R.drop (c+(R.length - c))).length (R.take c++List.replicate (R.length - c) ([.int .i64 0]:List AV)++R.drop (c+(R.length - c))).length none (some (.t (.int .i64 (c:Int))))=some (.lv 0 1 0 c):=sL (by simp;omega)
    repeat'(first
|(with_reducible apply aa.seq)
|((with_reducible apply aa.text);(try case hm=>exact rfl))
|(with_reducible first|apply aa.exit|apply aa.ret|apply ai|apply aA|apply ay|apply aO|apply az)
|((with_reducible apply aa.ak);(case hc=>exact rfl))
|((with_reducible apply ab.aw);(case hp=>exact ae))
|(with_reducible apply ab.af)
|((with_reducible apply ab.u0);(case hx=>first
|((with_reducible apply ah.uI);(case ha|hy|ht|hs|hb=>exact rfl);(case hn=>omega))
|((with_reducible apply ah.mq);(case he=>first|(with_reducible exact eT)|(with_reducible exact el1)|(with_reducible exact eU)|(with_reducible exact el3)|(with_reducible exact el4)|(with_reducible exact eV)|(with_reducible exact el6)|(with_reducible exact eW)|exact rfl);(case hx|hl|hh|hb=>exact rfl);(case hv=>exact aN))
|((with_reducible apply ah.mq);(case he=>first|(with_reducible exact eT)|(with_reducible exact el1)|(with_reducible exact eU)|(with_reducible exact el3)|(with_reducible exact el4)|(with_reducible exact eV)|(with_reducible exact el6)|(with_reducible exact eW)|exact rfl);(case hx|hl|hh|hb=>exact rfl);(case hv=>exact aL))
|((with_reducible apply ah.tu);(case hs=>exact fun _=>rfl);(case ha|ht|hy=>exact rfl);(case hm=>exact(CF _ 0 c (R.length - c)).trans (tv (tch:=false) (es:=R) rfl (by omega)));(case hf=>exact leq))
|exact ac))
|fail)
    exact⟨.inr rfl,rfl⟩
theorem xI:∀l:List Int,l7 (aW l)=some l
 |[]=>rfl
 |n::l=>by
  show(match intOf [.int .i64 n],l7 (aW l)with|some n,some l=>some (n::l)|_,_=>none)=_
  rw[xI l];rfl
def HX(l:List Int):Cl ap 132 [.ls 0] [.row false false 1 (aW l)] (.aL []) [.row false false 1 (aW (lj l))]:=by
 refine⟨1,?_⟩
 have e:b9 ap 1 132 [.ls 0] [.row false false 1 (aW l)]=match(match l7 (aW l)with|some l=>some (Lb.row false false 1 (jA (l.mergeSort fun x y=>decide (x<=y))))|none=>none)with
  |some u=>some (.aL [],[u])
  |none=>none:=rfl
 rw[e,xI];rfl
def E7{W:List Wr}{O:List Wr}{q:Nat}{w:Wr}(h:O[q]?=some w):(((O.take (q+1)).filter fun w=>!bO w W 2).map (·.u.value))=((O.take q).filter fun w=>!bO w W 2).map (·.u.value)++if bO w W 2 then[]else[w.u.value]:=by
 rw[List.take_add_one,h,Option.toList,List.filter_append,List.map_append];cases hs:bO w W 2 <;>simp[hs]
def AJ{tch:Bool}{es:List (List AV)}{i:Nat}(h:i<=es.length):kJ true 0 (eH 0 (some (.lv 0 1 0 i)) [.row false tch 1 es])=some (.t (.arr (es.take i)),[]):=by
 have e:eZ [.row false false 1 es] 0 1 0 i=some (es.take i):=by
  have h2:Nat.ble (0+i) es.length=true:=by rw[Nat.ble_eq];omega
  show(match Nat.beq 1 1&&Nat.ble (0+i) es.length with|true=>some ((es.drop 0).take i)|false=>none)=_
  rw[h2];rfl
 have u:eH 0 (some (.lv 0 1 0 i)) [.row false tch 1 es]=some (.lv 0 1 0 i,[.row false false 1 es]):=by cases tch <;>rfl
 rw[u];show(match(match eZ [.row false false 1 es] 0 1 0 i with|some es=>some (AV.arr es)|none=>none)with|some x=>some (SV.t x,([]:Fr))|none=>some (.lv 0 1 0 i,[.row false false 1 es]))=_
 rw[e]
def IQ{W:List Wr}{n:Int}(h:gr W):Cl ap 131 [.t (.arr (aR W)),.t dl,.t (.tp [.int .i64 n])] [] (.t (aF (if ku W=[]then[n]else bx (lj (ku W))))) []:=by
 have ho:=pw (k:=2) h.len;have ag:=h.of 2;have ad:=iI (aX W 2);have ks:=fun w=>vA (w:=w) (k:=2) (Nat.le_trans h.len (by omega)) h.uZ;have D:ku W=((aX W 2).filter fun w=>!bO w W 2).map (·.u.value):=rfl;rw[D];obtain⟨O,hO⟩:∃O,aX W 2=O:=⟨_,rfl⟩;rw[hO]at ho ag ad⊢;unfold dl;refine Cl.fS rfl Tryz.func131 rfl rfl rfl ?_
 repeat'(first
|(with_reducible first|apply aa.seq|apply aa.block)
|((with_reducible apply aa.text);(try case hm=>exact rfl))
|(with_reducible apply ab.af)
|((with_reducible apply ab.u0);(case hx=>first
|(exact bX ho)
|exact ac))
|fail)
 apply aa.aM
 case ho=>exact rfl
 case hp=>exact rfl
 case hl=>exact rfl
 case hs=>exact slt
 refine aI.cd (fun x:Nat×Bool=>[(5,.ls 0),(12,.t (.int .i64 (x.1:Int)))]) (fun x=>[.row false x.2 1 (aW (((O.take x.1).filter fun w=>!bO w W 2).map (·.u.value)))]) (fun x=>x.1<=O.length) (fun x=>O.length - x.1) (0,false) rfl rfl (by simp) (fun x hx=>?_);obtain⟨q,G⟩:=x;dsimp only at hx⊢;rcases Nat.lt_or_ge q O.length with h3|h3
 ·
  obtain⟨w,hw⟩:=av h3;have hc:=pX hw;have V:=ks w;rw[ee]at V;have v:=E7 (W:=W) hw
  have Z:((((O.take q).filter fun w=>!bO w W 2).map (·.u.value))).length<=1000:=by
   rw[List.length_map];refine Nat.le_trans (List.length_filter_le _ _) ?_;simp;omega
  obtain⟨X,Q⟩:∃X,((O.take q).filter fun w=>!bO w W 2).map (·.u.value)=X:=⟨_,rfl⟩;rw[Q]at v Z⊢;have z:bD ((aW X).length+1) 8=true:=by rw[bC];simp[bD];omega
  have J:aW X++[[.int .i64 w.u.value]]=aW (X++[w.u.value]):=by simp[aW]
  obtain⟨b,hb⟩:∃b,bO w W 2=b:=⟨_,rfl⟩;rw[hb]at V v
  cases b with
  |true=>
   rw[if_pos rfl,List.append_nil]at v
   repeat'(first
|(with_reducible first|apply aa.seq|apply aa.block)
|((with_reducible apply aa.text);(try case hm=>exact rfl))
|(with_reducible first|apply aa.skip|apply ai|apply aG)
|((with_reducible apply aa.am);(case hc=>exact rfl))
|((with_reducible apply aa.ak);(case hc=>exact rfl))
|((with_reducible apply ab.ao);(case hp=>exact ae))
|(with_reducible apply ab.af)
|((with_reducible apply ab.u0);(case hx=>first
|(exact aj V)
|exact ac))
|fail)
   exact⟨(q+1,G),rfl,by dsimp only;rw[v];rfl,by dsimp only;omega,by dsimp only;omega⟩
  |false=>
   rw[if_neg (by decide)]at v;rw[<- v]at J
   repeat'(first
|(with_reducible first|apply aa.seq|apply aa.block)
|((with_reducible apply aa.text);(try case hm=>exact rfl))
|(with_reducible first|apply aa.skip|apply ai)
|((with_reducible apply aa.am);(case hc=>exact rfl))
|((with_reducible apply ab.ao);(case hp=>exact ae))
|(with_reducible first|apply ab.af|apply ab.bM)
|((with_reducible apply ab.u);(case hx=>((with_reducible apply ah.dI);(case hs=>exact fun _=>rfl);(case ha|ht=>exact rfl);(case hr=>first|(with_reducible exact dB)|(with_reducible exact dC)|(with_reducible exact dD)|(with_reducible exact rw3)|(with_reducible exact rw4)|exact rfl);(case hx|hy|hn|hb|hok=>exact rfl);(case hlen=>exact z);(case hv=>exact J);(case hk=>exact dL);(case hf=>exact leq))))
|((with_reducible apply ab.u0);(case hx=>first
|(exact aj V)
|exact ac))
|fail)
   exact⟨(q+1,true),rfl,rfl,by dsimp only;omega,by dsimp only;omega⟩
 ·
  rw[List.take_of_length_le h3];obtain⟨X,Q⟩:∃X,(O.filter fun w=>!bO w W 2).map (·.u.value)=X:=⟨_,rfl⟩;rw[Q];have z:=bC X
  have I:X.length<=1000:=by
   rw[<- Q,List.length_map];exact Nat.le_trans (List.length_filter_le _ _) (by omega)
  cases X with
  |nil=>
   have hz:([]:List Int).length=0:=rfl;rw[if_pos rfl]
   repeat'(first
|(with_reducible apply aa.seq)
|((with_reducible apply aa.text);(try case hm=>exact rfl))
|(with_reducible first|apply aa.exit|apply aa.ret|apply ai|apply aA|apply ay|apply az)
|((with_reducible apply aa.am);(case hc=>exact rfl))
|((with_reducible apply aa.ak);(case hc=>exact rfl))
|((with_reducible apply ab.ao);(case hp=>exact ae))
|((with_reducible apply ab.aw);(case hp=>exact ae))
|(with_reducible apply ab.af)
|((with_reducible apply ab.u0);(case hx=>exact ac))
|fail)
   exact⟨.inr rfl,rfl⟩
  |cons x X=>
   rw[if_neg (by simp)];have hz:(x::X).length=X.length+1:=rfl;obtain⟨Y,hY⟩:∃Y,x::X=Y:=⟨_,rfl⟩;rw[hY]at z I hz⊢;have y:=HX Y;obtain⟨r,es,U,⟨rfl,rfl⟩|⟨i,rfl,h1,h2⟩⟩:=CK (S:=lj Y) (by rw[show(lj Y).length=Y.length from List.length_mergeSort _];exact I)
   ·
    cases G
    ·
     repeat'(first
|(with_reducible apply aa.seq)
|((with_reducible apply aa.text);(try case hm=>exact rfl))
|(with_reducible first|apply aa.skip|apply aa.exit|apply aa.ret|apply ai|apply aA|apply az)
|((with_reducible apply aa.ak);(case hc=>exact rfl))
|((with_reducible apply ab.aw);(case hp=>exact ae))
|(with_reducible apply ab.af)
|((with_reducible apply ab.u0);(case hx=>first
|(exact ld [0] y)
|(exact ld [0] U)
|exact ac))
|fail)
     exact⟨.inr rfl,rfl⟩
    ·
     repeat'(first
|(with_reducible apply aa.seq)
|((with_reducible apply aa.text);(try case hm=>exact rfl))
|(with_reducible first|apply aa.skip|apply aa.exit|apply aa.ret|apply ai|apply aA|apply az)
|((with_reducible apply aa.ak);(case hc=>exact rfl))
|((with_reducible apply ab.aw);(case hp=>exact ae))
|(with_reducible apply ab.af)
|((with_reducible apply ab.u0);(case hx=>first
|(exact ld [0] y)
|(exact ld [0] U)
|exact ac))
|fail)
     exact⟨.inr rfl,rfl⟩
   ·
    have hi:aF (bx (lj Y))=.arr (es.take i):=by rw[h2];rfl
    rw[hi];cases G
    ·
     repeat'(first
|(with_reducible apply aa.seq)
|((with_reducible apply aa.text);(try case hm=>exact rfl))
|(with_reducible first|apply aa.skip|apply aa.exit|apply aa.ret|apply ai|apply aA|apply az)
|((with_reducible apply aa.ak);(case hc=>exact rfl))
|((with_reducible apply ab.aw);(case hp=>exact ae))
|(with_reducible apply ab.af)
|((with_reducible apply ab.u0);(case hx=>first
|(exact ld [0] y)
|(exact ld [0] U)
|exact ac))
|fail)
     exact⟨.inr rfl,AJ h1⟩
    ·
     repeat'(first
|(with_reducible apply aa.seq)
|((with_reducible apply aa.text);(try case hm=>exact rfl))
|(with_reducible first|apply aa.skip|apply aa.exit|apply aa.ret|apply ai|apply aA|apply az)
|((with_reducible apply aa.ak);(case hc=>exact rfl))
|((with_reducible apply ab.aw);(case hp=>exact ae))
|(with_reducible apply ab.af)
|((with_reducible apply ab.u0);(case hx=>first
|(exact ld [0] y)
|(exact ld [0] U)
|exact ac))
|fail)
     exact⟨.inr rfl,AJ h1⟩
end Go.Proofs.YtgbfedgghjcdcaaGreatDoor
