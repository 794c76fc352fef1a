/- Law 32: closed lists of events,as the reference tells them. No condition. -/
import Derived.Test.YtgbfedgghjcdcaaGreatDoorTKA
import Derived.Test.YtgbfedgghjcdcaaGreatDoorTK
import Derived.Test.YtgbfedgghjcdcaaGreatDoorTW
import Derived.Test.YtgbfedgghjcdcaaGreatDoorTS
set_option linter.all false
namespace Go.Proofs.YtgbfedgghjcdcaaGreatDoor
open Go.RowKit
set_option maxRecDepth 100000
set_option maxHeartbeats 16000000
structure wa (l:List Ev) (m q:Nat):Prop where
 form:∀k e,k <q->l[k]?=some e->bU e=true
 alike:∀k e,k <q->l[k]?=some e->e.past.length=m
 names:∀k j e x,k <q->l[k]?=some e->l[j]?=some x->k≠j->nm x≠nm e
 DY:∀k e,k <q->l[k]?=some e->wb l e
def wa.all{l:List Ev}{m:Nat}(Q:l.length<=1024)(h:wa l m l.length):ClosedP l:=by
 have u:∀e∈l,∃k,k <l.length/\l[k]?=some e:=fun e v=>by
  obtain⟨k,D⟩:=List.mem_iff_getElem?.1 v;exact⟨k,aC D,D⟩
 refine(CE Q (fun e v=>?_) (fun e v x O=>?_) ?_).2 (fun e v=>?_)
 ·obtain⟨k,h1,h2⟩:=u e v;exact h.form k e h1 h2
 ·obtain⟨k,h1,h2⟩:=u e v;obtain⟨j,h3,h4⟩:=u x O;rw[h.alike k e h1 h2,h.alike j x h3 h4]
 ·rw[List.Nodup,List.pairwise_iff_getElem];intro i j G J I;rw[List.getElem_map,List.getElem_map];have z:i <l.length:=by simpa using G
  have y:j <l.length:=by simpa using J
  exact h.names j i _ _ y (List.getElem?_eq_getElem y) (List.getElem?_eq_getElem z) (by omega)
 ·obtain⟨k,h1,h2⟩:=u e v;exact h.DY k e h1 h2
def yE(l:List Ev):cP 13 (br l)=true:=by
 unfold cP br;simp[dh,mi,aF]
def C_{e:Ev}{l:List Ev}(hl:l.length<=1000):Cl ap 27 [.t (.arr (br (e::l)))] [] (.ls 0) [.row false false 13 (br (e::l))]:=by
 refine Cl.ext (xs:=[.arr (br (e::l))]) (by kernel_rfl) rfl ?_;have h1:=yE (e::l);have h2:Nat.ble (br l).length 999999=true:=by rw[lW,Nat.ble_eq];omega
 show oY 27 [.arr (dh e::br l)]=_
 have h3:cP 13 (dh e::br l)=true:=h1
 have y:qo (dh e::br l)=some (.ls 0,[.row false false 13 (br (e::l))]):=by
  show(match cP 13 (dh e::br l)&&Nat.ble (br l).length 999999 with|true=>some (SV.ls 0,[Lb.row false false 13 (dh e::br l)])|false=>none)=_
  rw[h3,h2];rfl
 have u:oZ 27 [.arr (dh e::br l)]=qo (dh e::br l):=rfl;have v:qB 27 [.arr (dh e::br l)]=none:=rfl;unfold oY;rw[v];show oZ _ _=_
 rw[u,y]
def A5{m:Nat}(h1:1<=m)(u:m<=5):Cl ap 73 [.t (.int .i64 (m:Int))] [] (.ls 0) [.row false false 1 (aW (List.replicate m 0))]:=by
 have:m=1\/m=2\/m=3\/m=4\/m=5:=by omega
 rcases this with rfl|rfl|rfl|rfl|rfl <;>exact⟨4,by kernel_rfl⟩
def C9{l:List Ev}{m:Nat}(I:ClosedP l)(hm:∀e∈l,e.past.length=m)(h1:1<=m)(h5:m<=5)
 :Cl ap 25 [.t (.int .i64 (m:Int)),.t (.arr (br l))] [] (.t (.aL [aF (cm m l),.int .i64 0])) []:=by
 have V:=I.iQ;have ad:=lW l;have kz:=A5 h1 h5;have Z:=wU (l:=l) (by omega) (fun e y=>by rw[hm e y];omega);rw[wT I]at Z;have G:aW (List.replicate m 0)=aW (cm m (l.take 0)):=rfl
 obtain⟨z,zs,hz⟩:∃z zs,aW (List.replicate m 0)=z::zs:=by
  obtain⟨k,rfl⟩:∃k,m=k+1:=⟨m - 1,by omega⟩;exact⟨_,_,rfl⟩
 rw[hz]at kz G;refine Cl.fS rfl Tryz.func25 rfl rfl rfl ?_
 repeat'(first
|(with_reducible first|apply aa.seq|apply aa.block)
|((with_reducible apply aa.text);(try case hm=>exact rfl))
|(with_reducible first|apply aa.skip|apply ai)
|((with_reducible apply aa.ak);(case hc=>exact rfl))
|(with_reducible apply ab.af)
|((with_reducible apply ab.au);(case hW=>exact rfl);(case hx=>first
|(exact aj Z)
|exact ac))
|((with_reducible apply ab.u0);(case hx=>first
|(exact dy kz)
|exact ac))
|fail)
 apply aa.aM
 case ho=>exact rfl
 case hp=>exact rfl
 case hl=>exact rfl
 case hs=>exact slt
 refine aI.cd (fun k:Nat=>[(20,.t (.int .i64 (k:Int)))]) (fun k=>[.row false false 1 (aW (cm m (l.take k)))]) (fun k=>k<=l.length) (fun k=>l.length - k) 0 rfl (by rw[G]) (by omega) (fun k hk=>?_);rcases Nat.lt_or_ge k l.length with h3|h3
 ·
  obtain⟨e,y⟩:=av h3;have u:=List.mem_of_getElem? y;have hc:=iP y;have an:=hm e u;have al:=bC e.past;obtain⟨r0,r1,_,_⟩:=qI (I.form e u);have D:=Cp (m:=m) y;have O:=lN m (l.take k);obtain⟨c,J⟩:∃c,cm m (l.take k)=c:=⟨_,rfl⟩;rw[J]at D O⊢;obtain⟨v,hv⟩:=av (xs:=c) (k:=e.r.toNat) (by omega);have Q:=bB hv;have ag:=bC c
  have U:(aW c).set e.r.toNat [.int .i64 (max v e.n)]=aW (cm m (l.take (k+1))):=by
   rw[D,j1,dt hv];simp[aW,List.map_set]
  repeat'(first
|(with_reducible first|apply aa.seq|apply aa.block)
|((with_reducible apply aa.text);(try case hm=>exact rfl))
|((with_reducible apply aa.drawn);(case hm=>exact rfl))
|(with_reducible first|apply aa.skip|apply ai)
|((with_reducible apply aa.am);(case hc=>exact rfl))
|((with_reducible apply aa.ak);(case hc=>exact rfl))
|((with_reducible apply ab.ao);(case hp=>exact ae))
|((with_reducible apply ab.cz);(case hp=>exact ae))
|(with_reducible first|apply ab.af|apply ab.bM)
|((with_reducible apply ab.u0);(case hx=>first
|((with_reducible apply ah.vM);(case hs=>exact fun _=>rfl);(case ha|hy|ht|hone=>exact rfl);(case hn=>kernel_rfl);(case hb=>exact rfl);(case hk=>exact Q);(case hj=>exact rfl);(case hv=>exact U);(case hf=>exact leq))
|exact ac))
|fail)
  refine⟨k+1,rfl,rfl,by omega,by omega⟩
 ·
  rw[List.take_of_length_le h3]
  repeat'(first
|(with_reducible apply aa.seq)
|((with_reducible apply aa.text);(try case hm=>exact rfl))
|(with_reducible first|apply aa.exit|apply aa.ret|apply ai|apply aA|apply az)
|((with_reducible apply aa.ak);(case hc=>exact rfl))
|((with_reducible apply ab.aw);(case hp=>exact ae))
|(with_reducible apply ab.af)
|((with_reducible apply ab.u0);(case hx=>exact ac))
|fail)
  exact⟨.inr rfl,rfl⟩
end Go.Proofs.YtgbfedgghjcdcaaGreatDoor
