/- The reference's ranges,and the table and the tuple of a. No condition. -/
import Derived.Test.YtgbfedgghjcdcaaGreatDoorME
import Derived.Test.YtgbfedgghjcdcaaGreatDoorTS
import Derived.Test.YtgbfedgghjcdcaaGreatDoorTD
set_option linter.all false
namespace Go.Proofs.YtgbfedgghjcdcaaGreatDoor
open Go.RowKit
set_option maxRecDepth 100000
set_option maxHeartbeats 16000000
def GA(l m:List (Int×Int)):fI l++fI m=fI (l++m):=by unfold fI;rw[List.map_append]
def EW{n:Nat}(h:n<=4000):bD n 16=true:=by simp[bD];omega
def gQ(S:List Int)(L:List Tb)(s:Bool)(q k:Nat)(t:Tb):List (Int×Int):=(L.take q).flatMap (e9 S s)++List.replicate k (t.lo,t.hi)
def GN{S:List Int}{L:List Tb}{s:Bool}{q k:Nat}{t:Tb}:gQ S L s q k t++[(t.lo,t.hi)]=gQ S L s q (k+1) t:=by
 unfold gQ;rw[vg,List.append_assoc]
def GL{S:List Int}{L:List Tb}{s:Bool}{q k:Nat}{t:Tb}(ht:L[q]?=some t)(hs:bz t.kind=s)(hk:(bp S t.aB).toNat=k):gQ S L s q k t=(L.take (q+1)).flatMap (e9 S s):=by
 unfold gQ;rw[ng ht];unfold e9;rw[if_pos hs,hk]
def GM{S:List Int}{L:List Tb}{s:Bool}{q:Nat}{t:Tb}(ht:L[q]?=some t)(hs:bz t.kind≠s):(L.take q).flatMap (e9 S s)=(L.take (q+1)).flatMap (e9 S s):=by
 rw[ng ht];unfold e9;rw[if_neg hs,List.append_nil]
def G0{S:List Int}{L:List Tb}(s:Bool)(hS:S.length<=140737488351232)(hL:L.length<=140737488351232)(hC:∀t∈L,t.aB.length<=140737488351232):Cl ap 172 [.t (aF S),.t (.arr (cR L)),.t (.bool s)] [] (.ls 0) [.row false false 2 (fI (dA S L s))]:=by
 have G:=vj hS hL hC;have al:=bC S;have ag:=gV L
 cases hv:ce S L with
 |false=>
  have hr:dA S L s=[]:=by unfold dA;rw[hv];rfl
  rw[hv]at G;rw[hr];refine Cl.aE rfl Tryz.func172 rfl rfl rfl ?_
  repeat'(first
|(with_reducible apply aa.seq)
|((with_reducible apply aa.text);(try case hm=>exact rfl))
|(with_reducible first|apply aa.ret|apply ay)
|((with_reducible apply aa.am);(case hc=>exact rfl))
|(with_reducible apply ab.af)
|((with_reducible apply ab.u0);(case hx=>first
|(exact aj G)
|exact ac))
|fail)
  exact⟨.inr rfl,rfl⟩
 |true=>
  have hr:dA S L s=L.flatMap (e9 S s):=by unfold dA;rw[hv];rfl
  have ad:=k_ hv;rw[hv]at G;rw[hr];refine Cl.aE rfl Tryz.func172 rfl rfl rfl ?_
  repeat'(first
|(with_reducible first|apply aa.seq|apply aa.block)
|((with_reducible apply aa.text);(try case hm=>exact rfl))
|(with_reducible first|apply aa.skip|apply ai)
|((with_reducible apply aa.ak);(case hc=>exact rfl))
|(with_reducible apply ab.af)
|((with_reducible apply ab.u0);(case hx=>first
|(exact aj G)
|exact ac))
|fail)
  apply aa.aM
  case ho=>exact rfl
  case hp=>exact rfl
  case hl=>exact rfl
  case hs=>exact slt
  refine aI.cd (fun x:Nat×Bool=>[(7,.ls 0),(8,.t (.int .i64 (x.1:Int)))]) (fun x=>[.row false x.2 2 (fI ((L.take x.1).flatMap (e9 S s)))]) (fun x=>x.1<=L.length) (fun x=>L.length - x.1) (0,false) rfl rfl (by simp) (fun x hq=>?_);obtain⟨q,z⟩:=x;dsimp only at hq⊢;rcases Nat.lt_or_ge q L.length with h3|h3
  ·
   obtain⟨t,ht⟩:=av h3;have hc:=fZ ht;have Z:=rI (S:=S) (C:=t.aB) hS (hC t (List.mem_of_getElem? ht));have v:=rM t.kind;have J:=jI S t.aB;have an:=GO S s (L.take q);have aq:(L.take q).length<=12:=by simp;omega
   by_cases hs:bz t.kind=s
   ·
    rw[hs]at v;obtain⟨N,hN⟩:∃N,(bp S t.aB).toNat=N:=⟨_,rfl⟩;have I:bp S t.aB=(N:Int):=by omega
    have y:=GL ht hs hN;rw[I]at Z J;have h0:(L.take q).flatMap (e9 S s)=gQ S L s q 0 t:=by unfold gQ;simp
    rw[h0];have O:∀k,(gQ S L s q k t).length<=2592+k:=fun k=>by unfold gQ;rw[List.length_append,List.length_replicate];omega
    repeat'(first
|(with_reducible first|apply aa.seq|apply aa.block)
|((with_reducible apply aa.text);(try case hm=>exact rfl))
|(with_reducible first|apply aa.skip|apply ai)
|((with_reducible apply aa.am);(case hc=>exact rfl))
|((with_reducible apply ab.ao);(case hp=>exact ae))
|(with_reducible apply ab.af)
|((with_reducible apply ab.u0);(case hx=>exact ac))
|fail)
    apply aa.aM
    case ho=>exact rfl
    case hp=>exact rfl
    case hl=>exact rfl
    case hs=>exact slt
    refine aI.cd (fun x:Nat×Bool=>[(7,.ls 0),(9,.t (.int .i64 (x.1:Int)))]) (fun x=>[.row false x.2 2 (fI (gQ S L s q x.1 t))]) (fun x=>x.1<=N) (fun x=>N - x.1) (0,z) rfl rfl (by simp) (fun x hk=>?_);obtain⟨k,D⟩:=x;dsimp only at hk⊢;rcases Nat.lt_or_ge k N with h4|h4
    ·
     have U:fI (gQ S L s q k t)++[[.int .i64 t.lo,.int .i64 t.hi]]=fI (gQ S L s q (k+1) t):=by rw[<- GN];exact GA _ [(t.lo,t.hi)]
     have Q:bD ((fI (gQ S L s q k t)).length+1) 16=true:=by
      have:=O k;rw[vi];exact EW (by omega)
     cases s <;>
     repeat'(first
|(with_reducible first|apply aa.seq|apply aa.block)
|((with_reducible apply aa.text);(try case hm=>exact rfl))
|(with_reducible first|apply aa.skip|apply ai)
|((with_reducible apply aa.am);(case hc=>exact rfl))
|((with_reducible apply ab.bh);(case hp=>exact ae))
|(with_reducible first|apply ab.af|apply ab.bM)
|((with_reducible apply ab.u);(case hx=>((with_reducible apply ah.dI);(case hs=>exact fun _=>rfl);(case ha|ht=>exact rfl);(case hr=>first|(with_reducible exact dB)|(with_reducible exact dC)|(with_reducible exact dD)|(with_reducible exact rw3)|(with_reducible exact rw4)|exact rfl);(case hx|hy|hn|hb|hok=>exact rfl);(case hlen=>exact Q);(case hv=>exact U);(case hk=>exact dL);(case hf=>exact leq))))
|((with_reducible apply ab.au);(case hW=>exact rfl);(case hx=>first
|(exact aj Z)
|exact ac))
|((with_reducible apply ab.u0);(case hx=>first
|(exact aj v)
|exact ac))
|fail)
     all_goals exact⟨(k+1,true),rfl,rfl,by dsimp only;omega,by dsimp only;omega⟩
    ·
     obtain rfl:k=N:=by omega
     rw[y];cases s <;>
     repeat'(first
|(with_reducible apply aa.seq)
|((with_reducible apply aa.text);(try case hm=>exact rfl))
|(with_reducible first|apply aa.exit|apply ai|apply aA|apply aG|apply az)
|((with_reducible apply aa.ak);(case hc=>exact rfl))
|((with_reducible apply ab.aV);(case hp=>exact ae))
|(with_reducible apply ab.af)
|((with_reducible apply ab.au);(case hW=>exact rfl);(case hx=>first
|(exact aj Z)
|exact ac))
|((with_reducible apply ab.u0);(case hx=>first
|(exact aj v)
|exact ac))
|fail)
     all_goals exact⟨(q+1,D),rfl,rfl,by dsimp only;omega,by dsimp only;omega⟩
   ·
    have V:bz t.kind=!s:=by cases s <;>simp_all
    rw[V]at v;rw[GM ht hs]
    repeat'(first
|(with_reducible first|apply aa.seq|apply aa.block)
|((with_reducible apply aa.text);(try case hm=>exact rfl))
|(with_reducible first|apply aa.skip|apply ai)
|((with_reducible apply aa.am);(case hc=>exact rfl))
|((with_reducible apply ab.ao);(case hp=>exact ae))
|(with_reducible apply ab.af)
|((with_reducible apply ab.u0);(case hx=>exact ac))
|fail)
    apply aa.aM
    case ho=>exact rfl
    case hp=>exact rfl
    case hl=>exact rfl
    case hs=>exact slt
    refine aI.step ?_;cases s <;>
    repeat'(first
|(with_reducible apply aa.seq)
|((with_reducible apply aa.text);(try case hm=>exact rfl))
|(with_reducible first|apply aa.exit|apply ai|apply aA|apply aG|apply az)
|((with_reducible apply aa.ak);(case hc=>exact rfl))
|(with_reducible apply ab.af)
|((with_reducible apply ab.gf);(case hW=>exact rfl))
|((with_reducible apply ab.u0);(case hx=>first
|(exact aj v)
|exact ac))
|fail)
    all_goals exact⟨(q+1,z),rfl,rfl,by dsimp only;omega,by dsimp only;omega⟩
  ·
   rw[List.take_of_length_le h3]
   repeat'(first
|(with_reducible apply aa.seq)
|((with_reducible apply aa.text);(try case hm=>exact rfl))
|(with_reducible first|apply aa.exit|apply aa.ret|apply ai|apply aA|apply az)
|((with_reducible apply aa.ak);(case hc=>exact rfl))
|((with_reducible apply ab.aw);(case hp=>exact ae))
|(with_reducible apply ab.af)
|((with_reducible apply ab.u0);(case hx=>exact ac))
|fail)
   exact⟨.inr rfl,rfl⟩
end Go.Proofs.YtgbfedgghjcdcaaGreatDoor
