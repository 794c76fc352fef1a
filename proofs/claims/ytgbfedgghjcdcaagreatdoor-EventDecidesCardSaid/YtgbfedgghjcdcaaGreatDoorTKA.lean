/- Law 32: events before others,clocks that contain others. No condition. -/
import Derived.Test.YtgbfedgghjcdcaaGreatDoorTD
import Derived.Test.YtgbfedgghjcdcaaGreatDoorTW
import Derived.Test.YtgbfedgghjcdcaaGreatDoorTS
set_option linter.all false
namespace Go.Proofs.YtgbfedgghjcdcaaGreatDoor
open Go.RowKit
set_option maxRecDepth 100000
set_option maxHeartbeats 8000000
def qz(e:Ev):dX e=.agg [.int .i64 e.r,.int .i64 e.n,.int .i64 e.t,aF e.past,.int .i64 e.k,.int .i64 e.a,.int .i64 e.gk,.int .i64 e.gi,.int .i64 e.ge,.int .i64 e.ga,.int .i64 e.to,.int .i64 e.pl,.int .i64 e.se]:=rfl
def yz(e:Ev):Cl ap 59 [.t (dX e)] [] (.t (.agg [.int .i64 e.r,.int .i64 e.n])) []:=by
 rw[qz];refine Cl.aE rfl Tryz.func59 rfl rfl rfl ?_
 repeat'(first
|(with_reducible apply aa.seq)
|((with_reducible apply aa.text);(try case hm=>exact rfl))
|(with_reducible first|apply aa.ret|apply ab.af)
|((with_reducible apply ab.u0);(case hx=>exact ac))
|fail)
 exact⟨.inr rfl,rfl⟩
def CR{a b:List Int}(ha:a.length<=140737488351232)(hb:b.length<=140737488351232):Cl ap 83 [.t (aF a),.t (aF b)] [] (.t (.bool (ia [a,b]&&eY a b))) []:=by
 have u:=CL ha hb;refine Cl.aE rfl Tryz.func83 rfl rfl rfl ?_
 cases h1:ia [a,b]with
 |false=>
  have e:fP a b=(0,1):=by unfold fP;rw[h1];rfl
  rw[e]at u
  repeat'(first
|(with_reducible apply aa.seq)
|((with_reducible apply aa.text);(try case hm=>exact rfl))
|(with_reducible apply aa.ret)
|((with_reducible apply ab.aw);(case hp=>exact ae))
|(with_reducible apply ab.af)
|((with_reducible apply ab.gf);(case hW=>exact rfl))
|((with_reducible apply ab.u0);(case hx=>first
|(exact aj u)
|exact ac))
|fail)
  exact⟨.inr rfl,rfl⟩
 |true=>
  cases h2:eY a b with
  |false=>
   cases h3:eY b a with
   |false=>
    have e:fP a b=(3,0):=by unfold fP;rw[h1,h2,h3];rfl
    rw[e]at u
    repeat'(first
|(with_reducible apply aa.seq)
|((with_reducible apply aa.text);(try case hm=>exact rfl))
|(with_reducible apply aa.ret)
|((with_reducible apply ab.ao);(case hp=>exact ae))
|((with_reducible apply ab.aV);(case hp=>exact ae))
|(with_reducible apply ab.af)
|((with_reducible apply ab.au);(case hW=>exact rfl);(case hx=>exact ac))
|((with_reducible apply ab.u0);(case hx=>first
|(exact aj u)
|exact ac))
|fail)
    exact⟨.inr rfl,rfl⟩
   |true=>
    have e:fP a b=(2,0):=by unfold fP;rw[h1,h2,h3];rfl
    rw[e]at u
    repeat'(first
|(with_reducible apply aa.seq)
|((with_reducible apply aa.text);(try case hm=>exact rfl))
|(with_reducible apply aa.ret)
|((with_reducible apply ab.ao);(case hp=>exact ae))
|((with_reducible apply ab.aV);(case hp=>exact ae))
|(with_reducible apply ab.af)
|((with_reducible apply ab.au);(case hW=>exact rfl);(case hx=>exact ac))
|((with_reducible apply ab.u0);(case hx=>first
|(exact aj u)
|exact ac))
|fail)
    exact⟨.inr rfl,rfl⟩
  |true=>
   cases h3:eY b a with
   |false=>
    have e:fP a b=(1,0):=by unfold fP;rw[h1,h2,h3];rfl
    rw[e]at u
    repeat'(first
|(with_reducible apply aa.seq)
|((with_reducible apply aa.text);(try case hm=>exact rfl))
|(with_reducible apply aa.ret)
|((with_reducible apply ab.ao);(case hp=>exact ae))
|((with_reducible apply ab.bh);(case hp=>exact ae))
|((with_reducible apply ab.aV);(case hp=>exact ae))
|(with_reducible apply ab.af)
|((with_reducible apply ab.au);(case hW=>exact rfl);(case hx=>exact ac))
|((with_reducible apply ab.u0);(case hx=>first
|(exact aj u)
|exact ac))
|fail)
    exact⟨.inr rfl,rfl⟩
   |true=>
    have e:fP a b=(0,0):=by unfold fP;rw[h1,h2,h3];rfl
    rw[e]at u
    repeat'(first
|(with_reducible apply aa.seq)
|((with_reducible apply aa.text);(try case hm=>exact rfl))
|(with_reducible apply aa.ret)
|((with_reducible apply ab.ao);(case hp=>exact ae))
|((with_reducible apply ab.bh);(case hp=>exact ae))
|(with_reducible apply ab.af)
|((with_reducible apply ab.gf);(case hW=>exact rfl))
|((with_reducible apply ab.au);(case hW=>exact rfl);(case hx=>exact ac))
|((with_reducible apply ab.u0);(case hx=>first
|(exact aj u)
|exact ac))
|fail)
    exact⟨.inr rfl,rfl⟩
def C8(a b:Ev)(hb:b.past.length<=140737488351232):Cl ap 56 [.t (dX a),.t (dX b)] [] (.t (.bool (hasS b.past a.r a.n))) []:=by
 have v:=yz a;have u:=D5 (a:=b.past) (r:=a.r) (n:=a.n) hb;rw[qz b];refine Cl.aE rfl Tryz.func56 rfl rfl rfl ?_
 repeat'(first
|(with_reducible apply aa.seq)
|((with_reducible apply aa.text);(try case hm=>exact rfl))
|((with_reducible apply aa.drawn);(case hm=>exact rfl))
|(with_reducible first|apply aa.ret|apply ab.af)
|((with_reducible apply ab.u0);(case hx=>first
|(exact aj v)
|(exact aj u)
|exact ac))
|fail)
 exact⟨.inr rfl,rfl⟩
set_option maxHeartbeats 16000000
def kA:iy ap.P 125=none:=by kernel_rfl
def kC:la ap.P 125=some (36,101,2):=by kernel_rfl
def br(l:List Ev):List (List AV):=l.map dh
def lW(l:List Ev):(br l).length=l.length:=List.length_map _
def iP{l:List Ev}{k:Nat}{e:Ev}(h:l[k]?=some e):(br l)[k]?=some [.int .i64 e.r,.int .i64 e.n,.int .i64 e.t,aF e.past,.int .i64 e.k,.int .i64 e.a,.int .i64 e.gk,.int .i64 e.gi,.int .i64 e.ge,.int .i64 e.ga,.int .i64 e.to,.int .i64 e.pl,.int .i64 e.se]:=by
 unfold br;rw[List.getElem?_map,h];rfl
def lc(l:List Ev):List AV:=l.map fun e=>.agg [.int .i64 e.r,.int .i64 e.n]
def ik(l:List Ev):List SV:=l.map fun e=>.t (dX e)
def Dr(l:List Ev):ik l=(l.map dX).map .t:=by simp[ik]
def nk{σ:Nat->Option Nat}{ks:List AV}{l:List Ev}{bs u:Fr}(h:bs=u):(Lb.map false ks (SV.ca σ (ik l))::bs)=Lb.map false ks (ik l)::u:=by rw[Dr,r6,h]
def tH(a b u v:Int):gF ap.P 20 101 [.int .i64 a,.int .i64 b] [.int .i64 u,.int .i64 v]=some (decide (a=u)&&(decide (b=v)&&true)):=by kernel_rfl
theorem ui{r n:Int}:∀(l:List Ev) (i:Nat),(∀e∈l,nm e≠(r,n))->fx ap.P 101 [.int .i64 r,.int .i64 n] (lc l) i=some none
 |[],i,_=>rfl
 |e::l,i,h=>by
  have v:=h e (by simp)
  have:(decide (r=e.r)&&(decide (n=e.n)&&true))=false:=by
   rw[<- Bool.not_eq_true];intro u;simp only[Bool.and_eq_true,decide_eq_true_eq,and_true]at u;exact v (by simp[nm,u.1,u.2])
  show fx ap.P _ _ (.agg [.int .i64 e.r,.int .i64 e.n]::lc l) i=_
  unfold fx;simp only[tH,this];exact ui l (i+1) (fun x y=>h x (by simp[y]))
theorem uj{r n:Int}:∀(l:List Ev) (i k:Nat) (e:Ev),l[k]?=some e->nm e=(r,n)->(l.map nm).Nodup->fx ap.P 101 [.int .i64 r,.int .i64 n] (lc l) i=some (some (i+k))
 |[],_,k,e,h,_,_=>by simp at h
 |x::l,i,k,e,h,u,y=>by
  rw[List.map_cons,List.nodup_cons]at y;show fx ap.P _ _ (.agg [.int .i64 x.r,.int .i64 x.n]::lc l) i=_
  unfold fx
  cases k with
  |zero=>
   have h:x=e:=by simpa using h
   subst h;simp only[nm,Prod.mk.injEq]at u;have:(decide (r=x.r)&&(decide (n=x.n)&&true))=true:=by simp[u.1,u.2]
   simp only[tH,this];rfl
  |succ k=>
   have z:l[k]?=some e:=by simpa using h
   have:(decide (r=x.r)&&(decide (n=x.n)&&true))=false:=by
    rw[<- Bool.not_eq_true];intro v;simp only[Bool.and_eq_true,decide_eq_true_eq,and_true]at v;exact y.1 (List.mem_map.2 ⟨e,List.mem_of_getElem? z,by rw[u];simp[nm,v.1,v.2]⟩)
   simp only[tH,this];rw[uj l (i+1) k e z u y.2];congr 2;omega
def FD{l:List Ev}(hn:(l.map nm).Nodup){i j:Nat}{x y:Ev}(hi:l[i]?=some x)(hj:l[j]?=some y)(u:i <j):nm x≠nm y:=by
 obtain⟨h1,rfl⟩:=List.getElem?_eq_some_iff.1 hi;obtain⟨h2,rfl⟩:=List.getElem?_eq_some_iff.1 hj;have:=List.pairwise_iff_getElem.1 hn i j (by simpa using h1) (by simpa using h2) u;simpa using this
def zE:mB ap.P 36=some (.agg [.t (.int .i64 0),.t (.int .i64 0),.t (.int .i64 0),.nil,.t (.int .i64 0),.t (.int .i64 0),.t (.int .i64 0),.t (.int .i64 0),.t (.int .i64 0),.t (.int .i64 0),.t (.int .i64 0),.t (.int .i64 0),.t (.int .i64 0)]):=by kernel_rfl
def Fm{α:Type}{l:List α}{i:Nat}{x:α}(h:x∈l.take i):∃k,k <i/\l[k]?=some x:=by
 obtain⟨k,u⟩:=List.mem_iff_getElem?.1 h;rw[List.getElem?_take]at u;split at u
 ·exact⟨k,by assumption,u⟩
 ·cases u
def oh{α:Type}{l:List α}{q:Nat}{x:α}(h:l[q]?=some x):l.take (q+1)=l.take q++[x]:=by
 rw[List.take_add_one,h];rfl
structure lB (l:List Ev) (m q:Nat):Prop where
 form:∀e∈l.take q,bU e=true
 alike:∀e∈l.take q,e.past.length=m
 names:((l.take q).map nm).Nodup
def lB.zero(l:List Ev)(m:Nat):lB l m 0:=⟨fun e h=>by simp at h,fun e h=>by simp at h,by simp⟩
def lB.step{l:List Ev}{m q:Nat}{e:Ev}(h:lB l m q)(he:l[q]?=some e)(hf:bU e=true)(ha:e.past.length=m)(hn:∀x∈l.take q,nm x≠nm e):lB l m (q+1) where
 form:=fun x u=>by
  rw[oh he,List.mem_append,List.mem_singleton]at u;rcases u with u|rfl
  ·exact h.form x u
  ·exact hf
 alike:=fun x u=>by
  rw[oh he,List.mem_append,List.mem_singleton]at u;rcases u with u|rfl
  ·exact h.alike x u
  ·exact ha
 names:=by
  rw[oh he,List.map_append,List.nodup_append];refine⟨h.names,by simp,fun a ha b v=>?_⟩;obtain⟨x,u,rfl⟩:=List.mem_map.1 ha;simp only[List.map_cons,List.map_nil,List.mem_singleton]at v;subst v;exact hn x u
def Bi{a b:List Int}(ha:cG a=true)(hb:cG b=true)(h:a.length=b.length):ia [a,b]=true:=by
 simp[ia,mJ,ha,hb,h]
def Dn(l:List Ev)(e:Ev)(r n:Int):Prop:=∃x∈l,nm x=(r,n)/\eY x.past e.past=true/\x.t <e.t
def D4{c:List Int}{k:Nat}{n m:Int}(hv:cG c=true)(hk:c[k]?=some m)(h1:1<=n)(h2:n<=m):hasS c (k:Int) n=true:=by
 have h3:=aC hk;have h4:=dt hk;simp only[hasS,hv,Bool.true_and,Bool.and_eq_true,decide_eq_true_eq,Int.toNat_natCast,h4];exact⟨by omega,by omega,h1,h2⟩
def xA{c:List Int}{r n:Int}(h:hasS c r n=true):∃(k:Nat) (m:Int),r=k/\c[k]?=some m/\1<=n/\n<=m:=by
 simp only[hasS,Bool.and_eq_true,decide_eq_true_eq]at h;obtain⟨_,v,h1,h2,h3⟩:=h;obtain⟨m,u⟩:=av (xs:=c) (k:=r.toNat) (by omega);rw[dt u]at h3;exact⟨r.toNat,m,by omega,u,h2,h3⟩
def wU{l:List Ev}(hl:l.length<=140737488351232)(hp:∀e∈l,e.past.length<=140737488351232):Cl ap 37 [.t (.arr (br l))] [] (.t (.bool (fv l))) []:=by
 have bk:=lW l;refine Cl.aE rfl Tryz.func37 rfl rfl rfl ?_;by_cases al:l.length<=1024
 ·
  obtain⟨m,hm⟩:∃m,(l.headD ⟨0,0,0,[],0,0,0,0,0,0,0,0,0⟩).past.length=m:=⟨_,rfl⟩
  repeat'(first
|(with_reducible first|apply aa.seq|apply aa.block)
|((with_reducible apply aa.text);(try case hm=>exact rfl))
|(with_reducible first|apply aa.skip|apply ai)
|((with_reducible apply aa.ak);(case hc=>exact rfl))
|((with_reducible apply ab.aw);(case hp=>exact ae))
|(with_reducible apply ab.af)
|((with_reducible apply ab.u0);(case hx=>exact ac))
|fail)
  apply aa.aM
  case ho=>exact rfl
  case hp=>exact rfl
  case hl=>exact rfl
  case hs=>exact slt
  refine aI.cd (fun q:Nat=>[(21,.t (.int .i64 (q:Int)))]) (fun q=>[.map false (lc (l.take q)) (ik (l.take q))]) (fun q=>q<=l.length/\lB l m q) (fun q=>l.length - q) 0 rfl rfl ⟨by omega,lB.zero l m⟩ (fun q hq=>?_);obtain⟨h1,h2⟩:=hq;rcases Nat.lt_or_ge q l.length with h3|h3
  ·
   obtain⟨e,O⟩:=av h3;have v:=List.mem_of_getElem? O;have hc:=iP O;have kn:=yz e;have kf:=xu e (hp e v);obtain⟨e0,aq⟩:=av (xs:=l) (k:=0) (by omega);have bf:=iP aq;have bl:e0.past.length=m:=by rw[<- hm,List.headD_eq_head?_getD,List.head?_eq_getElem?,aq];rfl
   have a_:=bC e.past;have be:=bC e0.past;by_cases hd:∃x∈l.take q,nm x=nm e
   ·
    obtain⟨x,hx,aQ⟩:=hd;obtain⟨k,hk,aN⟩:=Fm hx;have aL:(l.take q)[k]?=some x:=by rw[List.getElem?_take,if_pos hk,aN]
    have u:=uj (r:=e.r) (n:=e.n) (l.take q) 0 k x aL aQ h2.names;have I:(ik (l.take q))[0+k]?=some (.t (dX x)):=by rw[Nat.zero_add];unfold ik;rw[List.getElem?_map,aL];rfl
    have J:fv l=false:=oP fun h=>by
     have hN:=h.names;have h4:=FD hN aN O hk;exact h4 aQ
    rw[J]
    repeat'(first
|(with_reducible first|apply aa.seq|apply aa.block)
|((with_reducible apply aa.text);(try case hm=>exact rfl))
|((with_reducible apply aa.drawn);(case hm=>exact rfl))
|(with_reducible first|apply aa.skip|apply aa.ret|apply ai|apply ay|apply aO)
|((with_reducible apply aa.am);(case hc=>exact rfl))
|((with_reducible apply ab.ao);(case hp=>exact ae))
|(with_reducible apply ab.af)
|((with_reducible apply ab.gf);(case hW=>exact rfl))
|((with_reducible apply ab.u0);(case hx=>first
|((with_reducible apply ah.ra);(case h0=>exact kA);(case hm=>exact kC);(case hk|hn|ho=>exact rfl);(case hf=>exact u);(case hz=>exact I);(case hv=>exact rfl))
|(exact aj kn)
|exact ac))
|fail)
    all_goals exact⟨.inr rfl,rfl⟩
   ·
    have u:=ui (r:=e.r) (n:=e.n) (l.take q) 0 (fun x hx h=>hd ⟨x,hx,h⟩);have hks:lc (l.take q)++[.agg [.int .i64 e.r,.int .i64 e.n]]=lc (l.take (q+1)):=by rw[oh O];simp[lc]
    have hvs:ik (l.take q)++[.t (dX e)]=ik (l.take (q+1)):=by rw[oh O];simp[ik]
    cases Z:bU e with
    |false=>
     rw[Z]at kf
     have J:fv l=false:=oP fun h=>by
      have:=h.form e v;rw[Z]at this;cases this
     rw[J]
     repeat'(first
|(with_reducible first|apply aa.seq|apply aa.block)
|((with_reducible apply aa.text);(try case hm=>exact rfl))
|((with_reducible apply aa.drawn);(case hm=>exact rfl))
|(with_reducible first|apply aa.skip|apply aa.ret|apply ai|apply ay|apply aO)
|((with_reducible apply aa.am);(case hc=>exact rfl))
|((with_reducible apply ab.ao);(case hp=>exact ae))
|(with_reducible apply ab.af)
|((with_reducible apply ab.gf);(case hW=>exact rfl))
|((with_reducible apply ab.au);(case hW=>exact rfl);(case hx=>first
|(exact aj kf)
|exact ac))
|((with_reducible apply ab.u0);(case hx=>first
|((with_reducible apply ah.rb);(case h0=>exact kA);(case hm=>exact kC);(case hk|hn|ho=>exact rfl);(case hf=>exact u);(case hz=>exact zE);(case hv=>exact rfl))
|(exact aj kn)
|exact ac))
|fail)
     all_goals exact⟨.inr rfl,rfl⟩
    |true=>
     rw[Z]at kf;by_cases bc:e.past.length=e0.past.length
     ·
      repeat'(first
|(with_reducible first|apply aa.seq|apply aa.block)
|((with_reducible apply aa.text);(try case hm=>exact rfl))
|((with_reducible apply aa.drawn);(case hm=>exact rfl))
|(with_reducible first|apply aa.skip|apply ai)
|((with_reducible apply aa.am);(case hc=>exact rfl))
|((with_reducible apply aa.ak);(case hc=>exact rfl))
|((with_reducible apply ab.ao);(case hp=>exact ae))
|((with_reducible apply ab.dF);(case hp=>exact ae))
|(with_reducible first|apply ab.af|apply ab.bM)
|((with_reducible apply ab.au);(case hW=>exact rfl);(case hx=>first
|(exact aj kf)
|exact ac))
|((with_reducible apply ab.u0);(case hx=>first
|((with_reducible apply ah.rb);(case h0=>exact kA);(case hm=>exact kC);(case hk|hn|ho=>exact rfl);(case hf=>exact u);(case hz=>exact zE);(case hv=>exact rfl))
|((with_reducible apply ah.Fq);(case hs=>exact fun _=>rfl);(case h0=>exact kA);(case hm=>exact kC);(case ha|hk|hn|hy|hb=>exact rfl);(case hf=>exact u);(case hks=>exact hks);(case hvs=>exact hvs);(case hfr=>exact leq))
|(exact aj kn)
|exact ac))
|fail)
      refine⟨q+1,rfl,nk rfl,⟨by omega,h2.step O Z (by omega) (fun x hx h=>hd ⟨x,hx,h⟩)⟩,by omega⟩
     ·
      have J:fv l=false:=oP fun h=>bc (h.alike e v e0 (List.mem_of_getElem? aq));rw[J]
      repeat'(first
|(with_reducible first|apply aa.seq|apply aa.block)
|((with_reducible apply aa.text);(try case hm=>exact rfl))
|((with_reducible apply aa.drawn);(case hm=>exact rfl))
|(with_reducible first|apply aa.skip|apply aa.ret|apply ai|apply ay|apply aO)
|((with_reducible apply aa.am);(case hc=>exact rfl))
|((with_reducible apply ab.ao);(case hp=>exact ae))
|((with_reducible apply ab.dQ);(case hp=>exact ae))
|(with_reducible apply ab.af)
|((with_reducible apply ab.au);(case hW=>exact rfl);(case hx=>first
|(exact aj kf)
|exact ac))
|((with_reducible apply ab.u0);(case hx=>first
|((with_reducible apply ah.rb);(case h0=>exact kA);(case hm=>exact kC);(case hk|hn|ho=>exact rfl);(case hf=>exact u);(case hz=>exact zE);(case hv=>exact rfl))
|(exact aj kn)
|exact ac))
|fail)
      all_goals exact⟨.inr rfl,rfl⟩
  ·
   have hq:q=l.length:=by omega
   rw[hq]at h2⊢;rw[List.take_of_length_le (Nat.le_refl _)];obtain⟨G,z,D⟩:=h2;rw[List.take_of_length_le (Nat.le_refl _)]at G z D;have U:∀e∈l,∀r n,hasS e.past r n=true->¬Dn l e r n->fv l=false:=fun e O r n hh hD=>oP fun h=>hD (h.down e O r n hh)
   repeat'(first
|(with_reducible first|apply aa.seq|apply aa.block)
|((with_reducible apply aa.text);(try case hm=>exact rfl))
|(with_reducible first|apply aa.exit|apply ai|apply aA|apply az)
|((with_reducible apply aa.ak);(case hc=>exact rfl))
|((with_reducible apply ab.aw);(case hp=>exact ae))
|(with_reducible apply ab.af)
|((with_reducible apply ab.u0);(case hx=>exact ac))
|fail)
   apply aa.aM
   case ho=>exact rfl
   case hp=>exact rfl
   case hl=>exact rfl
   case hs=>exact slt
   refine aI.ind (fun q:Nat=>[(56,.t (.int .i64 (q:Int)))]) (fun q=>q<=l.length/\∀e∈l.take q,∀r n,hasS e.past r n=true->Dn l e r n) (fun q=>l.length - q) 0 rfl ⟨by omega,fun e h=>by simp at h⟩ (fun q hq=>?_);obtain⟨g1,g2⟩:=hq;rcases Nat.lt_or_ge q l.length with g3|g3
   ·
    obtain⟨e,O⟩:=av g3;have v:=List.mem_of_getElem? O;have hc:=iP O;have a_:=bC e.past;have hv:=o9 (G e v);have h5:e.past.length<=5:=by simp[cG]at hv;omega
    repeat'(first
|(with_reducible first|apply aa.seq|apply aa.block)
|((with_reducible apply aa.text);(try case hm=>exact rfl))
|(with_reducible first|apply aa.skip|apply ai)
|((with_reducible apply aa.am);(case hc=>exact rfl))
|((with_reducible apply ab.ao);(case hp=>exact ae))
|(with_reducible apply ab.af)
|((with_reducible apply ab.u0);(case hx=>exact ac))
|fail)
    apply aa.aM
    case ho=>exact rfl
    case hp=>exact rfl
    case hl=>exact rfl
    case hs=>exact slt
    refine aI.ind (fun r:Nat=>[(63,.t (.int .i64 (r:Int)))]) (fun r=>r<=e.past.length/\∀(k:Nat) (n:Int),k <r->hasS e.past k n=true->Dn l e k n) (fun r=>e.past.length - r) 0 rfl ⟨by omega,fun k n h=>by omega⟩ (fun r hr=>?_);obtain⟨f1,f2⟩:=hr;rcases Nat.lt_or_ge r e.past.length with f3|f3
    ·
     obtain⟨p,ag⟩:=av f3;have bj:=bB ag;have bq:=rA hv ag
     repeat'(first
|(with_reducible first|apply aa.seq|apply aa.block)
|((with_reducible apply aa.text);(try case hm=>exact rfl))
|(with_reducible first|apply aa.skip|apply ai)
|((with_reducible apply aa.am);(case hc=>exact rfl))
|((with_reducible apply ab.ao);(case hp=>exact ae))
|(with_reducible apply ab.af)
|((with_reducible apply ab.u0);(case hx=>exact ac))
|fail)
     apply aa.aM
     case ho=>exact rfl
     case hp=>exact rfl
     case hl=>exact rfl
     case hs=>exact slt
     refine aI.ind (fun i:Nat=>[(12,.t (.int .i64 (i:Int)))]) (fun i=>1<=i/\(i:Int)<=p+1/\∀n:Int,1<=n->n <i->Dn l e r n) (fun i=>(p+1).toNat - i) 1 rfl ⟨by omega,by omega,fun n h1 h2=>by omega⟩ (fun i hi=>?_);obtain⟨d1,d2,d3⟩:=hi;by_cases a6:(i:Int)<=p
     ·
      have Q:=D4 hv ag (n:=i) (by omega) a6;by_cases aB:∃x∈l,nm x=((r:Int),(i:Int))
      ·
       obtain⟨x,hx,aJ⟩:=aB;obtain⟨k,hk⟩:=List.mem_iff_getElem?.1 hx;have u:=uj (r:=r) (n:=i) l 0 k x hk aJ D;have I:(ik l)[0+k]?=some (.t (dX x)):=by rw[Nat.zero_add];unfold ik;rw[List.getElem?_map,hk];rfl
       have kc:=CR (hp x hx) (hp e v);have aY:ia [x.past,e.past]=true:=Bi (o9 (G x hx)) hv (by rw[z x hx,z e v]);rw[aY,Bool.true_and]at kc
       have V:Dn l e r i->eY x.past e.past=true/\x.t <e.t:=fun⟨y,hy,bd,h6,h7⟩=>by
        obtain rfl:=yI D hy hx (bd.trans aJ.symm);exact⟨h6,h7⟩
       cases ad:eY x.past e.past with
       |false=>
        rw[ad]at kc;rw[U e v r i Q (fun h=>by have:=(V h).1;rw[ad]at this;cases this)]
        repeat'(first
|(with_reducible first|apply aa.seq|apply aa.block)
|((with_reducible apply aa.text);(try case hm=>exact rfl))
|(with_reducible first|apply aa.skip|apply aa.ret|apply ai|apply ay|apply aO)
|((with_reducible apply aa.am);(case hc=>exact rfl))
|((with_reducible apply ab.ao);(case hp=>exact ae))
|(with_reducible apply ab.af)
|((with_reducible apply ab.gf);(case hW=>exact rfl))
|((with_reducible apply ab.au);(case hW=>exact rfl);(case hx=>first
|(exact aj kc)
|exact ac))
|((with_reducible apply ab.u0);(case hx=>first
|((with_reducible apply ah.ra);(case h0=>exact kA);(case hm=>exact kC);(case hk|hn|ho=>exact rfl);(case hf=>exact u);(case hz=>exact I);(case hv=>exact rfl))
|exact ac))
|fail)
        all_goals exact⟨.inr rfl,rfl⟩
       |true=>
        rw[ad]at kc;by_cases ht:x.t <e.t
        ·
         repeat'(first
|(with_reducible first|apply aa.seq|apply aa.block)
|((with_reducible apply aa.text);(try case hm=>exact rfl))
|(with_reducible first|apply aa.skip|apply ai|apply aG)
|((with_reducible apply aa.am);(case hc=>exact rfl))
|((with_reducible apply aa.ak);(case hc=>exact rfl))
|((with_reducible apply ab.ao);(case hp=>exact ae))
|((with_reducible apply ab.aV);(case hp=>exact ae))
|(with_reducible apply ab.af)
|((with_reducible apply ab.au);(case hW=>exact rfl);(case hx=>first
|(exact aj kc)
|exact ac))
|((with_reducible apply ab.u0);(case hx=>first
|((with_reducible apply ah.ra);(case h0=>exact kA);(case hm=>exact kC);(case hk|hn|ho=>exact rfl);(case hf=>exact u);(case hz=>exact I);(case hv=>exact rfl))
|exact ac))
|fail)
         refine⟨i+1,rfl,nk rfl,⟨by omega,by omega,fun n a1 a2=>?_⟩,by omega⟩;by_cases bb:n <i
         ·exact d3 n a1 bb
         ·obtain rfl:n=i:=by omega
          exact⟨x,hx,aJ,ad,ht⟩
        ·
         rw[U e v r i Q (fun h=>ht (V h).2)]
         repeat'(first
|(with_reducible first|apply aa.seq|apply aa.block)
|((with_reducible apply aa.text);(try case hm=>exact rfl))
|(with_reducible first|apply aa.skip|apply aa.ret|apply ai|apply ay|apply aO)
|((with_reducible apply aa.am);(case hc=>exact rfl))
|((with_reducible apply ab.ao);(case hp=>exact ae))
|((with_reducible apply ab.bh);(case hp=>exact ae))
|(with_reducible apply ab.af)
|((with_reducible apply ab.au);(case hW=>exact rfl);(case hx=>first
|(exact aj kc)
|exact ac))
|((with_reducible apply ab.u0);(case hx=>first
|((with_reducible apply ah.ra);(case h0=>exact kA);(case hm=>exact kC);(case hk|hn|ho=>exact rfl);(case hf=>exact u);(case hz=>exact I);(case hv=>exact rfl))
|exact ac))
|fail)
         all_goals exact⟨.inr rfl,rfl⟩
      ·
       have u:=ui (r:=r) (n:=i) l 0 (fun x hx h=>aB ⟨x,hx,h⟩);rw[U e v r i Q (fun⟨x,hx,h,_⟩=>aB ⟨x,hx,h⟩)]
       repeat'(first
|(with_reducible first|apply aa.seq|apply aa.block)
|((with_reducible apply aa.text);(try case hm=>exact rfl))
|(with_reducible first|apply aa.skip|apply aa.ret|apply ai|apply ay|apply aO)
|((with_reducible apply aa.am);(case hc=>exact rfl))
|((with_reducible apply ab.ao);(case hp=>exact ae))
|(with_reducible apply ab.af)
|((with_reducible apply ab.gf);(case hW=>exact rfl))
|((with_reducible apply ab.u0);(case hx=>first
|((with_reducible apply ah.rb);(case h0=>exact kA);(case hm=>exact kC);(case hk|hn|ho=>exact rfl);(case hf=>exact u);(case hz=>exact zE);(case hv=>exact rfl))
|exact ac))
|fail)
       all_goals exact⟨.inr rfl,rfl⟩
     ·
      repeat'(first
|(with_reducible apply aa.seq)
|((with_reducible apply aa.text);(try case hm=>exact rfl))
|(with_reducible first|apply aa.exit|apply ai|apply aA|apply aG|apply az)
|((with_reducible apply aa.ak);(case hc=>exact rfl))
|((with_reducible apply ab.aw);(case hp=>exact ae))
|(with_reducible apply ab.af)
|((with_reducible apply ab.u0);(case hx=>exact ac))
|fail)
      refine⟨r+1,rfl,rfl,⟨by omega,fun k n hk hh=>?_⟩,by omega⟩;by_cases a7:k <r
      ·exact f2 k n a7 hh
      ·obtain rfl:k=r:=by omega
       obtain⟨k',m',e1,e2,e3,e4⟩:=xA hh;obtain rfl:k'=k:=by omega
       rw[ag]at e2;cases e2;exact d3 n e3 (by omega)
    ·
     repeat'(first
|(with_reducible apply aa.seq)
|((with_reducible apply aa.text);(try case hm=>exact rfl))
|(with_reducible first|apply aa.exit|apply ai|apply aA|apply aG|apply az)
|((with_reducible apply aa.ak);(case hc=>exact rfl))
|((with_reducible apply ab.aw);(case hp=>exact ae))
|(with_reducible apply ab.af)
|((with_reducible apply ab.u0);(case hx=>exact ac))
|fail)
     refine⟨q+1,rfl,nk rfl,⟨by omega,fun x hx a b an=>?_⟩,by omega⟩;rw[oh O,List.mem_append,List.mem_singleton]at hx;rcases hx with hx|rfl
     ·exact g2 x hx a b an
     ·obtain⟨k',m',e1,e2,e3,e4⟩:=xA an;subst e1;exact f2 k' b (by have:=aC e2;omega) an
   ·
    have aU:fv l=true:=wT ⟨al,G,fun x hx y hy=>by rw[z x hx,z y hy],D,fun e O r n hh=>by
     rw[List.take_of_length_le g3]at g2;exact g2 e O r n hh⟩
    rw[aU]
    repeat'(first
|(with_reducible apply aa.seq)
|((with_reducible apply aa.text);(try case hm=>exact rfl))
|(with_reducible first|apply aa.exit|apply aa.ret|apply ai|apply aA|apply az)
|((with_reducible apply aa.ak);(case hc=>exact rfl))
|((with_reducible apply ab.aw);(case hp=>exact ae))
|(with_reducible apply ab.af)
|((with_reducible apply ab.u0);(case hx=>exact ac))
|fail)
    exact⟨.inr rfl,rfl⟩
 ·
  have J:fv l=false:=oP fun h=>al h.iQ;rw[J]
  repeat'(first
|(with_reducible apply aa.seq)
|((with_reducible apply aa.text);(try case hm=>exact rfl))
|(with_reducible first|apply aa.ret|apply ay)
|((with_reducible apply aa.am);(case hc=>exact rfl))
|((with_reducible apply ab.ao);(case hp=>exact ae))
|(with_reducible apply ab.af)
|((with_reducible apply ab.u0);(case hx=>exact ac))
|fail)
  exact⟨.inr rfl,rfl⟩
end Go.Proofs.YtgbfedgghjcdcaaGreatDoor
