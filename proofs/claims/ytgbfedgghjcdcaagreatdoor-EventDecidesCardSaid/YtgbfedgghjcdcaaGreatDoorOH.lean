/- Law 32: the values of the convergent cells,as the program. No condition. -/
import Derived.Test.YtgbfedgghjcdcaaGreatDoorTO
import Derived.Test.YtgbfedgghjcdcaaGreatDoorOB
set_option linter.all false
namespace Go.Proofs.YtgbfedgghjcdcaaGreatDoor
open Go.RowKit
set_option maxRecDepth 100000
set_option maxHeartbeats 32000000
def I5(t:Tb):List AV:=[.fn (.func 121) 0 [dl],.fn (.func 126) 0 [dl],.fn (.func 128) 0 [dl,.tp [.int .i64 (ir t)]],.fn (.func 131) 0 [dl,.tp [.int .i64 (ir t)]]]
def I4(t:Tb):Cl ap 76 [.t (.agg (i_ t))] [] (.t (.mp [.int .i64 2,.int .i64 3,.int .i64 4,.int .i64 5] (I5 t))) []:=⟨6,by kernel_rfl⟩
def qD(k:Int):Option (Option Nat):=dY (.int .i64) (.int .i64 k) [.int .i64 2,.int .i64 3,.int .i64 4,.int .i64 5] 0
def DI{k:Int}(h:k=2):qD k=some (some 0):=by subst h;rfl
def DJ{k:Int}(h:k=3):qD k=some (some 1):=by subst h;rfl
def DK{k:Int}(h:k=4):qD k=some (some 2):=by subst h;rfl
def DL{k:Int}(h:k=5):qD k=some (some 3):=by subst h;rfl
def fL(m:Md)(l:List Ev)(T:List Tb):List (List Int):=T.mapIdx fun i t=>cS t (cn m l (i:Int))
def sJ(m:Md)(l:List Ev)(T:List Tb)(t:Tb):fL m l (T++[t])=fL m l T++[cS t (cn m l (T.length:Int))]:=by
 unfold fL;rw[List.mapIdx_append];simp
def sI(m:Md)(l:List Ev)(T:List Tb):(fL m l T).length=T.length:=by unfold fL;simp
def ri{S:List Int}{L:List Tb}{q k:Nat}{t:Tb}:aZ S L q k t++[t]=aZ S L q (k+1) t:=by unfold aZ;rw[vg,List.append_assoc]
def rh{S:List Int}{L:List Tb}{q:Nat}{t:Tb}:aZ S L q 0 t=(L.take q).flatMap (dj S):=by unfold aZ;simp
def Fs{S:List Int}{L:List Tb}{q k:Nat}{t:Tb}(ht:L[q]?=some t)(hs:bz t.kind=false)(hk:(bp S t.aB).toNat=k):aZ S L q k t=(L.take (q+1)).flatMap (dj S):=by
 unfold aZ;rw[ng ht,dj,if_neg (by rw[hs];decide),hk]
def Ft{S:List Int}{L:List Tb}{q:Nat}{t:Tb}(ht:L[q]?=some t)(hs:bz t.kind=true):(L.take (q+1)).flatMap (dj S)=(L.take q).flatMap (dj S):=by
 rw[ng ht,dj,if_pos hs,List.append_nil]
theorem yx(S:List Int):∀L:List Tb,(L.flatMap (dj S)).length<=216*L.length
 |[]=>by simp
 |t::L=>by
  have u:=jI S t.aB;have v:=yx S L;rw[List.flatMap_cons,List.length_append,List.length_cons]
  have e:(dj S t).length<=216:=by
   unfold dj;split
   ·simp
   ·rw[List.length_replicate];omega
  omega
def sO{m:Md}{l:List Ev}(hl:l.length<=1000)(hp:∀e∈l,e.past.length<=1000)(c:Int):gr (cn m l c) where
 len:=by
  unfold cn;exact Nat.le_trans (List.length_filterMap_le _ _) hl
 past:=fun w u=>hp _ (re.1 u).1
def qm(A:List (List Int))(v:List Int):dW A++[[aF v]]=dW (A++[v]):=by unfold dW;rw[List.map_append];rfl
def Fl{m:Md}(u:Small m):∀a∈m.aJ,a.eff.aQ.length<=1000:=fun a v=>by
 have:=u.iQ a v;unfold fw at this;simp only[Bool.and_eq_true,decide_eq_true_eq]at this;omega
def IR{t:Tb}(hk:t.kind=2):∀W,gr W->Cl ap 121 [.t (.arr (aR W)),.t dl] [] (.t (aF (cS t W))) []:=fun W h=>by
 have e:cS t W=kQ ((aX W 0).any fun w=>!bO w W 1):=by unfold cS;rw[if_pos hk]
 rw[e];exact IL h
def IU{t:Tb}(hk:t.kind=3):∀W,gr W->Cl ap 126 [.t (.arr (aR W)),.t dl] [] (.t (aF (cS t W))) []:=fun W h=>by
 have e:cS t W=kQ (decide (aX W 0≠[])&&!(aX W 1).any fun w=>!bO w W 0):=by unfold cS;rw[if_neg (by omega),if_pos hk]
 rw[e];exact IM h
def IV{t:Tb}(hk:t.kind=4):∀W,gr W->Cl ap 128 [.t (.arr (aR W)),.t dl,.t (.tp [.int .i64 (ir t)])] [] (.t (aF (cS t W))) []:=fun W h=>by
 have e:cS t W=(match aX W 2 with|[]=>[ir t]|w::r=>[(dx w r).u.value]):=by unfold cS;rw[if_neg (by omega),if_neg (by omega),if_pos hk];cases aX W 2 <;>rfl
 rw[e];exact IP h
def IW{t:Tb}(hk:t.kind=5):∀W,gr W->Cl ap 131 [.t (.arr (aR W)),.t dl,.t (.tp [.int .i64 (ir t)])] [] (.t (aF (cS t W))) []:=fun W h=>by
 have e:cS t W=if ku W=[]then[ir t]else bx (lj (ku W)):=by unfold cS;rw[if_neg (by omega),if_neg (by omega),if_neg (by omega)]
 rw[e];exact IQ h
def xf{m:Md}{l:List Ev}(hS:Small m)(hl:l.length<=1000)(hp:∀e∈l,e.past.length<=1000)(au:lJ m l=true):Cl ap 26 [.t (di m),.t (.arr (br l))] [] (.t (.aL [.arr (dW (lz m l)),.int .i64 0])) []:=by
 have hm:=hS.len;have hv:=uM hS.ok;have bb:=gV m.tables;have a6:=k_ hv;have a1:=q8 hv;have kv:=C7 (l:=l) hm (by omega) fun e he=>Nat.le_trans (hp e he) (by omega);rw[au]at kv;have kw:=fun c:Int=>Du (c:=c) hm hl (fun e he hk=>IX (List.all_eq_true.1 au e he) hk) (Fl hS);have aE:=fun(t:Tb) h1 h2=>Dh (t:=t) hm a1 h1 h2;have aV:=fun q=>yx m.aq (m.tables.take q);have an:lz m l=fL m l (m.tables.flatMap (dj m.aq)):=rfl;rw[an];rw[cO]at kv kw aE⊢;refine Cl.fS rfl Tryz.func26 rfl rfl rfl ?_
 repeat'(first
|(with_reducible first|apply aa.seq|apply aa.block)
|((with_reducible apply aa.text);(try case hm=>exact rfl))
|(with_reducible first|apply aa.skip|apply ai)
|((with_reducible apply aa.ak);(case hc=>exact rfl))
|(with_reducible apply ab.af)
|((with_reducible apply ab.u0);(case hx=>first
|(exact aj kv)
|exact ac))
|fail)
 apply aa.aM
 case ho=>exact rfl
 case hp=>exact rfl
 case hl=>exact rfl
 case hs=>exact slt
 refine aI.cd (fun x:Nat×Bool=>[(6,.ls 1),(17,.t (.int .i64 (x.1:Int)))]) (fun x=>[.box false 30 ((cg m).map .t),.row false x.2 1 (dW (fL m l ((m.tables.take x.1).flatMap (dj m.aq))))]) (fun x=>x.1<=m.tables.length) (fun x=>m.tables.length - x.1) (0,false) rfl rfl (by simp) (fun x hq=>?_);obtain⟨q,al⟩:=x;dsimp only at hq⊢;rcases Nat.lt_or_ge q m.tables.length with h3|h3
 ·
  obtain⟨t,ht⟩:=av h3;have hc:=fZ ht;obtain⟨c1,c2,c3⟩:=nw hv ht;have kn:=aE t c3 c1;have O:=Di t;have ag:=I4 t;have a7:=jI m.aq t.aB;have G:=fun k=>Fs (S:=m.aq) (k:=k) ht;have aU:=aV q;have aQ:(m.tables.take q).length=q:=by simp;omega
  rw[aQ]at aU;have a_:0<=t.kind/\t.kind<=5:=(Ax.1 (nx hv ht)).2.2.1;have e1:i_ t=[.str t.name,.int .i64 t.kind,aF t.aB,.int .i64 t.lo,.int .i64 t.hi,.int .i64 t.first]:=rfl;rw[e1]at kn O ag
  cases ad:bz t.kind with
  |true=>
   rw[ad]at O;have aY:=Ft (S:=m.aq) ht ad
   repeat'(first
|(with_reducible first|apply aa.seq|apply aa.block)
|((with_reducible apply aa.text);(try case hm=>exact rfl))
|(with_reducible first|apply aa.skip|apply aa.exit|apply ai|apply aA|apply az)
|((with_reducible apply aa.am);(case hc=>exact rfl))
|((with_reducible apply ab.ao);(case hp=>exact ae))
|(with_reducible apply ab.af)
|((with_reducible apply ab.u0);(case hx=>first
|(exact aj O)
|exact ac))
|fail)
   exact⟨(q+1,al),rfl,by dsimp only;rw[aY];rfl,by dsimp only;omega,by dsimp only;omega⟩
  |false=>
   rw[ad]at O;have G:=G _ ad rfl;obtain⟨N,hN⟩:∃N,(bp m.aq t.aB).toNat=N:=⟨_,rfl⟩;have aJ:bp m.aq t.aB=(N:Int):=by omega
   rw[aJ]at kn;rw[hN]at G
   have aN:t.kind=2\/t.kind=3\/t.kind=4\/t.kind=5:=by
    unfold bz at ad;simp only[Bool.or_eq_false_iff,decide_eq_false_iff_not]at ad;omega
   rcases aN with hk|hk|hk|hk
   ·
    have kf:=IR hk;unfold dl at kf
    repeat'(first
|(with_reducible first|apply aa.seq|apply aa.block)
|((with_reducible apply aa.text);(try case hm=>exact rfl))
|((with_reducible apply aa.drawn);(case hm=>exact rfl))
|(with_reducible first|apply aa.skip|apply ai)
|((with_reducible apply aa.am);(case hc=>exact rfl))
|((with_reducible apply aa.ak);(case hc=>exact rfl))
|((with_reducible apply ab.ao);(case hp=>exact ae))
|(with_reducible apply ab.af)
|((with_reducible apply ab.u0);(case hx=>first
|((with_reducible apply ah.kx);(case hm|hk|ho=>exact rfl);(case hf=>exact DI hk);(case hz=>exact rfl))
|(exact aj O)
|(exact bX ag)
|(exact aj kn)
|exact ac))
|fail)
    apply aa.aM
    case ho=>exact rfl
    case hp=>exact rfl
    case hl=>exact rfl
    case hs=>exact slt
    refine aI.cd (fun x:Nat×Bool=>[(6,.ls 1),(31,.t (.int .i64 (x.1:Int)))]) (fun x=>[.box false 30 ((cg m).map .t),.row false x.2 1 (dW (fL m l (aZ m.aq m.tables q x.1 t))),.box false 69 (([.str t.name,.int .i64 t.kind,aF t.aB,.int .i64 t.lo,.int .i64 t.hi,.int .i64 t.first]:List AV).map .t)]) (fun x=>x.1<=N) (fun x=>N - x.1) (0,al) rfl (by dsimp only;rw[rh]) (by simp) (fun x hx=>?_);obtain⟨k,tc⟩:=x;dsimp only at hx⊢;rcases Nat.lt_or_ge k N with g3|g3
    ·
     have V:(aZ m.aq m.tables q k t).length<=4000:=by
      unfold aZ;rw[List.length_append,List.length_replicate];omega
     have y:=sJ m l (aZ m.aq m.tables q k t) t;rw[ri]at y;have I:=sI m l (aZ m.aq m.tables q k t);have J:=kw ((aZ m.aq m.tables q k t).length:Int);have z:=kf _ (sO (m:=m) hl hp ((aZ m.aq m.tables q k t).length:Int));obtain⟨A,hA⟩:∃A,fL m l (aZ m.aq m.tables q k t)=A:=⟨_,rfl⟩;obtain⟨v,Z⟩:∃v,cS t (cn m l ((aZ m.aq m.tables q k t).length:Int))=v:=⟨_,rfl⟩;rw[hA]at y I⊢;rw[Z]at y z;rw[<- I]at V J z;have U:=mV A;have D:=qm A v;rw[<- y]at D;have Q:bD ((dW A).length+1) 24=true:=by rw[U];simp[bD];omega
     repeat'(first
|(with_reducible first|apply aa.seq|apply aa.block)
|((with_reducible apply aa.text);(try case hm=>exact rfl))
|(with_reducible first|apply aa.skip|apply ai)
|((with_reducible apply aa.am);(case hc=>exact rfl))
|((with_reducible apply ab.ao);(case hp=>exact ae))
|(with_reducible first|apply ab.af|apply ab.bM)
|((with_reducible apply ab.u);(case hx=>((with_reducible apply ah.dI);(case hs=>exact fun _=>rfl);(case ha|ht=>exact rfl);(case hr=>first|(with_reducible exact dB)|(with_reducible exact dC)|(with_reducible exact dD)|(with_reducible exact rw3)|(with_reducible exact rw4)|exact rfl);(case hx|hy|hn|hb|hok=>exact rfl);(case hlen=>exact Q);(case hv=>exact D);(case hk=>exact dL);(case hf=>exact leq))))
|((with_reducible apply ab.u0);(case hx=>first
|(exact bX J)
|(exact bX z)
|exact ac))
|fail)
     exact⟨(k+1,true),rfl,rfl,by dsimp only;omega,by dsimp only;omega⟩
    ·
     obtain rfl:k=N:=by omega
     rw[G]
     repeat'(first
|(with_reducible apply aa.seq)
|((with_reducible apply aa.text);(try case hm=>exact rfl))
|(with_reducible first|apply aa.exit|apply ai|apply aA|apply aG|apply az)
|((with_reducible apply aa.ak);(case hc=>exact rfl))
|((with_reducible apply ab.aw);(case hp=>exact ae))
|(with_reducible apply ab.af)
|((with_reducible apply ab.u0);(case hx=>exact ac))
|fail)
     exact⟨(q+1,tc),rfl,rfl,by dsimp only;omega,by dsimp only;omega⟩
   ·
    have kf:=IU hk;unfold dl at kf
    repeat'(first
|(with_reducible first|apply aa.seq|apply aa.block)
|((with_reducible apply aa.text);(try case hm=>exact rfl))
|((with_reducible apply aa.drawn);(case hm=>exact rfl))
|(with_reducible first|apply aa.skip|apply ai)
|((with_reducible apply aa.am);(case hc=>exact rfl))
|((with_reducible apply aa.ak);(case hc=>exact rfl))
|((with_reducible apply ab.ao);(case hp=>exact ae))
|(with_reducible apply ab.af)
|((with_reducible apply ab.u0);(case hx=>first
|((with_reducible apply ah.kx);(case hm|hk|ho=>exact rfl);(case hf=>exact DJ hk);(case hz=>exact rfl))
|(exact aj O)
|(exact bX ag)
|(exact aj kn)
|exact ac))
|fail)
    apply aa.aM
    case ho=>exact rfl
    case hp=>exact rfl
    case hl=>exact rfl
    case hs=>exact slt
    refine aI.cd (fun x:Nat×Bool=>[(6,.ls 1),(31,.t (.int .i64 (x.1:Int)))]) (fun x=>[.box false 30 ((cg m).map .t),.row false x.2 1 (dW (fL m l (aZ m.aq m.tables q x.1 t))),.box false 69 (([.str t.name,.int .i64 t.kind,aF t.aB,.int .i64 t.lo,.int .i64 t.hi,.int .i64 t.first]:List AV).map .t)]) (fun x=>x.1<=N) (fun x=>N - x.1) (0,al) rfl (by dsimp only;rw[rh]) (by simp) (fun x hx=>?_);obtain⟨k,tc⟩:=x;dsimp only at hx⊢;rcases Nat.lt_or_ge k N with g3|g3
    ·
     have V:(aZ m.aq m.tables q k t).length<=4000:=by
      unfold aZ;rw[List.length_append,List.length_replicate];omega
     have y:=sJ m l (aZ m.aq m.tables q k t) t;rw[ri]at y;have I:=sI m l (aZ m.aq m.tables q k t);have J:=kw ((aZ m.aq m.tables q k t).length:Int);have z:=kf _ (sO (m:=m) hl hp ((aZ m.aq m.tables q k t).length:Int));obtain⟨A,hA⟩:∃A,fL m l (aZ m.aq m.tables q k t)=A:=⟨_,rfl⟩;obtain⟨v,Z⟩:∃v,cS t (cn m l ((aZ m.aq m.tables q k t).length:Int))=v:=⟨_,rfl⟩;rw[hA]at y I⊢;rw[Z]at y z;rw[<- I]at V J z;have U:=mV A;have D:=qm A v;rw[<- y]at D;have Q:bD ((dW A).length+1) 24=true:=by rw[U];simp[bD];omega
     repeat'(first
|(with_reducible first|apply aa.seq|apply aa.block)
|((with_reducible apply aa.text);(try case hm=>exact rfl))
|(with_reducible first|apply aa.skip|apply ai)
|((with_reducible apply aa.am);(case hc=>exact rfl))
|((with_reducible apply ab.ao);(case hp=>exact ae))
|(with_reducible first|apply ab.af|apply ab.bM)
|((with_reducible apply ab.u);(case hx=>((with_reducible apply ah.dI);(case hs=>exact fun _=>rfl);(case ha|ht=>exact rfl);(case hr=>first|(with_reducible exact dB)|(with_reducible exact dC)|(with_reducible exact dD)|(with_reducible exact rw3)|(with_reducible exact rw4)|exact rfl);(case hx|hy|hn|hb|hok=>exact rfl);(case hlen=>exact Q);(case hv=>exact D);(case hk=>exact dL);(case hf=>exact leq))))
|((with_reducible apply ab.u0);(case hx=>first
|(exact bX J)
|(exact bX z)
|exact ac))
|fail)
     exact⟨(k+1,true),rfl,rfl,by dsimp only;omega,by dsimp only;omega⟩
    ·
     obtain rfl:k=N:=by omega
     rw[G]
     repeat'(first
|(with_reducible apply aa.seq)
|((with_reducible apply aa.text);(try case hm=>exact rfl))
|(with_reducible first|apply aa.exit|apply ai|apply aA|apply aG|apply az)
|((with_reducible apply aa.ak);(case hc=>exact rfl))
|((with_reducible apply ab.aw);(case hp=>exact ae))
|(with_reducible apply ab.af)
|((with_reducible apply ab.u0);(case hx=>exact ac))
|fail)
     exact⟨(q+1,tc),rfl,rfl,by dsimp only;omega,by dsimp only;omega⟩
   ·
    have kf:=IV hk;unfold dl at kf
    repeat'(first
|(with_reducible first|apply aa.seq|apply aa.block)
|((with_reducible apply aa.text);(try case hm=>exact rfl))
|((with_reducible apply aa.drawn);(case hm=>exact rfl))
|(with_reducible first|apply aa.skip|apply ai)
|((with_reducible apply aa.am);(case hc=>exact rfl))
|((with_reducible apply aa.ak);(case hc=>exact rfl))
|((with_reducible apply ab.ao);(case hp=>exact ae))
|(with_reducible apply ab.af)
|((with_reducible apply ab.u0);(case hx=>first
|((with_reducible apply ah.kx);(case hm|hk|ho=>exact rfl);(case hf=>exact DK hk);(case hz=>exact rfl))
|(exact aj O)
|(exact bX ag)
|(exact aj kn)
|exact ac))
|fail)
    apply aa.aM
    case ho=>exact rfl
    case hp=>exact rfl
    case hl=>exact rfl
    case hs=>exact slt
    refine aI.cd (fun x:Nat×Bool=>[(6,.ls 1),(31,.t (.int .i64 (x.1:Int)))]) (fun x=>[.box false 30 ((cg m).map .t),.row false x.2 1 (dW (fL m l (aZ m.aq m.tables q x.1 t))),.box false 69 (([.str t.name,.int .i64 t.kind,aF t.aB,.int .i64 t.lo,.int .i64 t.hi,.int .i64 t.first]:List AV).map .t)]) (fun x=>x.1<=N) (fun x=>N - x.1) (0,al) rfl (by dsimp only;rw[rh]) (by simp) (fun x hx=>?_);obtain⟨k,tc⟩:=x;dsimp only at hx⊢;rcases Nat.lt_or_ge k N with g3|g3
    ·
     have V:(aZ m.aq m.tables q k t).length<=4000:=by
      unfold aZ;rw[List.length_append,List.length_replicate];omega
     have y:=sJ m l (aZ m.aq m.tables q k t) t;rw[ri]at y;have I:=sI m l (aZ m.aq m.tables q k t);have J:=kw ((aZ m.aq m.tables q k t).length:Int);have z:=kf _ (sO (m:=m) hl hp ((aZ m.aq m.tables q k t).length:Int));obtain⟨A,hA⟩:∃A,fL m l (aZ m.aq m.tables q k t)=A:=⟨_,rfl⟩;obtain⟨v,Z⟩:∃v,cS t (cn m l ((aZ m.aq m.tables q k t).length:Int))=v:=⟨_,rfl⟩;rw[hA]at y I⊢;rw[Z]at y z;rw[<- I]at V J z;have U:=mV A;have D:=qm A v;rw[<- y]at D;have Q:bD ((dW A).length+1) 24=true:=by rw[U];simp[bD];omega
     repeat'(first
|(with_reducible first|apply aa.seq|apply aa.block)
|((with_reducible apply aa.text);(try case hm=>exact rfl))
|(with_reducible first|apply aa.skip|apply ai)
|((with_reducible apply aa.am);(case hc=>exact rfl))
|((with_reducible apply ab.ao);(case hp=>exact ae))
|(with_reducible first|apply ab.af|apply ab.bM)
|((with_reducible apply ab.u);(case hx=>((with_reducible apply ah.dI);(case hs=>exact fun _=>rfl);(case ha|ht=>exact rfl);(case hr=>first|(with_reducible exact dB)|(with_reducible exact dC)|(with_reducible exact dD)|(with_reducible exact rw3)|(with_reducible exact rw4)|exact rfl);(case hx|hy|hn|hb|hok=>exact rfl);(case hlen=>exact Q);(case hv=>exact D);(case hk=>exact dL);(case hf=>exact leq))))
|((with_reducible apply ab.u0);(case hx=>first
|(exact bX J)
|(exact bX z)
|exact ac))
|fail)
     exact⟨(k+1,true),rfl,rfl,by dsimp only;omega,by dsimp only;omega⟩
    ·
     obtain rfl:k=N:=by omega
     rw[G]
     repeat'(first
|(with_reducible apply aa.seq)
|((with_reducible apply aa.text);(try case hm=>exact rfl))
|(with_reducible first|apply aa.exit|apply ai|apply aA|apply aG|apply az)
|((with_reducible apply aa.ak);(case hc=>exact rfl))
|((with_reducible apply ab.aw);(case hp=>exact ae))
|(with_reducible apply ab.af)
|((with_reducible apply ab.u0);(case hx=>exact ac))
|fail)
     exact⟨(q+1,tc),rfl,rfl,by dsimp only;omega,by dsimp only;omega⟩
   ·
    have kf:=IW hk;unfold dl at kf
    repeat'(first
|(with_reducible first|apply aa.seq|apply aa.block)
|((with_reducible apply aa.text);(try case hm=>exact rfl))
|((with_reducible apply aa.drawn);(case hm=>exact rfl))
|(with_reducible first|apply aa.skip|apply ai)
|((with_reducible apply aa.am);(case hc=>exact rfl))
|((with_reducible apply aa.ak);(case hc=>exact rfl))
|((with_reducible apply ab.ao);(case hp=>exact ae))
|(with_reducible apply ab.af)
|((with_reducible apply ab.u0);(case hx=>first
|((with_reducible apply ah.kx);(case hm|hk|ho=>exact rfl);(case hf=>exact DL hk);(case hz=>exact rfl))
|(exact aj O)
|(exact bX ag)
|(exact aj kn)
|exact ac))
|fail)
    apply aa.aM
    case ho=>exact rfl
    case hp=>exact rfl
    case hl=>exact rfl
    case hs=>exact slt
    refine aI.cd (fun x:Nat×Bool=>[(6,.ls 1),(31,.t (.int .i64 (x.1:Int)))]) (fun x=>[.box false 30 ((cg m).map .t),.row false x.2 1 (dW (fL m l (aZ m.aq m.tables q x.1 t))),.box false 69 (([.str t.name,.int .i64 t.kind,aF t.aB,.int .i64 t.lo,.int .i64 t.hi,.int .i64 t.first]:List AV).map .t)]) (fun x=>x.1<=N) (fun x=>N - x.1) (0,al) rfl (by dsimp only;rw[rh]) (by simp) (fun x hx=>?_);obtain⟨k,tc⟩:=x;dsimp only at hx⊢;rcases Nat.lt_or_ge k N with g3|g3
    ·
     have V:(aZ m.aq m.tables q k t).length<=4000:=by
      unfold aZ;rw[List.length_append,List.length_replicate];omega
     have y:=sJ m l (aZ m.aq m.tables q k t) t;rw[ri]at y;have I:=sI m l (aZ m.aq m.tables q k t);have J:=kw ((aZ m.aq m.tables q k t).length:Int);have z:=kf _ (sO (m:=m) hl hp ((aZ m.aq m.tables q k t).length:Int));obtain⟨A,hA⟩:∃A,fL m l (aZ m.aq m.tables q k t)=A:=⟨_,rfl⟩;obtain⟨v,Z⟩:∃v,cS t (cn m l ((aZ m.aq m.tables q k t).length:Int))=v:=⟨_,rfl⟩;rw[hA]at y I⊢;rw[Z]at y z;rw[<- I]at V J z;have U:=mV A;have D:=qm A v;rw[<- y]at D;have Q:bD ((dW A).length+1) 24=true:=by rw[U];simp[bD];omega
     repeat'(first
|(with_reducible first|apply aa.seq|apply aa.block)
|((with_reducible apply aa.text);(try case hm=>exact rfl))
|(with_reducible first|apply aa.skip|apply ai)
|((with_reducible apply aa.am);(case hc=>exact rfl))
|((with_reducible apply ab.ao);(case hp=>exact ae))
|(with_reducible first|apply ab.af|apply ab.bM)
|((with_reducible apply ab.u);(case hx=>((with_reducible apply ah.dI);(case hs=>exact fun _=>rfl);(case ha|ht=>exact rfl);(case hr=>first|(with_reducible exact dB)|(with_reducible exact dC)|(with_reducible exact dD)|(with_reducible exact rw3)|(with_reducible exact rw4)|exact rfl);(case hx|hy|hn|hb|hok=>exact rfl);(case hlen=>exact Q);(case hv=>exact D);(case hk=>exact dL);(case hf=>exact leq))))
|((with_reducible apply ab.u0);(case hx=>first
|(exact bX J)
|(exact bX z)
|exact ac))
|fail)
     exact⟨(k+1,true),rfl,rfl,by dsimp only;omega,by dsimp only;omega⟩
    ·
     obtain rfl:k=N:=by omega
     rw[G]
     repeat'(first
|(with_reducible apply aa.seq)
|((with_reducible apply aa.text);(try case hm=>exact rfl))
|(with_reducible first|apply aa.exit|apply ai|apply aA|apply aG|apply az)
|((with_reducible apply aa.ak);(case hc=>exact rfl))
|((with_reducible apply ab.aw);(case hp=>exact ae))
|(with_reducible apply ab.af)
|((with_reducible apply ab.u0);(case hx=>exact ac))
|fail)
     exact⟨(q+1,tc),rfl,rfl,by dsimp only;omega,by dsimp only;omega⟩
 ·
  rw[List.take_of_length_le h3]
  repeat'(first
|(with_reducible apply aa.seq)
|((with_reducible apply aa.text);(try case hm=>exact rfl))
|(with_reducible first|apply aa.exit|apply aa.ret|apply ai|apply aA|apply az)
|((with_reducible apply aa.ak);(case hc=>exact rfl))
|((with_reducible apply ab.aw);(case hp=>exact ae))
|(with_reducible apply ab.af)
|((with_reducible apply ab.u0);(case hx=>exact ac))
|fail)
  exact⟨.inr rfl,rfl⟩
end Go.Proofs.YtgbfedgghjcdcaaGreatDoor
