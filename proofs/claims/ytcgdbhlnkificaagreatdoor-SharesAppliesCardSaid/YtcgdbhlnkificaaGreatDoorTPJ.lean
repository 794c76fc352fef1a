/- What the reference's plans ask of actions,as contracts. No condition. -/
import Derived.Test.YtcgdbhlnkificaaGreatDoorRPD
import Derived.Test.YtcgdbhlnkificaaGreatDoorTP
set_option linter.all false
namespace Go.Proofs.YtcgdbhlnkificaaGreatDoor
open Go.RowKit
set_option maxRecDepth 100000
set_option maxHeartbeats 32000000
section
variable {m:Md} {p:Pln} {i k:Int} {L:Lck}
def Sw(hp:nO p)(h0:0<=i)(hg:p.aA[i.toNat]?=some L):Cl aj 127 [.t (a_ p),.t (.int .i64 i),.t (.int .i64 k)] [] (.t (.bool (gL L k))) []:=by
 have I:=kP p.aA;have D:=hp.aA;have v:=hp.mem L (List.mem_of_getElem? hg);have Z:=nw hg;have J:=lG L.mem;have U:=(List.getElem?_eq_some_iff.1 hg).1;have z:gL L k=(L.mem.drop 0).any fun x=>decide (x.act=k):=rfl;rw[z];unfold a_;rw[bK];refine Cl.ap rfl Tryz.func127 rfl rfl rfl ?_;refine aq ?_;refine az.ind (fun q:Nat=>[(7,.t (.int .i64 (q:Int)))]) (fun q=>q<=L.mem.length/\((L.mem.drop 0).any fun x=>decide (x.act=k))=(L.mem.drop q).any fun x=>decide (x.act=k)) (fun q=>L.mem.length - q) 0 rfl ⟨by omega,rfl⟩ (fun q V=>?_);obtain⟨h1,h2⟩:=V;rw[h2];rcases Nat.lt_or_ge q L.mem.length with h3|h3
 ·
  obtain⟨x,y⟩:=am h3;have G:=i_ y;rw[o_ (fun x:Mem=>decide (x.act=k)) y];by_cases u:x.act=k
  ·
   rw[decide_eq_true u,Bool.true_or];exact ah
  ·
   rw[decide_eq_false u,Bool.false_or];exact ah
 ·
  rw[o9 _ h3];exact ah
def Sy(hm:bx m)(hp:nO p)(h0:0<=i)(hg:p.aA[i.toNat]?=some L)(hk:b9 m k=true):Cl aj 128 [.t (bN m),.t (a_ p),.t (.int .i64 i),.t (.int .i64 k)] [] (.t (.bool (mN m L k))) []:=by
 have G:=kP p.aA;have y:=hp.aA;have U:=nw hg;have I:=(List.getElem?_eq_some_iff.1 hg).1;have D:=jl m.ax;have J:=hm.ax;obtain⟨V,Z⟩:=jB.1 hk;obtain⟨a,u⟩:=am (xs:=m.ax) (k:=k.toNat) (by omega);have z:=fF u;unfold mN;rw[kT u];unfold a_;rw[aZ,bK];refine Cl.ap rfl Tryz.func128 rfl rfl rfl ?_;by_cases v:a.op=L.b
 ·
  rw[decide_eq_true v];exact ah
 ·
  rw[decide_eq_false v];exact ah
def Sv(hm:bx m)(hp:nO p)(hv:b6 m=true)(h0:0<=i)(hg:p.aA[i.toNat]?=some L)(U:iQ m L)(Z:gL L k=true):Cl aj 129 [.t (bN m),.t (a_ p),.t (.int .i64 i),.t (.int .i64 k)] [] (.t (.int .i64 (j9 m L k))) []:=by
 have ao:=kP p.aA;have ag:=hp.aA;have hc:=nw hg;have av:=(List.getElem?_eq_some_iff.1 hg).1;have an:=jl m.ax;have aB:=hm.ax;obtain⟨I,ho⟩:=U.part Z;obtain⟨k0,k1⟩:=jB.1 I;have V:=qp I;obtain⟨a,u⟩:∃a,m.ax.getD k.toNat fD=a:=⟨_,rfl⟩;rw[u]at V;have al:=fF V;have G:bh m k=a.op:=kT V;have au:=aW a.args;rw[U.elem];unfold a_;rw[aZ,bK];rcases U.tE with⟨p1,p2⟩|⟨⟨p1,ab⟩,⟨p2,ad⟩,_⟩
 ·
  have J:(if bh m k=L.a then L.pa else L.pb)<0:=by split <;>omega
  rw[if_pos J];refine Cl.ap rfl Tryz.func129 rfl rfl rfl ?_;by_cases D:a.op=L.a
  ·
   exact ah
  ·
   exact ah
 ·
  have J:¬(if bh m k=L.a then L.pa else L.pb)<0:=by split <;>omega
  rw[if_neg J];by_cases D:bh m k=L.a
  ·
   rw[if_pos D];have hg:=Bd hv I (i:=L.pa) p1 (by rw[D];exact ab);rw[u]at hg;have y:=bg hg;rw[G]at D;obtain⟨v,z⟩:∃v,lc m k L.pa=v:=⟨_,rfl⟩;rw[z]at y⊢;refine Cl.ap rfl Tryz.func129 rfl rfl rfl ?_;exact ah
  ·
   rw[if_neg D];have hb:bh m k=L.b:=by omega
   have hg:=Bd hv I (i:=L.pb) p2 (by rw[hb];exact ad);rw[u]at hg;have y:=bg hg;rw[G]at D;obtain⟨v,z⟩:∃v,lc m k L.pb=v:=⟨_,rfl⟩;rw[z]at y⊢;refine Cl.ap rfl Tryz.func129 rfl rfl rfl ?_;exact ah
end
set_option maxRecDepth 100000
set_option maxHeartbeats 32000000
def QY(d:List bP)(c:Int)(q:Nat):Int:=(d.take q).foldl (fun n x=>if x.cell=c then n+x.add else n) 0
def SD{d:List bP}{c:Int}{q:Nat}{x:bP}(h:d[q]?=some x):QY d c (q+1)=if x.cell=c then QY d c q+x.add else QY d c q:=yr _ _ h
def RX{n:Nat}{d:List bP}(hd:allI (eX n d) d=true)(hl:d.length<=1000000)(c:Int)(q:Nat): -1000000000000000<=QY d c q/\QY d c q<=1000000000000000:=by
 have h:=PA (l:=d.take q) (g:=fun n (x:bP)=>if x.cell=c then n+x.add else n) (B:=1000000000) (by omega) (fun n t h=>by
  have:=(H1 hd (List.mem_of_mem_take h)).2
  try dsimp only
  split <;>omega) 0
 have u:((d.take q).length:Int)<=d.length:=by rw[List.length_take];omega
 unfold QY;omega
def Sm{n:Nat}{x:k8}{c:Int}(hd:allI (eX n x.delta) x.delta=true)(hl:x.delta.length<=1000000):Cl aj 168 [.t (.agg (qG x)),.t (.int .i64 c)] [] (.t (.int .i64 (eh x.delta c))) []:=by
 have I:=uG x.delta;have z:eh x.delta c=QY x.delta c x.delta.length:=by unfold QY;rw[List.take_length,<- Gi (H2 hd)];rfl
 rw[z,IR];refine Cl.ap rfl Tryz.func168 rfl rfl rfl ?_;refine aq ?_;refine az.ind (fun q:Nat=>[(5,.t (.int .i64 (QY x.delta c q))),(6,.t (.int .i64 (q:Int)))]) (fun q=>q<=x.delta.length) (fun q=>x.delta.length - q) 0 rfl (by omega) (fun q h1=>?_);rcases Nat.lt_or_ge q x.delta.length with h3|h3
 ·
  obtain⟨t,y⟩:=am h3;have J:=su y;have G:=RX hd hl c q;have u:=RX hd hl c (q+1);have hs:=SD (c:=c) y;rw[hs]at u;obtain⟨P,D⟩:∃P,QY x.delta c q=P:=⟨_,rfl⟩;rw[D]at hs G u⊢;by_cases v:t.cell=c
  ·
   rw[if_pos v]at hs u;refine aq ?_;exact⟨q+1,by rw[hs];rfl,rfl,by omega,by omega⟩
  ·
   rw[if_neg v]at hs u;refine aq ?_;exact⟨q+1,by rw[hs];rfl,rfl,by omega,by omega⟩
 ·
  obtain rfl:q=x.delta.length:=by omega
  exact ah
def So{n:Nat}{x:k8}{r:Rw}(hn:n<=100000)(hd:allI (eX n x.delta) x.delta=true)(ht:allI (fU n r.bt) r.bt=true)(hl:x.delta.length<=1000000):Cl aj 126 [.t (.agg (qG x)),.t (.agg (fa r))] [] (.t (.int .i64 (pg x.delta r))) []:=by
 have V:=nG r.bt;have Z:=Gv ht;have I:pg x.delta r=ld x.delta r.bt r.bt.length:=by unfold pg ld;rw[List.take_length]
 have z:=fun c=>Sm (c:=c) hd hl;rw[I];rw[Ad];rw[IR]at z⊢;refine Cl.ap rfl Tryz.func126 rfl rfl rfl ?_;refine aq ?_;refine az.ind (fun q:Nat=>[(5,.t (.int .i64 (ld x.delta r.bt q))),(6,.t (.int .i64 (q:Int)))]) (fun q=>q<=r.bt.length) (fun q=>r.bt.length - q) 0 rfl (by omega) (fun q h1=>?_);rcases Nat.lt_or_ge q r.bt.length with h3|h3
 ·
  obtain⟨t,y⟩:=am h3;have hc:=oU y;have z:=z t.cell;obtain⟨b1,D,G⟩:=Gw hd ht (List.mem_of_getElem? y);have hs:=HZ (d:=x.delta) y;have U:=xE hd ht q;have u:=xE hd ht (q+1);rw[hs]at u;obtain⟨v,hv⟩:∃v,eh x.delta t.cell=v:=⟨_,rfl⟩;rw[hv]at z D G hs u;obtain⟨P,J⟩:∃P,ld x.delta r.bt q=P:=⟨_,rfl⟩;rw[J]at hs U u⊢;refine aq ?_;exact⟨q+1,by rw[hs];rfl,rfl,by omega,by omega⟩
 ·
  obtain rfl:q=r.bt.length:=by omega
  exact ah
theorem za{m:Md}(h:b6 m=true):bJ m.ao m.tables=true:=by
 unfold b6 at h;simp only[Bool.and_eq_true]at h;exact h.1.1.1
section
variable {m:Md} {p:Pln} {e f k R:Int} {L:Lck}
theorem FY{s:List Int}{d:List bP}:∀{l:List Tm},(∀t∈l,(rB s d).getD t.cell.toNat 0=s.getD t.cell.toNat 0+eh d t.cell)->∀{b v c:Int},b=v - c->
  l.foldl (fun n t=>n - t.bZ*(rB s d).getD t.cell.toNat 0) b=l.foldl (fun n t=>n - t.bZ*s.getD t.cell.toNat 0) v - l.foldl (fun n t=>n+t.bZ*eh d t.cell) c
 |[],_,b,v,c,h=>h
 |t::l,y,b,v,c,h=>by
  rw[List.foldl_cons,List.foldl_cons,List.foldl_cons];refine FY (fun u z=>y u (by simp[z])) ?_;rw[y t (by simp),Int.mul_add];omega
def Ph{n:Nat}{s:List Int}{d:List bP}{r:Rw}(hd:allI (eX n d) d=true)(hr:cI n r=true)(hn:s.length=n):tP (rB s d) r=tP s r - pg d r:=by
 unfold tP pg;refine FY (fun t u=>?_) (by omega);have:=(AC (v_ hr) u).1;rw[MJ (by omega),show((t.cell.toNat:Nat):Int)=t.cell by omega,Gi (H2 hd)]
def iU(sg:Int):List cz->List Int->List Int
 |[],b=>b
 |x::l,b=>iU sg l (if x.k=0 then b.set x.i.toNat (b.getD x.i.toNat 0+sg*x.n)else b)
theorem Ba{sg:Int}:∀(a c:List cz) (b:List Int),iU sg (a++c) b=iU sg c (iU sg a b)
 |[],_,_=>rfl
 |x::a,c,b=>Ba a c _
theorem xq{sg:Int}:∀(l:List Lck) (i:Nat) (b:List Int),iU sg (fy m k R i l) b=b
 |[],_,_=>rfl
 |L::l,i,b=>by
  rw[fy];split
  ·rw[iU,if_neg (show¬((1:Int)=0) by decide)];exact xq l (i+1) b
  ·exact xq l (i+1) b
def Ov{b:List Int}{i j:Nat}{v:Int}(hi:i <b.length):(b.set i v).getD j 0=if j=i then v else b.getD j 0:=by
 rw[List.getD_eq_getElem?_getD,List.getD_eq_getElem?_getD,List.getElem?_set];by_cases h:i=j
 ·subst h;simp[hi]
 ·rw[if_neg h,if_neg fun e=>h e.symm]
theorem xp{sg s:Int}:∀(l:List bM) (i:Nat) (b:List Int),i+l.length<=b.length->(iU sg (cZ m k s i l) b).length=b.length/\∀j,(iU sg (cZ m k s i l) b).getD j 0=b.getD j 0+(if i<=j/\j <i+l.length then sg*max 0 (s*eW m k (rowOf m (l.getD (j - i) xc)))else 0)
 |[],i,b,_=>⟨rfl,fun j=>by
   have:¬(i<=j/\j <i+([]:List bM).length):=by simp
   rw[if_neg this,Int.add_zero];rfl⟩
 |y::l,i,b,G=>by
  rw[List.length_cons]at G
  have v:∀(u:List Int),u.length=b.length->(∀j,u.getD j 0=b.getD j 0+if j=i then sg*max 0 (s*eW m k (rowOf m y))else 0)->(iU sg (cZ m k s (i+1) l) u).length=b.length/\∀j,(iU sg (cZ m k s (i+1) l) u).getD j 0=b.getD j 0+(if i<=j/\j <i+(y::l).length then sg*max 0 (s*eW m k (rowOf m ((y::l).getD (j - i) xc)))else 0):=by
   intro u h1 h2;obtain⟨h3,h4⟩:=xp l (i+1) u (by omega);refine⟨h3.trans h1,fun j=>?_⟩;rw[h4,h2,List.length_cons];by_cases z:j=i
   ·subst z;rw[if_pos rfl,if_neg (by omega),if_pos (by omega),Nat.sub_self];simp
   ·rw[if_neg z];by_cases D:i+1<=j/\j <i+1+l.length
    ·rw[if_pos D,if_pos (by omega),show j - i=(j - (i+1))+1 by omega,List.getD_cons_succ];omega
    ·rw[if_neg D,if_neg (by omega)];omega
  rw[cZ];split
  ·rename_i I;rw[iU,if_pos rfl];refine v _ (by simp) fun j=>?_;rw[show((i:Int)).toNat=i by omega,Ov (by omega)];split
   ·rename_i e;rw[e,show max 0 (s*eW m k (rowOf m y))=s*eW m k (rowOf m y) by omega]
   ·omega
  ·rename_i I;refine v b rfl fun j=>?_;rw[show max 0 (s*eW m k (rowOf m y))=0 by omega];simp
def K5{a b:List Int}(hl:a.length=b.length)(h:∀j,j <a.length->a.getD j 0=b.getD j 0):a=b:=by
 refine List.ext_getElem hl fun j h1 h2=>?_;have:=h j h1;rw[List.getD_eq_getElem?_getD,List.getD_eq_getElem?_getD,List.getElem?_eq_getElem h1,List.getElem?_eq_getElem h2]at this;exact this
def FZ{s:List Int}{j:Nat}(h:j <p.aM.length):(oN m p s).getD j 0=tP s (rowOf m (p.aM.getD j xc)):=by
 unfold oN;rw[List.getD_eq_getElem?_getD,List.getElem?_map,getD_some (z:=xc) h];rfl
def la.Pg(h:la m p)(hk:b9 m k=true){s:List Int}(hs:s.length=(bW m.ao m.tables true).length):
  iU 1 (cZ m k (-1) 0 p.aM) (iU (-1) (dS m p k R) (oN m p s))=oN m p (rB s (m.ax.getD k.toNat fD).eff.delta):=by
 have v:(oN m p s).length=p.aM.length:=by unfold oN;simp
 unfold dS;rw[Ba,xq];obtain⟨h1,h2⟩:=xp (m:=m) (k:=k) (sg := -1) (s:=1) p.aM 0 (oN m p s) (by omega);obtain⟨h3,h4⟩:=xp (m:=m) (k:=k) (sg:=1) (s := -1) p.aM 0 (iU (-1) (cZ m k 1 0 p.aM) (oN m p s)) (by omega);refine K5 (h3.trans (h1.trans (v.trans (List.length_map _).symm))) fun j u=>?_;rw[h3,h1,v]at u;rw[h4,h2,FZ u,FZ u,if_pos (by omega),if_pos (by omega),Nat.sub_zero,Ph (xL h.lH hk) (h.row (List.mem_of_getElem? (getD_some u))) hs];unfold eW;omega
end
set_option maxRecDepth 100000
set_option maxHeartbeats 32000000
def EF{m:Md}{p:Pln}{i:Int}(h:PW m p):Cl aj 40 [.t (bN m),.t (a_ p),.t (.int .i64 i)] [] (.t (.int .i64 (eu m p i))) []:=by
 have u:=zZ h;have al:=kP p.aA;have ad:=h.pl.aA;have an:=aW m.ao;have ag:=h.md.ao;unfold eu;by_cases y:cy m p=true/\0<=i/\i <p.aA.length
 ·
  obtain⟨z,D,h1⟩:=y;have I:=(kU.1 z).lH;rw[if_pos (by rw[z,vj.2 ⟨D,h1⟩];rfl)];have V:=yL D h1;have v:=Dm z D h1;obtain⟨L,G⟩:∃L,ox p i=L:=⟨_,rfl⟩;rw[G]at V v⊢;have hc:=nw V;rw[z]at u;unfold n9;have ks:=zY (o:=L.a) (k:=L.pa) h.md v.a0 (by have:=v.ab;have:=v.b;omega);rcases v.tE with⟨p1,p2⟩|⟨⟨p1,J⟩,_,_,p4,U⟩
  ·
   rw[if_pos (by omega)];unfold a_ at u⊢;rw[aZ,bK]at u⊢;refine Cl.ap rfl Tryz.func40 rfl rfl rfl ?_;exact ah
  ·
   rw[if_neg (by omega)];obtain⟨o,Z⟩:=am (xs:=m.ops) (k:=L.a.toNat) (by have:=v.a0;have:=v.ab;have:=v.b;omega);rw[ry Z]at J p4 U;obtain⟨s,hs⟩:=am (xs:=o.ao) (k:=L.pa.toNat) (by omega);have ax:=vT (Ej I o (List.mem_of_getElem? Z)) hs;rw[List.getD_eq_getElem?_getD,hs,Option.getD_some]at p4 U;rw[U]at ks⊢;obtain⟨n,y⟩:=am (xs:=m.ao) (k:=s.toNat) (by omega);have au:=bg y;rw[List.getD_eq_getElem?_getD,y,Option.getD_some];unfold a_ at u⊢;rw[aZ]at ks u⊢;rw[bK]at u⊢;refine Cl.ap rfl Tryz.func40 rfl rfl rfl ?_;exact ah
 ·
  have hf:(cy m p&&q6 p i)=false:=by
   rw[<- Bool.not_eq_true,Bool.and_eq_true,vj];exact y
  rw[hf,if_neg (by decide)];obtain⟨b,hb⟩:∃b,cy m p=b:=⟨_,rfl⟩;rw[hb]at u y;unfold a_ at u⊢;rw[aZ,bK]at u⊢;refine Cl.ap rfl Tryz.func40 rfl rfl rfl ?_
  cases b with
  |false=>
   exact ah
  |true=>
   repeat'(first
|((with_reducible apply aa.bi)<;>intro hq)
|(refine aw ?_)
|((with_reducible apply aa.av);(case hW=>exact rfl);(case hx=>exact ae))
|((with_reducible apply aa.u0);(case hx=>first
|(exact ai u)
|exact ae))
|fail)
   all_goals first
    |exact⟨.inr rfl,rfl⟩
    |(exfalso;apply y;refine⟨rfl,?_,?_⟩<;>omega)
end Go.Proofs.YtcgdbhlnkificaaGreatDoor
