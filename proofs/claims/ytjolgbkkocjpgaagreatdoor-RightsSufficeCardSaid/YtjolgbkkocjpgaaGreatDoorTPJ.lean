/- What the reference's plans ask of actions,as contracts. No condition. -/
import Derived.Test.YtjolgbkkocjpgaaGreatDoorRPD
import Derived.Test.YtjolgbkkocjpgaaGreatDoorTP
set_option linter.all false
namespace Go.Proofs.YtjolgbkkocjpgaaGreatDoor
open Go.RowKit
set_option maxRecDepth 100000
set_option maxHeartbeats 32000000
section
variable {m:Md} {p:Pln} {i k:Int} {L:Lck}
def Pp(hp:ml p)(h0:0<=i)(hg:p.aD[i.toNat]?=some L):Cl ah 117 [.t (aN p),.t (.int .i64 i),.t (.int .i64 k)] [] (.t (.bool (fD L k))) []:=by
 have I:=nK p.aD;have D:=hp.aD;have v:=hp.mem L (List.mem_of_getElem? hg);have Z:=mL hg;have J:=kU L.mem;have U:=(List.getElem?_eq_some_iff.1 hg).1;have z:fD L k=(L.mem.drop 0).any fun x=>decide (x.act=k):=rfl;rw[z];unfold aN;rw[bt];refine Cl.aq rfl Tryz.func117 rfl rfl rfl ?_;refine ak ?_;refine ax.ind (fun q:Nat=>[(7,.t (.int .i64 (q:Int)))]) (fun q=>q<=L.mem.length/\((L.mem.drop 0).any fun x=>decide (x.act=k))=(L.mem.drop q).any fun x=>decide (x.act=k)) (fun q=>L.mem.length - q) 0 rfl ⟨by omega,rfl⟩ (fun q V=>?_);obtain⟨h1,h2⟩:=V;rw[h2];rcases Nat.lt_or_ge q L.mem.length with h3|h3
 ·
  obtain⟨x,y⟩:=aj h3;have G:=iQ y;rw[oe (fun x:Mem=>decide (x.act=k)) y];by_cases u:x.act=k
  ·
   rw[decide_eq_true u,Bool.true_or];exact ae
  ·
   rw[decide_eq_false u,Bool.false_or];exact ae
 ·
  rw[od _ h3];exact ae
def PK(hm:bo m)(hp:ml p)(h0:0<=i)(hg:p.aD[i.toNat]?=some L)(hk:bC m k=true):Cl ah 118 [.t (bk m),.t (aN p),.t (.int .i64 i),.t (.int .i64 k)] [] (.t (.bool (jZ m L k))) []:=by
 have G:=nK p.aD;have y:=hp.aD;have U:=mL hg;have I:=(List.getElem?_eq_some_iff.1 hg).1;have D:=fN m.au;have J:=hm.au;obtain⟨V,Z⟩:=eC.1 hk;obtain⟨a,u⟩:=aj (xs:=m.au) (k:=k.toNat) (by omega);have z:=ei u;unfold jZ;rw[jm u];unfold aN;rw[aS,bt];refine Cl.aq rfl Tryz.func118 rfl rfl rfl ?_;by_cases v:a.op=L.b
 ·
  rw[decide_eq_true v];exact ae
 ·
  rw[decide_eq_false v];exact ae
def Pe(hm:bo m)(hp:ml p)(hv:b7 m=true)(h0:0<=i)(hg:p.aD[i.toNat]?=some L)(U:iY m L)(Z:fD L k=true):Cl ah 119 [.t (bk m),.t (aN p),.t (.int .i64 i),.t (.int .i64 k)] [] (.t (.int .i64 (jd m L k))) []:=by
 have an:=nK p.aD;have ag:=hp.aD;have hc:=mL hg;have av:=(List.getElem?_eq_some_iff.1 hg).1;have al:=fN m.au;have aB:=hm.au;obtain⟨I,ho⟩:=U.part Z;obtain⟨k0,k1⟩:=eC.1 I;have V:=pA I;obtain⟨a,u⟩:∃a,m.au.getD k.toNat fv=a:=⟨_,rfl⟩;rw[u]at V;have ai:=ei V;have G:bg m k=a.op:=jm V;have ao:=aO a.args;rw[U.elem];unfold aN;rw[aS,bt];rcases U.wO with⟨p1,p2⟩|⟨⟨p1,ab⟩,⟨p2,ad⟩,_⟩
 ·
  have J:(if bg m k=L.a then L.pa else L.pb)<0:=by split <;>omega
  rw[if_pos J];refine Cl.aq rfl Tryz.func119 rfl rfl rfl ?_;by_cases D:a.op=L.a
  ·
   exact ae
  ·
   exact ae
 ·
  have J:¬(if bg m k=L.a then L.pa else L.pb)<0:=by split <;>omega
  rw[if_neg J];by_cases D:bg m k=L.a
  ·
   rw[if_pos D];have hg:=u6 hv I (i:=L.pa) p1 (by rw[D];exact ab);rw[u]at hg;have y:=aW hg;rw[G]at D;obtain⟨v,z⟩:∃v,jz m k L.pa=v:=⟨_,rfl⟩;rw[z]at y⊢;refine Cl.aq rfl Tryz.func119 rfl rfl rfl ?_;exact ae
  ·
   rw[if_neg D];have hb:bg m k=L.b:=by omega
   have hg:=u6 hv I (i:=L.pb) p2 (by rw[hb];exact ad);rw[u]at hg;have y:=aW hg;rw[G]at D;obtain⟨v,z⟩:∃v,jz m k L.pb=v:=⟨_,rfl⟩;rw[z]at y⊢;refine Cl.aq rfl Tryz.func119 rfl rfl rfl ?_;exact ae
end
set_option maxRecDepth 100000
set_option maxHeartbeats 32000000
def ni(d:List bv)(c:Int)(q:Nat):Int:=(d.take q).foldl (fun n x=>if x.cell=c then n+x.add else n) 0
def QU{d:List bv}{c:Int}{q:Nat}{x:bv}(h:d[q]?=some x):ni d c (q+1)=if x.cell=c then ni d c q+x.add else ni d c q:=p4 _ _ h
def Hb{n:Nat}{d:List bv}(hd:allI (eu n d) d=true)(hl:d.length<=1000000)(c:Int)(q:Nat): -1000000000000000<=ni d c q/\ni d c q<=1000000000000000:=by
 have h:=Bn (l:=d.take q) (g:=fun n (x:bv)=>if x.cell=c then n+x.add else n) (B:=1000000000) (by omega) (fun n t h=>by
  have:=(Cx hd (List.mem_of_mem_take h)).2
  try dsimp only
  split <;>omega) 0
 have u:((d.take q).length:Int)<=d.length:=by rw[List.length_take];omega
 unfold ni;omega
def Ol{n:Nat}{x:jv}{c:Int}(hd:allI (eu n x.delta) x.delta=true)(hl:x.delta.length<=1000000):Cl ah 160 [.t (.agg (nz x)),.t (.int .i64 c)] [] (.t (.int .i64 (dJ x.delta c))) []:=by
 have I:=q_ x.delta;have z:dJ x.delta c=ni x.delta c x.delta.length:=by unfold ni;rw[List.take_length,<- Bp (Cy hd)];rfl
 rw[z,te];refine Cl.aq rfl Tryz.func160 rfl rfl rfl ?_;refine ak ?_;refine ax.ind (fun q:Nat=>[(5,.t (.int .i64 (ni x.delta c q))),(6,.t (.int .i64 (q:Int)))]) (fun q=>q<=x.delta.length) (fun q=>x.delta.length - q) 0 rfl (by omega) (fun q h1=>?_);rcases Nat.lt_or_ge q x.delta.length with h3|h3
 ·
  obtain⟨t,y⟩:=aj h3;have J:=pO y;have G:=Hb hd hl c q;have u:=Hb hd hl c (q+1);have hs:=QU (c:=c) y;rw[hs]at u;obtain⟨P,D⟩:∃P,ni x.delta c q=P:=⟨_,rfl⟩;rw[D]at hs G u⊢;by_cases v:t.cell=c
  ·
   rw[if_pos v]at hs u;refine ak ?_;exact⟨q+1,by rw[hs];rfl,rfl,by omega,by omega⟩
  ·
   rw[if_neg v]at hs u;refine ak ?_;exact⟨q+1,by rw[hs];rfl,rfl,by omega,by omega⟩
 ·
  obtain rfl:q=x.delta.length:=by omega
  exact ae
def Om{n:Nat}{x:jv}{r:Rw}(hn:n<=100000)(hd:allI (eu n x.delta) x.delta=true)(ht:allI (fK n r.a8) r.a8=true)(hl:x.delta.length<=1000000):Cl ah 116 [.t (.agg (nz x)),.t (.agg (eU r))] [] (.t (.int .i64 (mA x.delta r))) []:=by
 have V:=mf r.a8;have Z:=uD ht;have I:mA x.delta r=iF x.delta r.a8 r.a8.length:=by unfold mA iF;rw[List.take_length]
 have z:=fun c=>Ol (c:=c) hd hl;rw[I];rw[sk];rw[te]at z⊢;refine Cl.aq rfl Tryz.func116 rfl rfl rfl ?_;refine ak ?_;refine ax.ind (fun q:Nat=>[(5,.t (.int .i64 (iF x.delta r.a8 q))),(6,.t (.int .i64 (q:Int)))]) (fun q=>q<=r.a8.length) (fun q=>r.a8.length - q) 0 rfl (by omega) (fun q h1=>?_);rcases Nat.lt_or_ge q r.a8.length with h3|h3
 ·
  obtain⟨t,y⟩:=aj h3;have hc:=nj y;have z:=z t.cell;obtain⟨b1,D,G⟩:=Bw hd ht (List.mem_of_getElem? y);have hs:=Cw (d:=x.delta) y;have U:=sW hd ht q;have u:=sW hd ht (q+1);rw[hs]at u;obtain⟨v,hv⟩:∃v,dJ x.delta t.cell=v:=⟨_,rfl⟩;rw[hv]at z D G hs u;obtain⟨P,J⟩:∃P,iF x.delta r.a8 q=P:=⟨_,rfl⟩;rw[J]at hs U u⊢;refine ak ?_;exact⟨q+1,by rw[hs];rfl,rfl,by omega,by omega⟩
 ·
  obtain rfl:q=r.a8.length:=by omega
  exact ae
theorem ub{m:Md}(h:b7 m=true):bQ m.ai m.tables=true:=by
 unfold b7 at h;simp only[Bool.and_eq_true]at h;exact h.1.1.1
def Rg{m:Md}(hv:bQ m.ai m.tables=true):bp m.ai true m.tables=((bH m.ai m.tables true).length:Int):=by
 have h:=uq m.ai true m.tables;unfold bH;rw[if_pos hv];exact h.symm
section
variable {m:Md} {p:Pln} {e f k R:Int} {L:Lck}
theorem GS{s:List Int}{d:List bv}:∀{l:List Tm},(∀t∈l,(rZ s d).getD t.cell.toNat 0=s.getD t.cell.toNat 0+dJ d t.cell)->∀{b v c:Int},b=v - c->
  l.foldl (fun n t=>n - t.bU*(rZ s d).getD t.cell.toNat 0) b=l.foldl (fun n t=>n - t.bU*s.getD t.cell.toNat 0) v - l.foldl (fun n t=>n+t.bU*dJ d t.cell) c
 |[],_,b,v,c,h=>h
 |t::l,y,b,v,c,h=>by
  rw[List.foldl_cons,List.foldl_cons,List.foldl_cons];refine GS (fun u z=>y u (by simp[z])) ?_;rw[y t (by simp),Int.mul_add];omega
def QE{n:Nat}{s:List Int}{d:List bv}{r:Rw}(hd:allI (eu n d) d=true)(hr:cD n r=true)(hn:s.length=n):jW (rZ s d) r=jW s r - mA d r:=by
 unfold jW mA;refine GS (fun t u=>?_) (by omega);have:=(uE (mZ hr) u).1;rw[N2 (by omega),show((t.cell.toNat:Nat):Int)=t.cell by omega,Bp (Cy hd)]
def ja(sg:Int):List bE->List Int->List Int
 |[],b=>b
 |x::l,b=>ja sg l (if x.k=0 then b.set x.i.toNat (b.getD x.i.toNat 0+sg*x.n)else b)
theorem BZ{sg:Int}:∀(a c:List bE) (b:List Int),ja sg (a++c) b=ja sg c (ja sg a b)
 |[],_,_=>rfl
 |x::a,c,b=>BZ a c _
theorem yr{sg:Int}:∀(l:List Lck) (i:Nat) (b:List Int),ja sg (dt m k R i l) b=b
 |[],_,_=>rfl
 |L::l,i,b=>by
  rw[dt];split
  ·rw[ja,if_neg (show¬((1:Int)=0) by decide)];exact yr l (i+1) b
  ·exact yr l (i+1) b
def PY{b:List Int}{i j:Nat}{v:Int}(hi:i <b.length):(b.set i v).getD j 0=if j=i then v else b.getD j 0:=by
 rw[List.getD_eq_getElem?_getD,List.getD_eq_getElem?_getD,List.getElem?_set];by_cases h:i=j
 ·subst h;simp[hi]
 ·rw[if_neg h,if_neg fun e=>h e.symm]
theorem yq{sg s:Int}:∀(l:List bI) (i:Nat) (b:List Int),i+l.length<=b.length->(ja sg (aT m k s i l) b).length=b.length/\∀j,(ja sg (aT m k s i l) b).getD j 0=b.getD j 0+(if i<=j/\j <i+l.length then sg*max 0 (s*dY m k (rowOf m (l.getD (j - i) yf)))else 0)
 |[],i,b,_=>⟨rfl,fun j=>by
   have:¬(i<=j/\j <i+([]:List bI).length):=by simp
   rw[if_neg this,Int.add_zero];rfl⟩
 |y::l,i,b,G=>by
  rw[List.length_cons]at G
  have v:∀(u:List Int),u.length=b.length->(∀j,u.getD j 0=b.getD j 0+if j=i then sg*max 0 (s*dY m k (rowOf m y))else 0)->(ja sg (aT m k s (i+1) l) u).length=b.length/\∀j,(ja sg (aT m k s (i+1) l) u).getD j 0=b.getD j 0+(if i<=j/\j <i+(y::l).length then sg*max 0 (s*dY m k (rowOf m ((y::l).getD (j - i) yf)))else 0):=by
   intro u h1 h2;obtain⟨h3,h4⟩:=yq l (i+1) u (by omega);refine⟨h3.trans h1,fun j=>?_⟩;rw[h4,h2,List.length_cons];by_cases z:j=i
   ·subst z;rw[if_pos rfl,if_neg (by omega),if_pos (by omega),Nat.sub_self];simp
   ·rw[if_neg z];by_cases D:i+1<=j/\j <i+1+l.length
    ·rw[if_pos D,if_pos (by omega),show j - i=(j - (i+1))+1 by omega,List.getD_cons_succ];omega
    ·rw[if_neg D,if_neg (by omega)];omega
  rw[aT];split
  ·rename_i I;rw[ja,if_pos rfl];refine v _ (by simp) fun j=>?_;rw[show((i:Int)).toNat=i by omega,PY (by omega)];split
   ·rename_i e;rw[e,show max 0 (s*dY m k (rowOf m y))=s*dY m k (rowOf m y) by omega]
   ·omega
  ·rename_i I;refine v b rfl fun j=>?_;rw[show max 0 (s*dY m k (rowOf m y))=0 by omega];simp
def Mz{a b:List Int}(hl:a.length=b.length)(h:∀j,j <a.length->a.getD j 0=b.getD j 0):a=b:=by
 refine List.ext_getElem hl fun j h1 h2=>?_;have:=h j h1;rw[List.getD_eq_getElem?_getD,List.getD_eq_getElem?_getD,List.getElem?_eq_getElem h1,List.getElem?_eq_getElem h2]at this;exact this
def GU{s:List Int}{j:Nat}(h:j <p.ao.length):(gl m p s).getD j 0=jW s (rowOf m (p.ao.getD j yf)):=by
 unfold gl;rw[List.getD_eq_getElem?_getD,List.getElem?_map,getD_some (z:=yf) h];rfl
def ll.GR(h:ll m p)(hk:bC m k=true){s:List Int}(hs:s.length=(bH m.ai m.tables true).length):
  ja 1 (aT m k (-1) 0 p.ao) (ja (-1) (bO m p k R) (gl m p s))=gl m p (rZ s (m.au.getD k.toNat fv).eff.delta):=by
 have v:(gl m p s).length=p.ao.length:=by unfold gl;simp
 unfold bO;rw[BZ,yr];obtain⟨h1,h2⟩:=yq (m:=m) (k:=k) (sg := -1) (s:=1) p.ao 0 (gl m p s) (by omega);obtain⟨h3,h4⟩:=yq (m:=m) (k:=k) (sg:=1) (s := -1) p.ao 0 (ja (-1) (aT m k 1 0 p.ao) (gl m p s)) (by omega);refine Mz (h3.trans (h1.trans (v.trans (List.length_map _).symm))) fun j u=>?_;rw[h3,h1,v]at u;rw[h4,h2,GU u,GU u,if_pos (by omega),if_pos (by omega),Nat.sub_zero,QE (vq h.kV hk) (h.row (List.mem_of_getElem? (getD_some u))) hs];unfold dY;omega
end
set_option maxRecDepth 100000
set_option maxHeartbeats 32000000
end Go.Proofs.YtjolgbkkocjpgaaGreatDoor
