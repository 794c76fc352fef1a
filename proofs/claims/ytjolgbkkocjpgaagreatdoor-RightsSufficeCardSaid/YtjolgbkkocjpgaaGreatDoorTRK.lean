/- Law 39: RightsSuffice. No condition. -/
import Derived.Test.YtjolgbkkocjpgaaGreatDoorTRU
import Derived.Test.YtjolgbkkocjpgaaGreatDoorTRS
import Derived.Test.YtjolgbkkocjpgaaGreatDoorTRX
set_option linter.all false
namespace Go.Proofs.YtjolgbkkocjpgaaGreatDoor
open Go.RowKit
section
variable {g:Cfg} {d:Option (List Nat)} {env:Env} {fr:Fr} {i':Nat}
def ac.pM{t sz:Nat}{l c:Operand}{v u x:SV}{ro tch:Bool}{es:List (List AV)}(hs:∀C:CallF,step g C d i' env fr (.makeSlice t l c)=ca g C (dZ d i') env fr (.makeSlice t l c))(hl:rd env l=v)(hc:rd env c=u)(hd:dZ d i'=true)(hm:iO g.P [] t v u=some (x,[.row ro tch sz es],[])):ac g d i' env fr (.makeSlice t l c) (.t (.arr es)) fr []:=.r fun C=>by
 subst hl hc;rw[hs];unfold ca tX;simp only[hm,hd]
end
section
open Go.ChangeShapes Go.WideShapes Go.Deep
variable {H:Type} {enc:TypeId×Value->H} {P:Program} {W:World}
set_option maxRecDepth 100000 in
theorem SI {m b0:Nat} {g:Cfg} {γ:Glob} (hP:g.P=Tryz.prog) (V:Wf g γ) {F:FuncId} {f:Func} {s:ChangeSpec} {args:Array Value} {ds gs:List (DataW H)} {u:List MemPlace} {ts:List TypeId} (y:s.vars=[]) (ab:f.resultTypes=#[4])
  (D:(f.params.toList.all fun t=>Tryz.prog.readableRec t && decide (t < Tryz.prog.types.size))=true) (ag:(f.params.toList.all fun t=>mg Tryz.prog m t)=true) (Z:∀ ds:List (DataW H),ds.length=f.params.toList.length->s.fn H ds={ results:=[.lit (.bool true)],args:=ds })
  (I:∀ (j:Nat) t v,f.params[j]?=some t->args[j]?=some v->Value.okWide Tryz.prog W .any b0 t v)
  (hW:DataW.Whole enc Tryz.prog f.params.toList s.vars false W args.toList ds gs u) (ad:(DataW.weightsEach Tryz.prog (f.params.toList++ts) (ds++gs)).all (·<=reachBytes)=true)
  (hG:γ.G W) (hn:γ.n<=W.heap.size) (z:∀ xs,uP Tryz.prog m f.params.toList xs->Cl g F (xs.map .t) [] (.t (.bool true)) []) :
  Calls Tryz.prog F args W fun e W'=>∃ v,e=.returned v/\s.post enc Tryz.prog f false true false false W args v W':=by
 have U:=hW;obtain ⟨p,q,J,hV,rfl,al,an⟩:=hW;have hA:DataW.TrodAll enc Tryz.prog W 0 (fun _=>true) true f.params.toList args.toList ds p:=J;obtain ⟨hl,xs,hx,ai⟩:=B6 f.params.toList args.toList ds p ag (fun j t v h1 h2=>I j t v (by simpa using h1) (by simpa using h2)) hA (G0 ad);refine L_ y ab D (Z ds hl) U ?_;rw [<- hP];exact Ma V (z xs hx) hG hn ai
end
def SK{n:Nat}(h:n<=1000000):b6 n 8=true:=by simp[b6];omega
set_option maxRecDepth 100000
set_option maxHeartbeats 16000000
def j3(x:List Int):Int:=x.foldl (fun s n=>IntKind.i64.wrap (s+n)) 0
def Sz{l:List (List Int)}(hl:l.length<=1000000)(hx:∀x∈l,x.length<=1000000):Cl ah 15 [.t (.arr (aF l))] [] (.t (.arr (aE (l.map j3)))) []:=by
 have J:=ic l;refine Cl.cL rfl Tryz.func15 rfl rfl rfl ?_;refine ak ?_;refine ax.cA (fun x:Nat×Bool×List Int=>[(3,.ls 0),(11,.t (.int .i64 (x.1:Int)))]) (fun x=>[.row false x.2.1 1 (aE x.2.2)]) (fun x=>x.1<=l.length/\x.2.2=(l.take x.1).map j3) (fun x=>l.length - x.1) (0,false,[]) rfl rfl ⟨by dsimp only;omega,rfl⟩ (fun x D=>?_);obtain⟨q,Z,O⟩:=x;dsimp only at D⊢;obtain⟨h1,h2⟩:=D;have G:O.length=q:=by rw[h2,List.length_map,List.length_take];omega
 rcases Nat.lt_or_ge q l.length with h3|h3
 ·
  obtain⟨x,v⟩:=aj h3;have hc:(aF l)[q]?=some [.arr (aE x)]:=iG v;have U:=aO x;have V:=hx x (List.mem_of_getElem? v);refine ak ?_;refine ax.ind (fun k:Nat=>[(6,.t (.int .i64 (j3 (x.take k)))),(17,.t (.int .i64 (k:Int)))]) (fun k=>k<=x.length) (fun k=>x.length - k) 0 rfl (by omega) (fun k hk=>?_);rcases Nat.lt_or_ge k x.length with h4|h4
  ·
   obtain⟨n,hn⟩:=aj h4;have I:=aW hn;have hs:j3 (x.take (k+1))=IntKind.i64.wrap (j3 (x.take k)+n):=by unfold j3;rw[List.take_add_one,List.foldl_append,hn];rfl
   repeat'(first
|((with_reducible apply aa.aR);(case hp=>exact aA))
|(refine ar ?_)
|((with_reducible apply aa.u0);(case hx=>first
|(exact ac.sL (m:=j3 (x.take k)) (n:=n) rfl rfl)
|exact af))
|fail)
   refine⟨k+1,?_,rfl,by omega,by omega⟩;rw[hs];rfl
  ·
   rw[List.take_of_length_le h4];obtain⟨s,hs⟩:∃s,j3 x=s:=⟨_,rfl⟩;rw[hs];have y:b6 ((aE O).length+1) 8=true:=by rw[aO];exact SK (by omega)
   have z:aE O++[[.int .i64 s]]=aE (O++[s]):=by simp[aE]
   repeat'(first
|(with_reducible apply am.seq)
|((with_reducible apply am.text);(try case hm=>exact rfl))
|(with_reducible first|apply am.exit|apply dx|apply qG|apply pI)
|((with_reducible apply am.jB);(case hc=>exact rfl))
|((with_reducible apply aa.cQ);(case hp=>exact aA))
|(with_reducible first|apply aa.cI|apply aa.eE)
|((with_reducible apply aa.u);(case hx=>((with_reducible apply ac.da);(case hs=>exact fun _=>rfl);(case ha|ht=>exact rfl);(case hr=>first|(with_reducible exact c7)|(with_reducible exact rw1)|(with_reducible exact c8)|(with_reducible exact rw3)|(with_reducible exact rw4)|exact rfl);(case hx|hy|hn|hb|hok=>exact rfl);(case hlen=>exact y);(case hv=>exact z);(case hk=>exact de);(case hf=>exact leq))))
|((with_reducible apply aa.u0);(case hx=>exact af))
|fail)
   refine⟨(q+1,true,O++[s]),rfl,rfl,⟨by dsimp only;omega,?_⟩,by dsimp only;omega⟩;dsimp only;rw[List.take_add_one,List.map_append,v,<- h2,<- hs];rfl
 ·
  rw[List.take_of_length_le h3]at h2;rw[<- h2];exact ae
def SO(A:List Int)(u:A.length<=140737488351232):Cl ah 14 [.t (ay A),.t (ay A)] [] (.t (.bool true)) []:=by
 have h:=Kc (xs:=A) (v:=A) u u;rwa[show(A==A)=true by simp]at h
def j0(N:Nat)(r a:Int):Ev:=⟨r,1,1,List.replicate N 0,0,a,0,0,0,0,0,0,1⟩
def j1(N:Nat)(o r:Int)(x:bE):Ev:=⟨o,1,1,List.replicate N 0,1,0,x.k,x.i,x.el,x.n,r,0,0⟩
def So{N:Nat}(u:1<=N/\N<=5){e:Ev}(hp:e.past=List.replicate N 0)(hr:0<=e.r/\e.r <N)(hn:e.n=1)(ht:e.t=1):jh e=true:=by
 have h1:(List.replicate N (0:Int)).getD e.r.toNat 0=0:=by
  rw[List.getD_eq_getElem?_getD,List.getElem?_replicate];split <;>rfl
 have h2:gK (List.replicate N (0:Int))=true:=by
  rcases(by omega:N=1\/N=2\/N=3\/N=4\/N=5)with rfl|rfl|rfl|rfl|rfl <;>rfl
 unfold jh cO;rw[hp,h1,h2,hn,ht,List.length_replicate];simp;omega
def SG{m:Md}{p:Pln}{N:Nat}{r a:Int}(u:1<=N/\N<=5)(hr:0<=r/\r <N)(ha:0<=a/\a <m.au.length)(hl:m.au.length<=30):fC m p N (j0 N r a)=true:=by
 have v:jh (j0 N r a)=true:=So u rfl hr rfl rfl;unfold fC fu cW;rw[v];simp[j0,oc,oI,cO,fq];exact⟨⟨decide_eq_true (by omega),decide_eq_true (by omega)⟩,decide_eq_true (by omega)⟩
def SH{m:Md}{p:Pln}{N:Nat}{o r:Int}{x:bE}(u:1<=N/\N<=5)(ho:0<=o/\o <N)(hr:0<=r/\r <N)(y:o≠r)(hk:x.k=0)(he:x.el=0)(hi:0<=x.i/\x.i <p.ao.length)(hp:p.ao.length<=20)(hn:1<=x.n):fC m p N (j1 N o r x)=decide (x.n<=1000000):=by
 have v:jh (j1 N o r x)=true:=So u rfl ho rfl rfl;unfold fC fu cW;rw[v];by_cases h:x.n<=1000000
 ·simp[j1,rv,cO,fq,hk,he,h];omega
 ·simp[j1,rv,cO,fq,hk,he,h]
def SP(a b:Int):IntKind.i64.wrap (IntKind.i64.wrap a+b)=IntKind.i64.wrap (a+b):=by
 rw[IntKind.wrap_i64,IntKind.wrap_i64,IntKind.wrap_i64];omega
theorem Sv:∀(x:List Int) (s:Int),x.foldl (fun s n=>IntKind.i64.wrap (s+n)) (IntKind.i64.wrap s)=IntKind.i64.wrap (s+x.sum)
 |[],s=>by simp
 |n::x,s=>by
  show x.foldl (fun s n=>IntKind.i64.wrap (s+n)) (IntKind.i64.wrap (IntKind.i64.wrap s+n))=_
  rw[SP,Sv x (s+n),List.sum_cons,Int.add_assoc]
def Su(x:List Int):j3 x=IntKind.i64.wrap x.sum:=by
 have h:=Sv x 0;rw[Int.zero_add]at h;exact h
theorem A1:∀(x:List Int) (k:Nat) (v n:Int),x[k]?=some n->(x.set k v).sum+n=x.sum+v
 |[],_,_,_,h=>by simp at h
 |y::x,0,v,n,h=>by
  simp at h;subst h;simp only[List.set_cons_zero,List.sum_cons];omega
 |y::x,k+1,v,n,h=>by
  have:=A1 x k v n (by simpa using h);simp only[List.set_cons_succ,List.sum_cons];omega
def SE{N R:Nat}{z:List (List Int)}{i o r:Nat}{n:Int}(h:bM N R z)(hp:pu N R z)(hi:i <N)(ho:o <R)(hr:r <R)(I:o≠r)(hn:1<=n/\n<=1000000)(t:cz)(ht:bW N R t):
  bZ (aP (aP z ⟨i,o,0 - n⟩) ⟨i,r,n⟩) t=if t.i=i/\t.r=r then bZ z t+n else if t.i=i/\t.r=o then bZ z t - n else bZ z t:=by
 have h1:bW N R ⟨i,o,0 - n⟩:=⟨hi,ho⟩;have h2:bW N R ⟨i,r,n⟩:=⟨hi,hr⟩;have V:=hp _ h1;have Z:=hp _ h2;have J:IntKind.i64.wrap (bZ z ⟨i,o,0 - n⟩+(0 - n))=bZ z ⟨i,o,0 - n⟩ - n:=by rw[IntWalk.i64_in _ (by omega)];omega
 have G:bZ (aP z ⟨i,o,0 - n⟩) ⟨i,r,n⟩=bZ z ⟨i,r,n⟩:=by rw[tC _ h h1,if_neg (by dsimp only;omega)]
 have U:IntKind.i64.wrap (bZ z ⟨i,r,n⟩+n)=bZ z ⟨i,r,n⟩+n:=IntWalk.i64_in _ (by omega);rw[tC t (lX h h1) h2,G];dsimp only;by_cases u:t.i=i/\t.r=r
 ·rw[if_pos u,if_pos u,U];obtain⟨y,D⟩:=u;unfold bZ;rw[y,D]
 ·rw[if_neg u,if_neg u,tC t h h1];dsimp only;by_cases v:t.i=i/\t.r=o
  ·rw[if_pos v,if_pos v,J];obtain⟨y,D⟩:=v;unfold bZ;rw[y,D]
  ·rw[if_neg v,if_neg v]
def SF{N R:Nat}{z:List (List Int)}{i o r:Nat}{n:Int}(h:bM N R z)(hp:pu N R z)(hi:i <N)(ho:o <R)(hr:r <R)(ab:o≠r)(hn:1<=n/\n<=1000000):(aP (aP z ⟨i,o,0 - n⟩) ⟨i,r,n⟩).map j3=z.map j3:=by
 have h1:bW N R ⟨i,o,0 - n⟩:=⟨hi,ho⟩;have h2:bW N R ⟨i,r,n⟩:=⟨hi,hr⟩;have p1:=hp _ h1;have p2:=hp _ h2;obtain⟨x,a,G,J,hl,Z,u⟩:=na h h1;obtain⟨y,b,D,U,_,I,v⟩:=na (lX h h1) h2;dsimp only at G J hl Z u D U I v;have e2:bZ (aP z ⟨i,o,0 - n⟩) ⟨i,r,n⟩=bZ z ⟨i,r,n⟩:=by rw[tC _ h h1,if_neg (by dsimp only;omega)]
 rw[v,u];rw[u,List.getElem?_set_self (aC G)]at D;have D:x.set o (IntKind.i64.wrap (a+(0 - n)))=y:=Option.some.inj D;rw[List.set_set];have w1:IntKind.i64.wrap (a+(0 - n))=a - n:=by rw[IntWalk.i64_in _ (by omega)];omega
 have w2:IntKind.i64.wrap (b+n)=b+n:=IntWalk.i64_in _ (by omega);have s1:=A1 x o (IntKind.i64.wrap (a+(0 - n))) a J;rw[D,w1]at s1;have s2:=A1 y r (IntKind.i64.wrap (b+n)) b U;rw[w2]at s2⊢
 have hs:j3 (y.set r (b+n))=j3 x:=by
  rw[Su,Su];congr 1;omega
 apply List.ext_getElem?;intro j;rw[List.getElem?_map,List.getElem?_map];by_cases V:i=j
 ·subst V;rw[List.getElem?_set_self (aC G),G];show some _=some _
  rw[hs]
 ·rw[List.getElem?_set_ne V]
def SD{N R:Nat}{z:List (List Int)}{i o r:Nat}{n:Int}(h:bM N R z)(hp:pu N R z)(hi:i <N)(ho:o <R)(hr:r <R)(G:o≠r)(hn:1<=n/\n<=1000000):
  (([⟨i,o,0 - n⟩,⟨i,r,n⟩]:List cz).foldl bL (z,0)).2=if bZ z ⟨i,o,0⟩<n then 9 else if 1000000000000 <bZ z ⟨i,r,0⟩+n then 8 else 0:=by
 have h1:bW N R ⟨i,o,0 - n⟩:=⟨hi,ho⟩;have h2:bW N R ⟨i,r,n⟩:=⟨hi,hr⟩;have V:=hp _ h1;have Z:=hp _ h2;have I:bZ z ⟨i,o,0 - n⟩=bZ z ⟨i,o,0⟩:=rfl;have J:bZ z ⟨i,r,n⟩=bZ z ⟨i,r,0⟩:=rfl;have U:IntKind.i64.wrap (bZ z ⟨i,o,0 - n⟩+(0 - n))=bZ z ⟨i,o,0 - n⟩ - n:=by rw[IntWalk.i64_in _ (by omega)];omega
 have y:bZ (aP z ⟨i,o,0 - n⟩) ⟨i,o,0 - n⟩=bZ z ⟨i,o,0⟩ - n:=by rw[tC _ h h1,if_pos ⟨rfl,rfl⟩,U,I]
 have v:bZ (aP z ⟨i,o,0 - n⟩) ⟨i,r,n⟩=bZ z ⟨i,r,n⟩:=by rw[tC _ h h1,if_neg (by dsimp only;omega)]
 have D:bZ (aP (aP z ⟨i,o,0 - n⟩) ⟨i,r,n⟩) ⟨i,r,n⟩=bZ z ⟨i,r,0⟩+n:=by
  rw[tC _ (lX h h1) h2,if_pos ⟨rfl,rfl⟩,v,J];show IntKind.i64.wrap (bZ z ⟨i,r,0⟩+n)=bZ z ⟨i,r,0⟩+n
  exact IntWalk.i64_in _ (by omega)
 show ow (ow 0 (bZ (aP z ⟨i,o,0 - n⟩) ⟨i,o,0 - n⟩)) (bZ (aP (aP z ⟨i,o,0 - n⟩) ⟨i,r,n⟩) ⟨i,r,n⟩)=_
 rw[y,D];unfold ow;rw[if_pos rfl];by_cases u:bZ z ⟨i,o,0⟩<n
 ·rw[if_pos u,if_pos (show bZ z ⟨i,o,0⟩ - n <0 by omega),if_neg (by decide)]
 ·rw[if_neg u,if_neg (show¬bZ z ⟨i,o,0⟩ - n <0 by omega),if_neg (show¬1000000000000 <bZ z ⟨i,o,0⟩ - n by omega),if_pos rfl,if_neg (by omega)]
theorem take_zero{N R:Nat}:∀{S:List cz} {z:List (List Int)},(∀s∈S,bW N R s/\ -1000000000000000<=s.a/\s.a<=0)->S.Pairwise qP->bM N R z->pu N R z->(∀s∈S,0<=bZ z s+s.a)->(S.foldl bL (z,0)).2=0/\pu N R (S.foldl aP z)
 |[],_,_,_,_,h,_=>⟨rfl,h⟩
 |s::S,z,h1,h2,h3,h4,D=>by
  obtain⟨hs,V,Z⟩:=h1 s (by simp);obtain⟨v,y⟩:=List.pairwise_cons.1 h2;have hp:=h4 s hs;have hn:=D s (by simp);have I:IntKind.i64.wrap (bZ z s+s.a)=bZ z s+s.a:=IntWalk.i64_in _ (by omega);have hg:bZ (aP z s) s=bZ z s+s.a:=by rw[tC s h3 hs,if_pos ⟨rfl,rfl⟩,I]
  have J:bL (z,0) s=(aP z s,0):=by
   unfold bL ow;rw[if_pos rfl,hg,if_neg (by omega),if_neg (by omega)]
  have U:pu N R (aP z s):=fun t u=>by
   rw[tC t h3 hs];split
   ·rw[I];omega
   ·exact h4 t u
  have ih:=take_zero (S:=S) (z:=aP z s) (fun t u=>h1 t (by simp[u])) y (lX h3 hs) U fun t u=>by
   rw[tC t h3 hs,if_neg (fun G=>v t u ⟨G.1.symm,G.2.symm⟩)];exact D t (by simp[u])
  show(S.foldl bL (bL (z,0) s)).2=0/\_
  rw[J];exact ih
theorem Sy{N R:Nat}:∀{S:List cz} {z:List (List Int)},(∀s∈S,bW N R s/\ -1000000000000000<=s.a/\s.a<=0)->S.Pairwise qP->bM N R z->pu N R z->(∃s∈S,bZ z s+s.a <0)->(S.foldl bL (z,0)).2=9
 |[],_,_,_,_,_,h=>by obtain⟨s,hs,_⟩:=h;cases hs
 |s::S,z,h1,h2,h3,h4,Z=>by
  obtain⟨hs,ab,ad⟩:=h1 s (by simp);obtain⟨y,D⟩:=List.pairwise_cons.1 h2;have hp:=h4 s hs;have V:IntKind.i64.wrap (bZ z s+s.a)=bZ z s+s.a:=IntWalk.i64_in _ (by omega);have J:bZ (aP z s) s=bZ z s+s.a:=by rw[tC s h3 hs,if_pos ⟨rfl,rfl⟩,V]
  show(S.foldl bL (bL (z,0) s)).2=9
  by_cases I:bZ z s+s.a <0
  ·have G:bL (z,0) s=(aP z s,9):=by unfold bL ow;rw[if_pos rfl,J,if_pos I]
   rw[G];exact vj (by decide) S _
  ·have G:bL (z,0) s=(aP z s,0):=by
    unfold bL ow;rw[if_pos rfl,J,if_neg I,if_neg (by omega)]
   have h7:pu N R (aP z s):=fun t v=>by
    rw[tC t h3 hs];split
    ·rw[V];omega
    ·exact h4 t v
   rw[G];refine Sy (S:=S) (fun t v=>h1 t (by simp[v])) D (lX h3 hs) h7 ?_;obtain⟨t,v,u⟩:=Z;rcases List.mem_cons.1 v with rfl|v
   ·exact absurd u I
   ·exact⟨t,v,by rw[tC t h3 hs,if_neg (fun U=>y t v ⟨U.1.symm,U.2.symm⟩)];exact u⟩
def A3{m:Md}{p:Pln}{e:Ev}{l:List (List Int)}(h:lh m p e)(hr:eI p e.past.length l=true)(U:∀s∈dw m p e,0<=bZ l s+s.a):((du m p e).foldl bL (l,0)).2=0\/((du m p e).foldl bL (l,0)).2=8:=by
 obtain⟨v,J⟩:=sj hr;obtain⟨D,t2⟩:=Br h;obtain⟨G,I⟩:=Dy h;have Z:=(xb J v).1 hr;obtain⟨V,y⟩:=take_zero D t2 v Z U;have z:bM p.ao.length e.past.length ((dw m p e).foldl aP l):=o5 (fun s hs=>(D s hs).1) v;have h1:((dw m p e).foldl bL (l,0))=((dw m p e).foldl aP l,0):=Prod.ext (xr _ _) V;rw[Bj,List.foldl_append,h1];rcases Dx G I z y with⟨u,_⟩|⟨u,_⟩
 ·exact .inl u
 ·exact .inr u
def SB{m:Md}{p:Pln}{e:Ev}{l:List (List Int)}(h:lh m p e)(hr:eI p e.past.length l=true)(y:∃s∈dw m p e,bZ l s+s.a <0):((du m p e).foldl bL (l,0)).2=9:=by
 obtain⟨u,v⟩:=sj hr;obtain⟨G,I⟩:=Br h;have D:=(xb v u).1 hr;have z:=Sy G I u D y;have h1:((dw m p e).foldl bL (l,0))=((dw m p e).foldl aP l,9):=Prod.ext (xr _ _) z;rw[Bj,List.foldl_append,h1];exact vj (by decide) _ _
theorem Sq{l:List (List Int)}:∀{S:List cz},(∀s∈S,0<=s.a)->fX l S=[]
 |[],_=>rfl
 |s::S,h=>by
  have h1:rN l s=[]:=by unfold rN;rw[if_neg];rintro⟨h2,_⟩;have:=h s (by simp);omega
  show rN l s++fX l S=[]
  rw[h1,Sq fun t u=>h t (by simp[u])];rfl
def k6{l:List (List Int)}{S:List cz}{x:bE}:x∈fX l S↔∃s∈S,(s.a <0/\bZ l s+s.a <0)/\x=⟨0,(s.i:Int),0,0 - s.a - bZ l s⟩:=by
 unfold fX;rw[List.mem_flatMap];constructor
 ·rintro⟨s,hs,u⟩;unfold rN at u;split at u
  ·rename_i h;exact⟨s,hs,h,by simpa using u⟩
  ·cases u
 ·rintro⟨s,hs,h,rfl⟩;exact⟨s,hs,by unfold rN;rw[if_pos h];simp⟩
theorem Sr{l:List (List Int)}:∀{S:List cz},S.Pairwise (fun s t=>s.i <t.i)->(fX l S).Pairwise fun x y=>x.i <y.i
 |[],_=>.nil
 |s::S,h=>by
  obtain⟨h1,h2⟩:=List.pairwise_cons.1 h;show(rN l s++fX l S).Pairwise _
  rw[List.pairwise_append];refine⟨?_,Sr h2,fun x u y z=>?_⟩
  ·unfold rN;split
   ·exact List.pairwise_singleton _ _
   ·exact .nil
  ·obtain⟨t,v,_,rfl⟩:=k6.1 z;unfold rN at u;split at u
   ·obtain rfl:x=_:=by simpa using u
    have:=h1 t v;dsimp only;omega
   ·cases u
def Sw{m:Md}{p:Pln}{e:Ev}(h:lh m p e)(hk:e.k=0):(∀s∈dw m p e,s.r=e.r.toNat)/\(dw m p e).Pairwise fun s t=>s.i <t.i:=by
 obtain⟨ab,G,hr,v,ad,J⟩:=h;unfold dw;rw[if_pos hk];obtain⟨hv,z,_⟩:=kI.1 (v hk);have D:bC m e.a=true:=eC.2 z;rw[uc];have I:=fun x (Z:x∈aT m e.a 1 0 p.ao)=>nw hv D (.inl rfl) Z;unfold bn;refine⟨fun s hs=>?_,?_⟩
 ·obtain⟨x,_,rfl⟩:=List.mem_map.1 hs;rfl
 ·rw[List.pairwise_map];refine List.Pairwise.imp_of_mem (fun{x y} U V u=>?_) ((vi p.ao 0).filter _);rw[List.mem_filter]at U V;obtain⟨j,_,h2,_⟩:=I x U.1;obtain⟨k,_,h3,_⟩:=I y V.1;rw[h2]at u⊢;rw[h3]at u⊢;dsimp only at u⊢;omega
structure j2 (m:Md) (p:Pln) (N:Nat) (e:Ev) (l z:List (List Int)) (q:Nat):Prop where
 sh:bM p.ao.length N z
 pos:pu p.ao.length N z
 sum:z.map j3=l.map j3
 lens:z.map List.length=l.map List.length
 at':∀s∈dw m p e,((s.i:Int)∈((fX l (dw m p e)).take q).map bE.i->bZ z s=0 - s.a)/\((s.i:Int)∉((fX l (dw m p e)).take q).map bE.i->bZ z s=bZ l s)
def SL{N R:Nat}{l z:List (List Int)}(h1:bM N R l)(h2:bM N R z):z.map List.length=l.map List.length:=by
 have u:∀{w:List (List Int)},bM N R w->w.map List.length=List.replicate N R:=fun{w} h=>by
  rw[List.eq_replicate_iff];refine⟨by rw[List.length_map];exact h.1,fun b v=>?_⟩;obtain⟨x,y,rfl⟩:=List.mem_map.1 v;exact h.2 x y
 rw[u h1,u h2]
def j2.start{m:Md}{p:Pln}{N:Nat}{e:Ev}{l:List (List Int)}(u:bM p.ao.length N l)(hp:pu p.ao.length N l):j2 m p N e l l 0:=⟨u,hp,rfl,rfl,fun s hs=>⟨fun h=>by simp at h,fun _=>rfl⟩⟩
theorem Ss:∀{S:List cz},S.Pairwise (fun s t=>s.i <t.i)->∀{s t:cz},s∈S->t∈S->s.i=t.i->s=t
 |[],_,_,_,h,_,_=>by cases h
 |a::S,h,s,t,hs,y,e=>by
  obtain⟨h1,h2⟩:=List.pairwise_cons.1 h;rcases List.mem_cons.1 hs with v|v
  ·rcases List.mem_cons.1 y with u|u
   ·rw[v,u]
   ·have:=h1 t u;rw[<- v]at this;omega
  ·rcases List.mem_cons.1 y with u|u
   ·have:=h1 s v;rw[<- u]at this;omega
   ·exact Ss h2 v u e
theorem Sx:∀{M:List bE},M.Pairwise (fun x y=>x.i <y.i)->∀{q:Nat} {x:bE},M[q]?=some x->∀y∈M.take q,y.i <x.i
 |[],_,q,x,h,_,_=>by simp at h
 |a::M,h,0,x,_,y,u=>by simp at u
 |a::M,h,q+1,x,v,y,u=>by
  obtain⟨h1,h2⟩:=List.pairwise_cons.1 h;rw[List.getElem?_cons_succ]at v;rw[List.take_succ_cons]at u;rcases List.mem_cons.1 u with rfl|u
  ·exact h1 x (List.mem_of_getElem? v)
  ·exact Sx h2 v y u
def j2.step{m:Md}{p:Pln}{N:Nat}{e:Ev}{l z:List (List Int)}{q:Nat}{x:bE}{o:Nat}(v:lh m p e)(hk:e.k=0)(hN:e.past.length=N)(h:j2 m p N e l z q)(hx:(fX l (dw m p e))[q]?=some x)(ho:o <N)(G:o≠e.r.toNat)(hn:1<=x.n/\x.n<=1000000)(hi:x.i.toNat <p.ao.length)
  (hA:x.n<=bZ z ⟨x.i.toNat,o,0⟩)(hB:bZ z ⟨x.i.toNat,e.r.toNat,0⟩+x.n<=1000000000000):j2 m p N e l (aP (aP z ⟨x.i.toNat,o,0 - x.n⟩) ⟨x.i.toNat,e.r.toNat,x.n⟩) (q+1):=by
 have hr:e.r.toNat <N:=by have:=v.r;omega
 obtain⟨t1,t2⟩:=Br v;rw[hN]at t1;obtain⟨u1,u2⟩:=Sw v hk;have hM:=Sr (l:=l) u2;have s1:bW p.ao.length N ⟨x.i.toNat,o,0 - x.n⟩:=⟨hi,ho⟩;have s2:bW p.ao.length N ⟨x.i.toNat,e.r.toNat,x.n⟩:=⟨hi,hr⟩;have u:=SE h.sh h.pos hi ho hr G hn;refine⟨lX (lX h.sh s1) s2,fun t ht=>?_,(SF h.sh h.pos hi ho hr G hn).trans h.sum,(SL h.sh (lX (lX h.sh s1) s2)).trans h.lens,fun s hs=>?_⟩
 ·rw[u t ht];have hp:=h.pos t ht;split
  ·rename_i c;have:bZ z t=bZ z ⟨x.i.toNat,e.r.toNat,0⟩:=by unfold bZ;rw[c.1,c.2]
   omega
  ·split
   ·rename_i c;have:bZ z t=bZ z ⟨x.i.toNat,o,0⟩:=by unfold bZ;rw[c.1,c.2]
    omega
   ·exact hp
 ·obtain⟨V,ab,ai,J⟩:=k6.1 (List.mem_of_getElem? hx);have U:x.i=(V.i:Int):=by rw[J]
  have al:x.n=0 - V.a - bZ l V:=by rw[J]
  have D:x.i∉((fX l (dw m p e)).take q).map bE.i:=fun hm=>by
   obtain⟨y,hy,he⟩:=List.mem_map.1 hm;have:=Sx hM hx y hy;omega
  have ag:((fX l (dw m p e)).take (q+1)).map bE.i=((fX l (dw m p e)).take q).map bE.i++[x.i]:=by
   rw[List.take_add_one,hx,List.map_append];rfl
  rw[ag,u s (t1 s hs).1,u1 s hs];by_cases ad:s.i=V.i
  ·obtain rfl:=Ss u2 hs ab ad;have h2:=(h.at' s hs).2 (by rw[<- U];exact D);rw[if_pos ⟨by omega,rfl⟩,h2];refine⟨fun _=>by omega,fun Z=>absurd ?_ Z⟩;rw[List.mem_append,List.mem_singleton];exact .inr U.symm
  ·rw[if_neg (by omega),if_neg (by omega)];have I:=h.at' s hs;refine⟨fun hm=>I.1 ?_,fun hm=>I.2 fun Z=>hm ?_⟩
   ·rw[List.mem_append,List.mem_singleton]at hm;rcases hm with hm|hm
    ·exact hm
    ·omega
   ·rw[List.mem_append];exact .inl Z
def j2.done{m:Md}{p:Pln}{N:Nat}{e:Ev}{l z:List (List Int)}{q:Nat}(v:lh m p e)(G:e.past.length=N)(hl:pu p.ao.length N l)(h:j2 m p N e l z q)(hq:(fX l (dw m p e)).length<=q):∀s∈dw m p e,0<=bZ z s+s.a:=fun s hs=>by
 obtain⟨D,_⟩:=Br v;rw[G]at D;obtain⟨h1,h2⟩:=h.at' s hs;rw[List.take_of_length_le hq]at h1 h2;by_cases y:(s.i:Int)∈(fX l (dw m p e)).map bE.i
 ·rw[h1 y];omega
 ·rw[h2 y];have I:=hl s (D s hs).1;by_cases u:s.a <0/\bZ l s+s.a <0
  ·exact absurd (List.mem_map.2 ⟨_,k6.2 ⟨s,hs,u,rfl⟩,rfl⟩) y
  ·have:=(D s hs).2;omega
def SN{m:Md}{p:Pln}{e:Ev}{l:List (List Int)}(u:lh m p e):fX l (du m p e)=fX l (dw m p e):=by
 rw[Bj,rO,Sq (S:=ii m p e) fun s hs=>((Dy u).1 s hs).2.1,List.append_nil]
def Sm{m:Md}{p:Pln}{e:Ev}{l:List (List Int)}(hv:cX m p=true)(hk:fC m p e.past.length e=true)(hr:eI p e.past.length l=true):(gv m p l e).2=((du m p e).foldl bL (l,0)).2:=by
 unfold gv;rw[if_pos ⟨hv,hk,hr⟩];split
 ·rename_i h;exact h.symm
 ·rfl
def SA{m:Md}{p:Pln}{e:Ev}{l:List (List Int)}(v:lh m p e)(hv:cX m p=true)(hk:fC m p e.past.length e=true)(hr:eI p e.past.length l=true):
  ((gv m p l e).2=9/\fX l (dw m p e)≠[])\/(((gv m p l e).2=0\/(gv m p l e).2=8)/\fX l (dw m p e)=[]):=by
 rw[Sm hv hk hr];obtain⟨z,G⟩:=sj hr;obtain⟨V,_⟩:=Br v;have J:=(xb G z).1 hr;by_cases y:∀s∈dw m p e,0<=bZ l s+s.a
 ·refine .inr ⟨A3 v hr y,?_⟩;rw[List.eq_nil_iff_forall_not_mem];intro x U;obtain⟨s,hs,u,_⟩:=k6.1 U;have:=y s hs;omega
 ·have y:∃s∈dw m p e,bZ l s+s.a <0:=by
   apply Classical.byContradiction;intro I
   exact y fun s hs=>by
    rcases Int.lt_or_le (bZ l s+s.a) 0 with h|h
    ·exact absurd ⟨s,hs,h⟩ I
    ·exact h
  refine .inl ⟨SB v hr y,fun D=>?_⟩;obtain⟨s,hs,u⟩:=y;have h1:=J s (V s hs).1;have:(⟨0,(s.i:Int),0,0 - s.a - bZ l s⟩:bE)∈fX l (dw m p e):=k6.2 ⟨s,hs,⟨by omega,u⟩,rfl⟩;rw[D]at this;cases this
set_option maxHeartbeats 32000000
def SC{m:Md}{E:List Ev}(h:iJ m E=true):m.au.length<=30:=by
 unfold iJ at h;simp only[Bool.and_eq_true,decide_eq_true_eq]at h;exact h.1.2.2.2.2.1
def SM{m:Md}{p:Pln}{l:List (List Int)}{r a:Int}:((lM m p l r a).2≠0/\(lM m p l r a).1=[])\/(cX m p=true/\eI p (eM l) l=true/\qz m l r a=true/\lM m p l r a=(fX l (du m p (n_ (eM l).toNat r a)),0)):=by
 unfold lM;split
 ·rename_i h;split
  ·rename_i h2;exact .inr ⟨h.1,h.2,h2,rfl⟩
  ·exact .inl ⟨by decide,rfl⟩
 ·exact .inl ⟨by decide,rfl⟩
def SJ{m:Md}{p:Pln}{l:List (List Int)}{r a o:Int}(hm:bo m)(hp:ml p)(hl:l.length<=17592186044416)(hx:∀x∈l,x.length<=17592186044416):Cl ah 4 [.t (bk m),.t (aN p),.t (.arr (aF l)),.t (.int .i64 r),.t (.int .i64 a),.t (.int .i64 o)] [] (.t (.bool true)) []:=by
 have cl:=hm.eff;have k0:=Oq;have kf:=KA (p:=p) (l:=l) (E:=[]) hm cl hp (by omega) (fun x h=>by have:=hx x h;omega) (by simp) (fun x h=>by cases h);have e0:(.arr (cC []):AV)=.arr []:=rfl;rw[e0]at kf;have ev:=ic l
 cases bh:rk m p l []with
 |false=>
  rw[bh]at kf;unfold aN at kf⊢;rw[aS]at kf⊢;rw[bt]at kf⊢;refine Cl.aq rfl Tryz.func4 rfl rfl rfl ?_;exact ae
 |true=>
  rw[bh]at kf;obtain⟨hW,hS⟩:=KB hm cl hp bh;obtain⟨df,hf,an,au⟩:=Dc bh;have da:=SC df;by_cases eo:l.length=0
  ·
   unfold aN at kf⊢;rw[aS]at kf⊢;rw[bt]at kf⊢;refine Cl.aq rfl Tryz.func4 rfl rfl rfl ?_;exact ae
  ·
   have km:=FN (l:=l) (r:=r) (a:=a) hW (by omega) (by omega) (fun x h=>by have:=au x h;omega);rcases SM (m:=m) (p:=p) (l:=l) (r:=r) (a:=a)with⟨hc,h0⟩|⟨hv,hr,hg,hM⟩
   ·
    generalize lM m p l r a=S at km hc h0;obtain⟨A,c⟩:=S;dsimp only at km hc h0;subst h0;have e2:(.arr (ba []):AV)=.arr []:=rfl;rw[e2]at km;unfold aN at kf km⊢;rw[aS]at kf km⊢;rw[bt]at kf km⊢;refine Cl.aq rfl Tryz.func4 rfl rfl rfl ?_;exact ae
   ·
    rw[hM]at km;dsimp only at km;obtain⟨x0,bz⟩:=aj (xs:=l) (k:=0) (by omega);obtain⟨N,hN⟩:∃N,x0.length=N:=⟨_,rfl⟩
    have b2:eM l=(N:Int):=by
     cases l with
     |nil=>simp at bz
     |cons y l=>simp at bz;subst bz;show((y.length:Nat):Int)=_;rw[hN]
    rw[b2]at hr;obtain⟨cM,hR⟩:=sj hr;have cc:=(xb hR cM).1 hr;unfold qz at hg;rw[b2]at hg;simp only[Bool.and_eq_true,decide_eq_true_eq]at hg;obtain⟨⟨g1,g2⟩,g3,g4⟩:=hg;have av:(j0 N r a).past.length=N:=List.length_replicate;have b5:fC m p (j0 N r a).past.length (j0 N r a)=true:=by rw[av];exact SG hR ⟨g1,g2⟩ ⟨g3,g4⟩ da
    have aG:=(vK hW (by omega) hv b5).1;have eb:du m p (n_ (eM l).toNat r a)=du m p (j0 N r a):=by rw[b2];rfl
    rw[eb,SN aG]at km;have ka:=Fz (l:=l) (e:=j0 N r a) hW (by omega) (by omega) (fun x h=>by have:=au x h;omega) (by rw[av];omega);have dd:=SA (l:=l) aG hv b5 (by rw[av];exact hr);have ek:=iG bz;have ey:=aO x0;have ew:=EG (fX l (dw m p (j0 N r a)))
    have ef:(fX l (dw m p (j0 N r a))).length<=100000000:=by
     have h1:=t_ l (dw m p (j0 N r a))
     have h2:(dw m p (j0 N r a)).length<=p.ao.length:=by
      unfold dw;rw[if_pos (show(j0 N r a).k=0 from rfl),uc];exact Nat.le_trans (by unfold bn;rw[List.length_map];exact List.length_filter_le _ _) (ou _ _ _ _ _)
     omega
    have U:=fun(fr:Fr)=>Ej fr (N:=N) (by omega);obtain⟨Z,hZ⟩:∃Z,aE (List.replicate N 0)=Z:=⟨_,rfl⟩;have hz:List.replicate N [AV.int .i64 0]=Z:=by rw[<- hZ];unfold aE;simp
    rw[hz]at U;rw[<- hN]at U;have kt:=Sz (l:=l) (by omega) (fun x h=>by have:=au x h;omega)
    have hH:((gv m p l (j0 N r a)).2=9/\(fX l (dw m p (j0 N r a))).length≠0)\/((gv m p l (j0 N r a)).2=0/\(fX l (dw m p (j0 N r a))).length=0)\/((gv m p l (j0 N r a)).2=8/\(fX l (dw m p (j0 N r a))).length=0):=by
     rcases dd with⟨h1,h2⟩|⟨h1|h1,h2⟩
     ·exact .inl ⟨h1,fun h=>h2 (List.eq_nil_of_length_eq_zero h)⟩
     ·exact .inr (.inl ⟨h1,by rw[h2];rfl⟩)
     ·exact .inr (.inr ⟨h1,by rw[h2];rfl⟩)
    have b1:∀z:List (List Int),j2 m p N (j0 N r a) l z (fX l (dw m p (j0 N r a))).length->(gv m p z (j0 N r a)).2=0\/(gv m p z (j0 N r a)).2=8:=fun z G=>by
     have bw:eI p (j0 N r a).past.length z=true:=by rw[av];exact(xb hR G.sh).2 G.pos
     rw[Sm hv b5 bw];exact A3 aG bw (G.done aG av cc (Nat.le_refl _))
    have a1:=fun(z:List (List Int)) (hz:z.map List.length=l.map List.length)=>Fz (l:=z) (e:=j0 N r a) hW (by omega) (by have:=(D_ hz an au).1;omega) (fun x h=>by have:=(D_ hz an au).2 x h;omega) (by rw[av];omega)
    have dj:∀s∈dw m p (j0 N r a),bW p.ao.length N s/\s.r=r.toNat:=fun s hs=>by
     have h1:=((Br aG).1 s hs).1;rw[av]at h1;exact⟨h1,(Sw aG rfl).1 s hs⟩
    unfold bN b8 at a1 ka;by_cases ho:0<=o/\o <N/\o≠r
    ·
     obtain⟨eE,eL,dr⟩:=ho;obtain⟨O,rfl⟩:∃O:Nat,o=(O:Int):=⟨o.toNat,by omega⟩;have aV:=fun(z:List (List Int)) (y:bE) (hz:z.map List.length=l.map List.length)=>Fz (l:=z) (e:=j1 N O r y) hW (by omega) (by have:=(D_ hz an au).1;omega) (fun x h=>by have:=(D_ hz an au).2 x h;omega) (by show(List.replicate N (0:Int)).length<=_;rw[List.length_replicate];omega);unfold bN b8 at aV;have dm:(O:Nat)≠(j0 N r a).r.toNat:=by show O≠r.toNat;omega
     -- what a gift gives
     have b4:∀(z:List (List Int)) (q:Nat) (y:bE),j2 m p N (j0 N r a) l z q->(fX l (dw m p (j0 N r a)))[q]?=some y->(y.k=0/\y.el=0)/\(0<=y.i/\y.i <p.ao.length)/\1<=y.n/\((1000000 <y.n/\gv m p z (j1 N O r y)=([],1))\/(y.n<=1000000/\bZ z ⟨y.i.toNat,O,0⟩<y.n/\gv m p z (j1 N O r y)=([],9))\/(y.n<=1000000/\y.n<=bZ z ⟨y.i.toNat,O,0⟩/\gv m p z (j1 N O r y)=([],8))\/
       (y.n<=1000000/\y.n<=bZ z ⟨y.i.toNat,O,0⟩/\∃z',gv m p z (j1 N O r y)=(z',0)/\j2 m p N (j0 N r a) l z' (q+1))):=fun z q y G hy=>by
      obtain⟨s,hs,ee,bT⟩:=k6.1 (List.mem_of_getElem? hy);obtain⟨cA,eR⟩:=dj s hs;have eN:=cc s cA;have V:y.k=0:=by rw[bT]
      have ai:y.el=0:=by rw[bT]
      have a8:y.i=(s.i:Int):=by rw[bT]
      have bb:y.n=0 - s.a - bZ l s:=by rw[bT]
      have ct:0<=y.i/\y.i <p.ao.length:=by have:=cA.1;omega
      have bm:1<=y.n:=by omega
      have cp:(j1 N O r y).past.length=N:=List.length_replicate;have bl:fC m p (j1 N O r y).past.length (j1 N O r y)=decide (y.n<=1000000):=by rw[cp];exact SH hR ⟨by omega,by omega⟩ ⟨g1,g2⟩ dr V ai ct hf bm
      have bw:eI p (j1 N O r y).past.length z=true:=by rw[cp];exact(xb hR G.sh).2 G.pos
      refine⟨⟨V,ai⟩,ct,bm,?_⟩;by_cases ab:y.n<=1000000
      ·rw[decide_eq_true ab]at bl
       have bx:du m p (j1 N O r y)=[⟨y.i.toNat,O,0 - y.n⟩,⟨y.i.toNat,r.toNat,y.n⟩]:=by
        unfold du;rw[if_neg (show¬(j1 N O r y).k=0 by show¬((1:Int)=0);decide),if_pos (show fq (j1 N O r y)=true by unfold fq;simp[j1,V])];simp[j1]
       have b3:=SD G.sh G.pos (i:=y.i.toNat) (o:=O) (r:=r.toNat) (n:=y.n) (by omega) (by omega) (by omega) (by omega) ⟨bm,ab⟩
       have cf:gv m p z (j1 N O r y)=if((du m p (j1 N O r y)).foldl bL (z,0)).2=0 then(((du m p (j1 N O r y)).foldl bL (z,0)).1,0)else([],((du m p (j1 N O r y)).foldl bL (z,0)).2):=by
        unfold gv;rw[if_pos ⟨hv,bl,bw⟩]
       rw[cf,bx,b3];by_cases c1:bZ z ⟨y.i.toNat,O,0⟩<y.n
       ·rw[if_pos c1,if_neg (by decide)];exact .inr (.inl ⟨ab,c1,rfl⟩)
       ·rw[if_neg c1];by_cases c2:1000000000000 <bZ z ⟨y.i.toNat,r.toNat,0⟩+y.n
        ·rw[if_pos c2,if_neg (by decide)];exact .inr (.inr (.inl ⟨ab,by omega,rfl⟩))
        ·rw[if_neg c2,if_pos rfl];exact .inr (.inr (.inr ⟨ab,by omega,aP (aP z ⟨y.i.toNat,O,0 - y.n⟩) ⟨y.i.toNat,r.toNat,y.n⟩,rfl,G.step aG rfl av hy (by omega) dm ⟨bm,ab⟩ (by omega) (by omega) (by show bZ z ⟨y.i.toNat,r.toNat,0⟩+y.n<=_;omega)⟩))
      ·rw[decide_eq_false ab]at bl;refine .inl ⟨by omega,?_⟩;unfold gv;rw[if_neg];rintro⟨_,h2,_⟩;rw[bl]at h2;cases h2
     have bU:j2 m p N (j0 N r a) l l 0:=j2.start cM cc;have b0:=fun(z:List (List Int)) (q:Nat) (G:j2 m p N (j0 N r a) l z q)=>Sz (l:=z) (by have:=(D_ G.lens an au).1;omega) (fun x h=>by have:=(D_ G.lens an au).2 x h;omega);have a6:=SO (l.map j3) (by rw[List.length_map];omega);generalize fX l (dw m p (j0 N r a))=M at*
     generalize ej:gv m p l (j0 N r a)=S at ka hH;obtain⟨B,f⟩:=S;dsimp only[j0]at ka hH;unfold ay at ka;rw[hZ]at ka;unfold aN at kf km ka a1 aV⊢;rw[aS]at kf km ka a1 aV⊢;rw[bt]at kf km ka a1 aV⊢;refine Cl.aq rfl Tryz.func4 rfl rfl rfl ?_;rcases hH with⟨aJ,be⟩|⟨aJ,be⟩|⟨aJ,be⟩
     all_goals subst aJ
     ·
      repeat'(first
|(refine aY ?_)
|(refine ar ?_)
|((with_reducible apply aa.aB);(case hW=>exact rfl);(case hx=>exact af))
|((with_reducible apply aa.u0);(case hx=>first
|((with_reducible apply ac.ec);(case hs=>exact fun _=>rfl);(case hl|hc|hd=>exact rfl);(case hm=>exact U _);(case hf=>exact leq))
|((with_reducible apply ac.IJ);(case hcal|hav|hx|hh|hm=>exact rfl);(case hcl=>exact ka);(case hd|hf'|hn=>exact rfl);(case hf=>exact leq))
|(exact ap k0)
|(exact ap kf)
|(exact gR km)
|(exact gR kt)
|exact af))
|fail)
      apply am.lK
      case ho=>exact rfl
      case hp=>exact rfl
      case hl=>exact rfl
      case hs=>exact slt
      refine ax.ind (fun x:List (List Int)×Nat=>[(2,.t (.arr (aF x.1))),(95,.t (.int .i64 (x.2:Int)))]) (fun x=>x.2<=M.length/\j2 m p N (j0 N r a) l x.1 x.2) (fun x=>M.length - x.2) (l,0) rfl ⟨by dsimp only;omega,bU⟩ (fun x J=>?_);obtain⟨z,q⟩:=x;dsimp only at J⊢;obtain⟨h1,G⟩:=J;rcases Nat.lt_or_ge q M.length with h3|h3
      ·
       obtain⟨y,hy⟩:=aj h3;obtain⟨⟨V,ai⟩,a8,bb,ad⟩:=b4 z q y G hy;obtain⟨yk,yi,ye,yn⟩:=y;dsimp only at V ai a8 bb ad;subst V ai;obtain⟨I,rfl⟩:∃I:Nat,yi=(I:Int):=⟨yi.toNat,by omega⟩;have bd:=kX hy;dsimp only at bd;have c0:=G.sh.1;have cL:=ic z;obtain⟨w,hw⟩:=aj (xs:=z) (k:=I) (by omega);have ch:=iG hw;have cQ:=G.sh.2 w (List.mem_of_getElem? hw);have cI:=aO w;obtain⟨v,aD⟩:=aj (xs:=w) (k:=O) (by omega);have cg:=aW aD
       have bf:bZ z ⟨(I:Int).toNat,O,0⟩=v:=by
        unfold bZ;dsimp only;rw[Int.toNat_natCast,List.getD_eq_getElem?_getD,List.getD_eq_getElem?_getD,hw];show(w[O]?).getD 0=v
        rw[aD];rfl
       have D:=aV z ⟨0,I,0,yn⟩ G.lens;rw[bf]at ad;rcases ad with⟨c1,c2⟩|⟨c1,c2,c3⟩|⟨c1,c2,c3⟩|⟨c1,c2,z',c3,c4⟩
       ·
        rw[c2]at D;dsimp only[j1]at D;unfold ay at D;rw[hZ]at D
        repeat'(first
|(refine aY ?_)
|(refine ar ?_)
|((with_reducible apply az.u);(case hfl=>kernel_rfl);(case hx=>first
|((with_reducible apply ac.pM);(case hs=>exact fun _=>rfl);(case hl|hc|hd=>exact rfl);(case hm=>exact U []))
|exact af))
|((with_reducible apply aa.aB);(case hW=>exact rfl);(case hx=>exact af))
|((with_reducible apply aa.u0);(case hx=>first
|(exact gR D)
|exact af))
|fail)
        all_goals first|exact⟨.inr rfl,rfl⟩|(exfalso;omega)|(exfalso;exact J rfl)
       ·
        rw[c3]at D;dsimp only[j1]at D;unfold ay at D;rw[hZ]at D
        repeat'(first
|(refine aY ?_)
|(refine ar ?_)
|((with_reducible apply az.u);(case hfl=>kernel_rfl);(case hx=>first
|((with_reducible apply ac.pM);(case hs=>exact fun _=>rfl);(case hl|hc|hd=>exact rfl);(case hm=>exact U []))
|exact af))
|((with_reducible apply aa.aB);(case hW=>exact rfl);(case hx=>exact af))
|((with_reducible apply aa.u0);(case hx=>first
|(exact gR D)
|exact af))
|fail)
        all_goals first|exact⟨.inr rfl,rfl⟩|(exfalso;omega)|(exfalso;exact J rfl)
       ·
        rw[c3]at D;dsimp only[j1]at D;unfold ay at D;rw[hZ]at D
        repeat'(first
|(refine aY ?_)
|(refine ar ?_)
|((with_reducible apply az.u);(case hfl=>kernel_rfl);(case hx=>first
|((with_reducible apply ac.pM);(case hs=>exact fun _=>rfl);(case hl|hc|hd=>exact rfl);(case hm=>exact U []))
|exact af))
|((with_reducible apply aa.aB);(case hW=>exact rfl);(case hx=>exact af))
|((with_reducible apply aa.u0);(case hx=>first
|(exact gR D)
|exact af))
|fail)
        all_goals first|exact⟨.inr rfl,rfl⟩|(exfalso;omega)|(exfalso;exact J rfl)
       ·
        rw[c3]at D;dsimp only[j1]at D;unfold ay at D;rw[hZ]at D
        repeat'(first
|(refine aY ?_)
|(refine ar ?_)
|((with_reducible apply az.u);(case hfl=>kernel_rfl);(case hx=>first
|((with_reducible apply ac.pM);(case hs=>exact fun _=>rfl);(case hl|hc|hd=>exact rfl);(case hm=>exact U []))
|exact af))
|((with_reducible apply aa.aB);(case hW=>exact rfl);(case hx=>exact af))
|((with_reducible apply aa.u0);(case hx=>first
|(exact gR D)
|exact af))
|fail)
        all_goals first|exact⟨(z',q+1),rfl,rfl,⟨by dsimp only;omega,c4⟩,by dsimp only;omega⟩|(exfalso;omega)
      ·
       obtain rfl:q=M.length:=by omega
       have ag:=b1 z G;have kz:=a1 z G.lens;have al:=b0 z _ G;rw[G.sum]at al;generalize gv m p z (j0 N r a)=S2 at ag kz;obtain⟨B2,f2⟩:=S2;dsimp only[j0]at ag kz;unfold ay at kz;rw[hZ]at kz;rcases ag with rfl|rfl
       ·
        repeat'(first
|(refine aY ?_)
|(refine ar ?_)
|((with_reducible apply aa.aB);(case hW=>exact rfl);(case hx=>exact af))
|((with_reducible apply aa.u0);(case hx=>first
|((with_reducible apply ac.IJ);(case hcal|hav|hx|hh|hm=>exact rfl);(case hcl=>exact kz);(case hd|hf'|hn=>exact rfl);(case hf=>exact leq))
|(exact gR al)
|(exact ap a6)
|exact af))
|fail)
        all_goals first|exact⟨.inr rfl,rfl⟩|(exfalso;omega)|(exfalso;exact J rfl)
       ·
        repeat'(first
|(refine aY ?_)
|(refine ar ?_)
|((with_reducible apply aa.aB);(case hW=>exact rfl);(case hx=>exact af))
|((with_reducible apply aa.u0);(case hx=>first
|((with_reducible apply ac.IJ);(case hcal|hav|hx|hh|hm=>exact rfl);(case hcl=>exact kz);(case hd|hf'|hn=>exact rfl);(case hf=>exact leq))
|(exact gR al)
|(exact ap a6)
|exact af))
|fail)
        all_goals first|exact⟨.inr rfl,rfl⟩|(exfalso;omega)|(exfalso;exact J rfl)
     ·
      repeat'(first
|(refine aY ?_)
|(refine ar ?_)
|((with_reducible apply aa.aB);(case hW=>exact rfl);(case hx=>exact af))
|((with_reducible apply aa.u0);(case hx=>first
|((with_reducible apply ac.ec);(case hs=>exact fun _=>rfl);(case hl|hc|hd=>exact rfl);(case hm=>exact U _);(case hf=>exact leq))
|((with_reducible apply ac.IJ);(case hcal|hav|hx|hh|hm=>exact rfl);(case hcl=>exact ka);(case hd|hf'|hn=>exact rfl);(case hf=>exact leq))
|(exact ap k0)
|(exact ap kf)
|(exact gR km)
|(exact gR kt)
|exact af))
|fail)
      apply am.lK
      case ho=>exact rfl
      case hp=>exact rfl
      case hl=>exact rfl
      case hs=>exact slt
      refine ax.ind (fun x:List (List Int)×Nat=>[(2,.t (.arr (aF x.1))),(95,.t (.int .i64 (x.2:Int)))]) (fun x=>x.2<=M.length/\j2 m p N (j0 N r a) l x.1 x.2) (fun x=>M.length - x.2) (l,0) rfl ⟨by dsimp only;omega,bU⟩ (fun x J=>?_);obtain⟨z,q⟩:=x;dsimp only at J⊢;obtain⟨h1,G⟩:=J;rcases Nat.lt_or_ge q M.length with h3|h3
      ·
       obtain⟨y,hy⟩:=aj h3;obtain⟨⟨V,ai⟩,a8,bb,ad⟩:=b4 z q y G hy;obtain⟨yk,yi,ye,yn⟩:=y;dsimp only at V ai a8 bb ad;subst V ai;obtain⟨I,rfl⟩:∃I:Nat,yi=(I:Int):=⟨yi.toNat,by omega⟩;have bd:=kX hy;dsimp only at bd;have c0:=G.sh.1;have cL:=ic z;obtain⟨w,hw⟩:=aj (xs:=z) (k:=I) (by omega);have ch:=iG hw;have cQ:=G.sh.2 w (List.mem_of_getElem? hw);have cI:=aO w;obtain⟨v,aD⟩:=aj (xs:=w) (k:=O) (by omega);have cg:=aW aD
       have bf:bZ z ⟨(I:Int).toNat,O,0⟩=v:=by
        unfold bZ;dsimp only;rw[Int.toNat_natCast,List.getD_eq_getElem?_getD,List.getD_eq_getElem?_getD,hw];show(w[O]?).getD 0=v
        rw[aD];rfl
       have D:=aV z ⟨0,I,0,yn⟩ G.lens;rw[bf]at ad;rcases ad with⟨c1,c2⟩|⟨c1,c2,c3⟩|⟨c1,c2,c3⟩|⟨c1,c2,z',c3,c4⟩
       ·
        rw[c2]at D;dsimp only[j1]at D;unfold ay at D;rw[hZ]at D
        repeat'(first
|((with_reducible apply aa.aR);(case hp=>exact aA))
|(refine ar ?_)
|((with_reducible apply aa.u0);(case hx=>exact af))
|fail)
        all_goals first|exact⟨.inr rfl,rfl⟩|(exfalso;omega)|(exfalso;exact J rfl)
       ·
        rw[c3]at D;dsimp only[j1]at D;unfold ay at D;rw[hZ]at D
        repeat'(first
|((with_reducible apply aa.aR);(case hp=>exact aA))
|(refine ar ?_)
|((with_reducible apply aa.u0);(case hx=>exact af))
|fail)
        all_goals first|exact⟨.inr rfl,rfl⟩|(exfalso;omega)|(exfalso;exact J rfl)
       ·
        rw[c3]at D;dsimp only[j1]at D;unfold ay at D;rw[hZ]at D
        repeat'(first
|((with_reducible apply aa.aR);(case hp=>exact aA))
|(refine ar ?_)
|((with_reducible apply aa.u0);(case hx=>exact af))
|fail)
        all_goals first|exact⟨.inr rfl,rfl⟩|(exfalso;omega)|(exfalso;exact J rfl)
       ·
        rw[c3]at D;dsimp only[j1]at D;unfold ay at D;rw[hZ]at D
        repeat'(first
|((with_reducible apply aa.aR);(case hp=>exact aA))
|(refine ar ?_)
|((with_reducible apply aa.u0);(case hx=>exact af))
|fail)
        all_goals first|exact⟨(z',q+1),rfl,rfl,⟨by dsimp only;omega,c4⟩,by dsimp only;omega⟩|(exfalso;omega)
      ·
       obtain rfl:q=M.length:=by omega
       have ag:=b1 z G;have kz:=a1 z G.lens;have al:=b0 z _ G;rw[G.sum]at al;generalize gv m p z (j0 N r a)=S2 at ag kz;obtain⟨B2,f2⟩:=S2;dsimp only[j0]at ag kz;unfold ay at kz;rw[hZ]at kz;rcases ag with rfl|rfl
       ·
        repeat'(first
|(refine aY ?_)
|(refine ar ?_)
|((with_reducible apply aa.aB);(case hW=>exact rfl);(case hx=>exact af))
|((with_reducible apply aa.u0);(case hx=>first
|((with_reducible apply ac.IJ);(case hcal|hav|hx|hh|hm=>exact rfl);(case hcl=>exact kz);(case hd|hf'|hn=>exact rfl);(case hf=>exact leq))
|(exact gR al)
|(exact ap a6)
|exact af))
|fail)
        all_goals first|exact⟨.inr rfl,rfl⟩|(exfalso;omega)|(exfalso;exact J rfl)
       ·
        repeat'(first
|(refine aY ?_)
|(refine ar ?_)
|((with_reducible apply aa.aB);(case hW=>exact rfl);(case hx=>exact af))
|((with_reducible apply aa.u0);(case hx=>first
|((with_reducible apply ac.IJ);(case hcal|hav|hx|hh|hm=>exact rfl);(case hcl=>exact kz);(case hd|hf'|hn=>exact rfl);(case hf=>exact leq))
|(exact gR al)
|(exact ap a6)
|exact af))
|fail)
        all_goals first|exact⟨.inr rfl,rfl⟩|(exfalso;omega)|(exfalso;exact J rfl)
     ·
      repeat'(first
|(refine aY ?_)
|(refine ar ?_)
|((with_reducible apply aa.aB);(case hW=>exact rfl);(case hx=>exact af))
|((with_reducible apply aa.u0);(case hx=>first
|((with_reducible apply ac.ec);(case hs=>exact fun _=>rfl);(case hl|hc|hd=>exact rfl);(case hm=>exact U _);(case hf=>exact leq))
|((with_reducible apply ac.IJ);(case hcal|hav|hx|hh|hm=>exact rfl);(case hcl=>exact ka);(case hd|hf'|hn=>exact rfl);(case hf=>exact leq))
|(exact ap k0)
|(exact ap kf)
|(exact gR km)
|(exact gR kt)
|exact af))
|fail)
      apply am.lK
      case ho=>exact rfl
      case hp=>exact rfl
      case hl=>exact rfl
      case hs=>exact slt
      refine ax.ind (fun x:List (List Int)×Nat=>[(2,.t (.arr (aF x.1))),(95,.t (.int .i64 (x.2:Int)))]) (fun x=>x.2<=M.length/\j2 m p N (j0 N r a) l x.1 x.2) (fun x=>M.length - x.2) (l,0) rfl ⟨by dsimp only;omega,bU⟩ (fun x J=>?_);obtain⟨z,q⟩:=x;dsimp only at J⊢;obtain⟨h1,G⟩:=J;rcases Nat.lt_or_ge q M.length with h3|h3
      ·
       obtain⟨y,hy⟩:=aj h3;obtain⟨⟨V,ai⟩,a8,bb,ad⟩:=b4 z q y G hy;obtain⟨yk,yi,ye,yn⟩:=y;dsimp only at V ai a8 bb ad;subst V ai;obtain⟨I,rfl⟩:∃I:Nat,yi=(I:Int):=⟨yi.toNat,by omega⟩;have bd:=kX hy;dsimp only at bd;have c0:=G.sh.1;have cL:=ic z;obtain⟨w,hw⟩:=aj (xs:=z) (k:=I) (by omega);have ch:=iG hw;have cQ:=G.sh.2 w (List.mem_of_getElem? hw);have cI:=aO w;obtain⟨v,aD⟩:=aj (xs:=w) (k:=O) (by omega);have cg:=aW aD
       have bf:bZ z ⟨(I:Int).toNat,O,0⟩=v:=by
        unfold bZ;dsimp only;rw[Int.toNat_natCast,List.getD_eq_getElem?_getD,List.getD_eq_getElem?_getD,hw];show(w[O]?).getD 0=v
        rw[aD];rfl
       have D:=aV z ⟨0,I,0,yn⟩ G.lens;rw[bf]at ad;rcases ad with⟨c1,c2⟩|⟨c1,c2,c3⟩|⟨c1,c2,c3⟩|⟨c1,c2,z',c3,c4⟩
       ·
        rw[c2]at D;dsimp only[j1]at D;unfold ay at D;rw[hZ]at D
        repeat'(first
|((with_reducible apply aa.aR);(case hp=>exact aA))
|(refine ar ?_)
|((with_reducible apply aa.u0);(case hx=>exact af))
|fail)
        all_goals first|exact⟨.inr rfl,rfl⟩|(exfalso;omega)|(exfalso;exact J rfl)
       ·
        rw[c3]at D;dsimp only[j1]at D;unfold ay at D;rw[hZ]at D
        repeat'(first
|((with_reducible apply aa.aR);(case hp=>exact aA))
|(refine ar ?_)
|((with_reducible apply aa.u0);(case hx=>exact af))
|fail)
        all_goals first|exact⟨.inr rfl,rfl⟩|(exfalso;omega)|(exfalso;exact J rfl)
       ·
        rw[c3]at D;dsimp only[j1]at D;unfold ay at D;rw[hZ]at D
        repeat'(first
|((with_reducible apply aa.aR);(case hp=>exact aA))
|(refine ar ?_)
|((with_reducible apply aa.u0);(case hx=>exact af))
|fail)
        all_goals first|exact⟨.inr rfl,rfl⟩|(exfalso;omega)|(exfalso;exact J rfl)
       ·
        rw[c3]at D;dsimp only[j1]at D;unfold ay at D;rw[hZ]at D
        repeat'(first
|((with_reducible apply aa.aR);(case hp=>exact aA))
|(refine ar ?_)
|((with_reducible apply aa.u0);(case hx=>exact af))
|fail)
        all_goals first|exact⟨(z',q+1),rfl,rfl,⟨by dsimp only;omega,c4⟩,by dsimp only;omega⟩|(exfalso;omega)
      ·
       obtain rfl:q=M.length:=by omega
       have ag:=b1 z G;have kz:=a1 z G.lens;have al:=b0 z _ G;rw[G.sum]at al;generalize gv m p z (j0 N r a)=S2 at ag kz;obtain⟨B2,f2⟩:=S2;dsimp only[j0]at ag kz;unfold ay at kz;rw[hZ]at kz;rcases ag with rfl|rfl
       ·
        repeat'(first
|(refine aY ?_)
|(refine ar ?_)
|((with_reducible apply aa.aB);(case hW=>exact rfl);(case hx=>exact af))
|((with_reducible apply aa.u0);(case hx=>first
|((with_reducible apply ac.IJ);(case hcal|hav|hx|hh|hm=>exact rfl);(case hcl=>exact kz);(case hd|hf'|hn=>exact rfl);(case hf=>exact leq))
|(exact gR al)
|(exact ap a6)
|exact af))
|fail)
        all_goals first|exact⟨.inr rfl,rfl⟩|(exfalso;omega)|(exfalso;exact J rfl)
       ·
        repeat'(first
|(refine aY ?_)
|(refine ar ?_)
|((with_reducible apply aa.aB);(case hW=>exact rfl);(case hx=>exact af))
|((with_reducible apply aa.u0);(case hx=>first
|((with_reducible apply ac.IJ);(case hcal|hav|hx|hh|hm=>exact rfl);(case hcl=>exact kz);(case hd|hf'|hn=>exact rfl);(case hf=>exact leq))
|(exact gR al)
|(exact ap a6)
|exact af))
|fail)
        all_goals first|exact⟨.inr rfl,rfl⟩|(exfalso;omega)|(exfalso;exact J rfl)
    ·
     generalize fX l (dw m p (j0 N r a))=M at*
     generalize gv m p l (j0 N r a)=S at*
     obtain⟨B,f⟩:=S;dsimp only[j0]at ka hH;unfold ay at ka;rw[hZ]at ka;unfold aN at kf km ka⊢;rw[aS]at kf km ka⊢;rw[bt]at kf km ka⊢;refine Cl.aq rfl Tryz.func4 rfl rfl rfl ?_;rcases hH with⟨aJ,be⟩|⟨aJ,be⟩|⟨aJ,be⟩
     all_goals subst aJ
     ·
      repeat'(first
|(refine aY ?_)
|((with_reducible apply aa.aX)<;>intro J)
|((with_reducible apply aa.bi)<;>intro J)
|(refine ar ?_)
|((with_reducible apply aa.aB);(case hW=>exact rfl);(case hx=>exact af))
|((with_reducible apply aa.u0);(case hx=>first
|((with_reducible apply ac.ec);(case hs=>exact fun _=>rfl);(case hl|hc|hd=>exact rfl);(case hm=>exact U _);(case hf=>exact leq))
|((with_reducible apply ac.IJ);(case hcal|hav|hx|hh|hm=>exact rfl);(case hcl=>exact ka);(case hd|hf'|hn=>exact rfl);(case hf=>exact leq))
|(exact ap k0)
|(exact ap kf)
|(exact gR km)
|exact af))
|fail)
      all_goals first|exact⟨.inr rfl,rfl⟩|(exfalso;omega)
     ·
      repeat'(first
|(refine aY ?_)
|((with_reducible apply aa.aX)<;>intro J)
|((with_reducible apply aa.bi)<;>intro J)
|(refine ar ?_)
|((with_reducible apply aa.aB);(case hW=>exact rfl);(case hx=>exact af))
|((with_reducible apply aa.u0);(case hx=>first
|((with_reducible apply ac.ec);(case hs=>exact fun _=>rfl);(case hl|hc|hd=>exact rfl);(case hm=>exact U _);(case hf=>exact leq))
|((with_reducible apply ac.IJ);(case hcal|hav|hx|hh|hm=>exact rfl);(case hcl=>exact ka);(case hd|hf'|hn=>exact rfl);(case hf=>exact leq))
|(exact ap k0)
|(exact ap kf)
|(exact gR km)
|exact af))
|fail)
      all_goals first|exact⟨.inr rfl,rfl⟩|(exfalso;omega)
     ·
      repeat'(first
|(refine aY ?_)
|((with_reducible apply aa.aX)<;>intro J)
|((with_reducible apply aa.bi)<;>intro J)
|(refine ar ?_)
|((with_reducible apply aa.aB);(case hW=>exact rfl);(case hx=>exact af))
|((with_reducible apply aa.u0);(case hx=>first
|((with_reducible apply ac.ec);(case hs=>exact fun _=>rfl);(case hl|hc|hd=>exact rfl);(case hm=>exact U _);(case hf=>exact leq))
|((with_reducible apply ac.IJ);(case hcal|hav|hx|hh|hm=>exact rfl);(case hcl=>exact ka);(case hd|hf'|hn=>exact rfl);(case hf=>exact leq))
|(exact ap k0)
|(exact ap kf)
|(exact gR km)
|exact af))
|fail)
      all_goals first|exact⟨.inr rfl,rfl⟩|(exfalso;omega)
end Go.Proofs.YtjolgbkkocjpgaaGreatDoor
