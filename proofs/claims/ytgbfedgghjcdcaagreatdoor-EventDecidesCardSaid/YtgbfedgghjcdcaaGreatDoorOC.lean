/- Law 32: the updates of a cell,as a contract. No condition. -/
import Derived.Test.YtgbfedgghjcdcaaGreatDoorMD
import Derived.Test.YtgbfedgghjcdcaaGreatDoorTS
import Derived.Test.YtgbfedgghjcdcaaGreatDoorTKA
import Derived.Test.YtgbfedgghjcdcaaGreatDoorXB
set_option linter.all false
namespace Go.Proofs.YtgbfedgghjcdcaaGreatDoor
open Go.RowKit
set_option maxRecDepth 100000
set_option maxHeartbeats 32000000
def cb(w:Wr):List AV:=dh w.e++sE w.u
def aR(l:List Wr):List (List AV):=l.map cb
def iI(l:List Wr):(aR l).length=l.length:=List.length_map _
def pX{l:List Wr}{k:Nat}{w:Wr}(h:l[k]?=some w):(aR l)[k]?=some [.int .i64 w.e.r,.int .i64 w.e.n,.int .i64 w.e.t,aF w.e.past,.int .i64 w.e.k,.int .i64 w.e.a,.int .i64 w.e.gk,.int .i64 w.e.gi,.int .i64 w.e.ge,.int .i64 w.e.ga,.int .i64 w.e.to,.int .i64 w.e.pl,.int .i64 w.e.se,.int .i64 w.u.kind,.int .i64 w.u.cell,.int .i64 w.u.value]:=fR h
def sN(l m:List Wr):aR l++aR m=aR (l++m):=by unfold aR;rw[List.map_append]
def Jp{m:Md}{l:List Ev}{c:Int}{q:Nat}{e:Ev}(h:l[q]?=some e):cn m (l.take (q+1)) c=cn m (l.take q) c++(match iH m c e with|some u=>[⟨e,u⟩]|none=>[]):=by
 unfold cn;rw[List.take_add_one,h];simp only[Option.toList,List.filterMap_append,List.filterMap_cons,List.filterMap_nil];cases iH m c e <;>rfl
def iU(c:Int)(U:List bn)(q:Nat):Option bn:=(U.take q).reverse.find? fun u=>decide (u.cell=c)
def q6(c:Int)(U:List bn):iU c U 0=none:=rfl
def q7{c:Int}{U:List bn}{q:Nat}{u:bn}(h:U[q]?=some u):iU c U (q+1)=if u.cell=c then some u else iU c U q:=by
 unfold iU;rw[List.take_add_one,h];simp only[Option.toList,List.reverse_append,List.reverse_cons,List.reverse_nil,List.nil_append,List.cons_append,List.find?_cons];by_cases v:u.cell=c <;>simp[v]
def EE(c:Int)(U:List bn):iU c U U.length=U.reverse.find? fun u=>decide (u.cell=c):=by unfold iU;rw[List.take_length]
def IF{m:Md}{e:Ev}{a:dT}{c:Int}(hk:e.k=0)(ha:m.aJ[e.a.toNat]?=some a):iH m c e=iU c a.eff.aQ a.eff.aQ.length:=by
 unfold iH;rw[if_pos hk,List.getD_eq_getElem?_getD,ha,EE];rfl
def IG{m:Md}{e:Ev}{c:Int}(hk:e.k≠0):iH m c e=none:=by
 unfold iH;rw[if_neg hk]
def gZ.rf{g:Cfg}{f:Nat}{asg body:Code}{env:Env}{fr:Fr}{K:Out->Env->Fr->Prop}{u:List Nat}{y:List AV}{bs:Fr}(F:Fr)(hl:Nat.beq y.length u.length=true)(hb:cJ fr (List.range fr.length)=some bs)(v:(bs.map fun b=>b6 (b.sub (aT (List.range fr.length))))=F)
  (h:aa g f asg (lh u y fun t=>(env t).sub (aT (List.range fr.length))) F fun o e r=>o=.normal/\aa g f body e r (zB (g.lv f (ck body)) env fr K)):gZ g f u asg body y env fr K:=by
 subst v;exact gZ.mk hl hb h
def fg.wG{g:Cfg}{f:Nat}{asg body:Code}{y:List Nat}{env:Env}{fr:Fr}{K:Out->Env->Fr->Prop}{es:List (List AV)}{n:Nat}(u:Env)(v:Fr)(C:Nat->Prop)(z:n=0->K .normal env fr)
  (hf:∀q,n=q+1->gZ g f y asg body [.int .i64 (q:Int),.agg (es[q]?.getD [])] env fr (gW (fun e r=>e=u/\r=v/\C q) K))
  (hs:∀q,C (q+1)->gZ g f y asg body [.int .i64 (q:Int),.agg (es[q]?.getD [])] u v (gW (fun e r=>e=u/\r=v/\C q) K))
  (hz:C 0->K .normal u v):fg g f y asg body true (gz es n) env fr K:=by
 have D:∀q,C q->fg g f y asg body true (gz es q) u v K:=by
  intro q
  induction q with
  |zero=>exact fun h=>fg.nil (hz h)
  |succ q G=>
   intro h;refine fg.cons ?_;obtain⟨n,o,e,r,h1,h2⟩:=hs q h;refine⟨n,o,e,r,h1,?_⟩
   cases o with
   |normal=>obtain⟨rfl,rfl,h3⟩:=h2;exact G h3
   |exit id=>exact h2
   |ret=>exact h2
 cases n with
 |zero=>exact fg.nil (z rfl)
 |succ q=>
  refine fg.cons ?_;obtain⟨n,o,e,r,h1,h2⟩:=hf q rfl;refine⟨n,o,e,r,h1,?_⟩
  cases o with
  |normal=>obtain⟨rfl,rfl,h3⟩:=h2;exact D q h3
  |exit id=>exact h2
  |ret=>exact h2
def Ab{U:List bn}(hl:U.length<=1000):ap.seq 167 [.tp [.arr (bL U)]]=some (gz (bL U) U.length,true):=by
 have h1:((bL U).all fun c=>Nat.beq c.length 3)=true:=by
  unfold bL;rw[List.all_map];exact List.all_eq_true.2 fun u _=>rfl
 have h2:Nat.ble (bL U).length 140737488351232=true:=by rw[mu,Nat.ble_eq];omega
 have e:((bL U).all (fun c=>Nat.beq c.length 3)&&Nat.ble (bL U).length 140737488351232)=true:=by rw[h1,h2];rfl
 have v:ap.seq=pI:=rfl;rw[v];unfold pI;rw[<- mu U];show(match(bL U).all (fun c=>Nat.beq c.length 3)&&Nat.ble (bL U).length 140737488351232 with|true=>some (gz (bL U) (bL U).length,true)|false=>none)=_
 rw[e]
def BB{U:List bn}(hl:U.length<=1000):Cl ap 134 [.t (.arr (bL U))] [] (.fn (.func 167) 0 [.lp 0 0]) [.box false 59 [.t (.arr (bL U))]]:=by
 refine Cl.aE rfl Tryz.func134 rfl rfl rfl ?_
 repeat'(first
|(with_reducible apply aa.seq)
|((with_reducible apply aa.text);(try case hm=>exact rfl))
|(with_reducible first|apply aa.ret|apply ab.af)
|((with_reducible apply ab.u0);(case hx=>exact ac))
|fail)
 exact⟨.inr rfl,rfl⟩
def Du{m:Md}{l:List Ev}{c:Int}(hm:cW m)(hl:l.length<=1000)(V:∀e∈l,e.k=0->∃a,m.aJ[e.a.toNat]?=some a/\0<=e.a/\e.a <m.aJ.length)(Z:∀a∈m.aJ,a.eff.aQ.length<=1000):Cl ap 78 [.t (di m),.t (.arr (br l)),.t (.int .i64 c)] [] (.t (.arr (aR (cn m l c)))) []:=by
 have aE:=lW l;have aB:=mH m.aJ;have e1:di m=.agg [aF m.aq,.arr (cR m.tables),.arr (d_ m.dq),.arr (jp m.cons),.arr (jJ m.ops),.arr (iL m.aJ),.arr (jz m.bq)]:=rfl;rw[e1];refine Cl.fS rfl Tryz.func78 rfl rfl rfl ?_
 repeat'(first
|(with_reducible first|apply aa.seq|apply aa.block)
|((with_reducible apply aa.text);(try case hm=>exact rfl))
|(with_reducible apply ab.af)
|((with_reducible apply ab.u0);(case hx=>exact ac))
|fail)
 apply aa.aM
 case ho=>exact rfl
 case hp=>exact rfl
 case hl=>exact rfl
 case hs=>exact slt
 refine aI.cd (fun x:Nat×Bool=>[(14,.t (.int .i64 (x.1:Int)))]) (fun x=>[.box false 30 ((cg m).map .t),.box false 3 [.t (.int .i64 c)],.box false 120 [.ls 3],.row false x.2 16 (aR (cn m (l.take x.1) c))]) (fun x=>x.1<=l.length) (fun x=>l.length - x.1) (0,false) rfl rfl (by simp) (fun x hq=>?_);obtain⟨q,ad⟩:=x;dsimp only at hq⊢;rcases Nat.lt_or_ge q l.length with h3|h3
 ·
  obtain⟨e,he⟩:=av h3;have au:=iP he;have y:=Jp (m:=m) (c:=c) he
  have an:(cn m (l.take q) c).length<=1000:=by
   unfold cn;refine Nat.le_trans (List.length_filterMap_le _ _) ?_;simp;omega
  obtain⟨X,hX⟩:∃X,cn m (l.take q) c=X:=⟨_,rfl⟩;rw[hX]at y an⊢;by_cases hk:e.k=0
  ·
   obtain⟨a,ha,a0,a1⟩:=V e (List.mem_of_getElem? he) hk;have al:=mG ha;have hU:=Z a (List.mem_of_getElem? ha);have kb:=BB hU;rw[IF hk ha]at y
   have J:bD ((aR X).length+1) 144=true:=by
    rw[iI];simp[bD];omega
   obtain⟨U,ag⟩:∃U,a.eff.aQ=U:=⟨_,rfl⟩;rw[ag]at al hU kb y;have aL:=mu U;cases ad
   ·
    repeat'(first
|(with_reducible first|apply aa.seq|apply aa.block)
|((with_reducible apply aa.text);(try case hm=>exact rfl))
|(with_reducible first|apply aa.skip|apply ai)
|((with_reducible apply aa.am);(case hc=>exact rfl))
|((with_reducible apply aa.ak);(case hc=>exact rfl))
|((with_reducible apply ab.ao);(case hp=>exact ae))
|((with_reducible apply ab.cz);(case hp=>exact ae))
|(with_reducible apply ab.af)
|((with_reducible apply ab.u0);(case hx=>first
|(exact dy kb)
|exact ac))
|fail)
    refine aa.range (yss:=gz (bL U) U.length) (wh:=true) (fr1:=[.box false 30 ((cg m).map .t),.box false 3 [.t (.int .i64 c)],.box false 120 [.ls 3],.row false false 16 (aR X),.box false 36 (([.int .i64 e.r,.int .i64 e.n,.int .i64 e.t,aF e.past,.int .i64 e.k,.int .i64 e.a,.int .i64 e.gk,.int .i64 e.gi,.int .i64 e.ge,.int .i64 e.ga,.int .i64 e.to,.int .i64 e.pl,.int .i64 e.se]:List AV).map .t),.box true 59 [.t (.arr (bL U))]]) rfl rfl (Ab hU) rfl ?_;refine fg.wG (dZ [(3,.lp 0 0),(5,.lp 1 0),(7,.lp 2 0),(9,.lp 4 0),(12,.t (.arr (br l))),(13,.t (.int .i64 (l.length:Int))),(14,.t (.int .i64 (q:Int)))]) [.box false 30 ((cg m).map .t),.box false 3 [.t (.int .i64 c)],.box false 120 [.ls 3],.row false false 16 (aR X),.box false 36 (([.int .i64 e.r,.int .i64 e.n,.int .i64 e.t,aF e.past,.int .i64 e.k,.int .i64 e.a,.int .i64 e.gk,.int .i64 e.gi,.int .i64 e.ge,.int .i64 e.ga,.int .i64 e.to,.int .i64 e.pl,.int .i64 e.se]:List AV).map .t),.box true 59 [.t (.arr (bL U))]] (fun k=>k<=U.length/\iU c U U.length=iU c U k) (fun O=>?_) (fun k D=>?_) (fun k D=>?_) (fun O=>?_)
    ·
     rw[O,q6]at y
     repeat'(first
|((with_reducible apply aa.text);(try case hm=>exact rfl))
|(with_reducible first|apply ai|apply aG|apply ab.af)
|((with_reducible apply ab.u0);(case hx=>exact ac))
|fail)
     exact⟨(q+1,false),rfl,by dsimp only;rw[y,List.append_nil];rfl,by dsimp only;omega,by dsimp only;omega⟩
    ·
     obtain⟨u,I⟩:=av (xs:=U) (k:=k) (by omega);have Q:((bL U)[k]?.getD [])=[.int .i64 u.kind,.int .i64 u.cell,.int .i64 u.value]:=by rw[jS I];rfl
     have z:=q7 (c:=c) I;rw[Q];refine gZ.rf [.box false 30 ((cg m).map .t),.box false 3 [.t (.int .i64 c)],.box false 120 [.ls 3],.row false false 16 (aR X),.box false 36 (([.int .i64 e.r,.int .i64 e.n,.int .i64 e.t,aF e.past,.int .i64 e.k,.int .i64 e.a,.int .i64 e.gk,.int .i64 e.gi,.int .i64 e.ge,.int .i64 e.ga,.int .i64 e.to,.int .i64 e.pl,.int .i64 e.se]:List AV).map .t),.box true 59 [.t (.arr (bL U))]] rfl rfl rfl ?_;by_cases G:u.cell=c
     ·
      rw[if_pos G]at z;rw[D,z]at y;have hv:aR X++[[.int .i64 e.r,.int .i64 e.n,.int .i64 e.t,aF e.past,.int .i64 e.k,.int .i64 e.a,.int .i64 e.gk,.int .i64 e.gi,.int .i64 e.ge,.int .i64 e.ga,.int .i64 e.to,.int .i64 e.pl,.int .i64 e.se,.int .i64 u.kind,.int .i64 u.cell,.int .i64 u.value]]=aR (cn m (l.take (q+1)) c):=by rw[y];exact sN _ [⟨e,u⟩]
      repeat'(first
|((with_reducible apply aa.text);(try case hm=>exact rfl))
|(with_reducible apply ab.nil)
|((with_reducible apply ab.u0);(case hx=>exact ac))
|fail)
      refine⟨rfl,?_⟩
      repeat'(first
|(with_reducible first|apply aa.seq|apply aa.block)
|((with_reducible apply aa.text);(try case hm=>exact rfl))
|(with_reducible apply aa.exit)
|((with_reducible apply mQ);(case hj=>exact rfl))
|((with_reducible apply aa.am);(case hc=>exact rfl))
|((with_reducible apply ab.ao);(case hp=>exact ae))
|(with_reducible apply ab.af)
|((with_reducible apply ab.u);(case hx=>((with_reducible apply ah.dI);(case hs=>exact fun _=>rfl);(case ha|ht=>exact rfl);(case hr=>first|(with_reducible exact dB)|(with_reducible exact dC)|(with_reducible exact dD)|(with_reducible exact rw3)|(with_reducible exact rw4)|exact rfl);(case hx|hy|hn|hb|hok=>exact rfl);(case hlen=>exact J);(case hv=>exact hv);(case hk=>exact dL);(case hf=>exact leq))))
|((with_reducible apply ab.u0);(case hx=>first
|((with_reducible apply ah.jm (cs:=[.t (.int .i64 e.r),.t (.int .i64 e.n),.t (.int .i64 e.t),.t (aF e.past),.t (.int .i64 e.k),.t (.int .i64 e.a),.t (.int .i64 e.gk),.t (.int .i64 e.gi),.t (.int .i64 e.ge),.t (.int .i64 e.ga),.t (.int .i64 e.to),.t (.int .i64 e.pl),.t (.int .i64 e.se),.t (.int .i64 u.kind),.t (.int .i64 u.cell),.t (.int .i64 u.value)]) (v:=.t (.agg [.int .i64 e.r,.int .i64 e.n,.int .i64 e.t,aF e.past,.int .i64 e.k,.int .i64 e.a,.int .i64 e.gk,.int .i64 e.gi,.int .i64 e.ge,.int .i64 e.ga,.int .i64 e.to,.int .i64 e.pl,.int .i64 e.se,.int .i64 u.kind,.int .i64 u.cell,.int .i64 u.value])));(case ho=>kernel_rfl);(case h=>kernel_rfl);(case hv=>kernel_rfl))
|((with_reducible apply ah.oJ (es:=[[.int .i64 e.r,.int .i64 e.n,.int .i64 e.t,aF e.past,.int .i64 e.k,.int .i64 e.a,.int .i64 e.gk,.int .i64 e.gi,.int .i64 e.ge,.int .i64 e.ga,.int .i64 e.to,.int .i64 e.pl,.int .i64 e.se,.int .i64 u.kind,.int .i64 u.cell,.int .i64 u.value]]));(case hw=>exact rfl);(case ho=>kernel_rfl);(case h=>kernel_rfl))
|exact ac))
|fail)
      refine⟨by kernel_rfl,?_⟩
      repeat'(first
|((with_reducible apply aa.text);(try case hm=>exact rfl))
|(with_reducible first|apply ai|apply aA|apply aG|apply az|apply ab.af)
|((with_reducible apply ab.u0);(case hx=>exact ac))
|fail)
      exact⟨(q+1,true),rfl,rfl,by dsimp only;omega,by dsimp only;omega⟩
     ·
      rw[if_neg G]at z
      repeat'(first
|((with_reducible apply aa.text);(try case hm=>exact rfl))
|(with_reducible apply ab.nil)
|((with_reducible apply ab.u0);(case hx=>exact ac))
|fail)
      refine⟨rfl,?_⟩
      repeat'(first
|(with_reducible first|apply aa.seq|apply aa.block)
|((with_reducible apply aa.text);(try case hm=>exact rfl))
|(with_reducible first|apply aa.skip|apply aG)
|((with_reducible apply aa.ak);(case hc=>exact rfl))
|((with_reducible apply ab.aw);(case hp=>exact ae))
|(with_reducible apply ab.af)
|((with_reducible apply ab.u0);(case hx=>exact ac))
|fail)
      refine⟨by kernel_rfl,?_⟩;exact⟨rfl,rfl,by omega,by rw[D,z]⟩
    ·
     obtain⟨u,I⟩:=av (xs:=U) (k:=k) (by have:=D.1;omega);have Q:((bL U)[k]?.getD [])=[.int .i64 u.kind,.int .i64 u.cell,.int .i64 u.value]:=by rw[jS I];rfl
     have z:=q7 (c:=c) I;rw[Q];refine gZ.rf [.box false 30 ((cg m).map .t),.box false 3 [.t (.int .i64 c)],.box false 120 [.ls 3],.row false false 16 (aR X),.box false 36 (([.int .i64 e.r,.int .i64 e.n,.int .i64 e.t,aF e.past,.int .i64 e.k,.int .i64 e.a,.int .i64 e.gk,.int .i64 e.gi,.int .i64 e.ge,.int .i64 e.ga,.int .i64 e.to,.int .i64 e.pl,.int .i64 e.se]:List AV).map .t),.box true 59 [.t (.arr (bL U))]] rfl rfl rfl ?_;by_cases G:u.cell=c
     ·
      rw[if_pos G]at z;rw[D.2,z]at y;have hv:aR X++[[.int .i64 e.r,.int .i64 e.n,.int .i64 e.t,aF e.past,.int .i64 e.k,.int .i64 e.a,.int .i64 e.gk,.int .i64 e.gi,.int .i64 e.ge,.int .i64 e.ga,.int .i64 e.to,.int .i64 e.pl,.int .i64 e.se,.int .i64 u.kind,.int .i64 u.cell,.int .i64 u.value]]=aR (cn m (l.take (q+1)) c):=by rw[y];exact sN _ [⟨e,u⟩]
      repeat'(first
|((with_reducible apply aa.text);(try case hm=>exact rfl))
|(with_reducible apply ab.nil)
|((with_reducible apply ab.u0);(case hx=>exact ac))
|fail)
      refine⟨rfl,?_⟩
      repeat'(first
|(with_reducible first|apply aa.seq|apply aa.block)
|((with_reducible apply aa.text);(try case hm=>exact rfl))
|(with_reducible apply aa.exit)
|((with_reducible apply mQ);(case hj=>exact rfl))
|((with_reducible apply aa.am);(case hc=>exact rfl))
|((with_reducible apply ab.ao);(case hp=>exact ae))
|(with_reducible apply ab.af)
|((with_reducible apply ab.u);(case hx=>((with_reducible apply ah.dI);(case hs=>exact fun _=>rfl);(case ha|ht=>exact rfl);(case hr=>first|(with_reducible exact dB)|(with_reducible exact dC)|(with_reducible exact dD)|(with_reducible exact rw3)|(with_reducible exact rw4)|exact rfl);(case hx|hy|hn|hb|hok=>exact rfl);(case hlen=>exact J);(case hv=>exact hv);(case hk=>exact dL);(case hf=>exact leq))))
|((with_reducible apply ab.u0);(case hx=>first
|((with_reducible apply ah.jm (cs:=[.t (.int .i64 e.r),.t (.int .i64 e.n),.t (.int .i64 e.t),.t (aF e.past),.t (.int .i64 e.k),.t (.int .i64 e.a),.t (.int .i64 e.gk),.t (.int .i64 e.gi),.t (.int .i64 e.ge),.t (.int .i64 e.ga),.t (.int .i64 e.to),.t (.int .i64 e.pl),.t (.int .i64 e.se),.t (.int .i64 u.kind),.t (.int .i64 u.cell),.t (.int .i64 u.value)]) (v:=.t (.agg [.int .i64 e.r,.int .i64 e.n,.int .i64 e.t,aF e.past,.int .i64 e.k,.int .i64 e.a,.int .i64 e.gk,.int .i64 e.gi,.int .i64 e.ge,.int .i64 e.ga,.int .i64 e.to,.int .i64 e.pl,.int .i64 e.se,.int .i64 u.kind,.int .i64 u.cell,.int .i64 u.value])));(case ho=>kernel_rfl);(case h=>kernel_rfl);(case hv=>kernel_rfl))
|((with_reducible apply ah.oJ (es:=[[.int .i64 e.r,.int .i64 e.n,.int .i64 e.t,aF e.past,.int .i64 e.k,.int .i64 e.a,.int .i64 e.gk,.int .i64 e.gi,.int .i64 e.ge,.int .i64 e.ga,.int .i64 e.to,.int .i64 e.pl,.int .i64 e.se,.int .i64 u.kind,.int .i64 u.cell,.int .i64 u.value]]));(case hw=>exact rfl);(case ho=>kernel_rfl);(case h=>kernel_rfl))
|exact ac))
|fail)
      refine⟨by kernel_rfl,?_⟩
      repeat'(first
|((with_reducible apply aa.text);(try case hm=>exact rfl))
|(with_reducible first|apply ai|apply aA|apply aG|apply az|apply ab.af)
|((with_reducible apply ab.u0);(case hx=>exact ac))
|fail)
      exact⟨(q+1,true),rfl,rfl,by dsimp only;omega,by dsimp only;omega⟩
     ·
      rw[if_neg G]at z
      repeat'(first
|((with_reducible apply aa.text);(try case hm=>exact rfl))
|(with_reducible apply ab.nil)
|((with_reducible apply ab.u0);(case hx=>exact ac))
|fail)
      refine⟨rfl,?_⟩
      repeat'(first
|(with_reducible first|apply aa.seq|apply aa.block)
|((with_reducible apply aa.text);(try case hm=>exact rfl))
|(with_reducible first|apply aa.skip|apply aG)
|((with_reducible apply aa.ak);(case hc=>exact rfl))
|((with_reducible apply ab.aw);(case hp=>exact ae))
|(with_reducible apply ab.af)
|((with_reducible apply ab.u0);(case hx=>exact ac))
|fail)
      refine⟨by kernel_rfl,?_⟩;exact⟨rfl,rfl,by have:=D.1;omega,by rw[D.2,z]⟩
    ·
     rw[O.2,q6]at y
     repeat'(first
|((with_reducible apply aa.text);(try case hm=>exact rfl))
|(with_reducible first|apply ai|apply aG|apply ab.af)
|((with_reducible apply ab.u0);(case hx=>exact ac))
|fail)
     exact⟨(q+1,false),rfl,by dsimp only;rw[y,List.append_nil];rfl,by dsimp only;omega,by dsimp only;omega⟩
   ·
    repeat'(first
|(with_reducible first|apply aa.seq|apply aa.block)
|((with_reducible apply aa.text);(try case hm=>exact rfl))
|(with_reducible first|apply aa.skip|apply ai)
|((with_reducible apply aa.am);(case hc=>exact rfl))
|((with_reducible apply aa.ak);(case hc=>exact rfl))
|((with_reducible apply ab.ao);(case hp=>exact ae))
|((with_reducible apply ab.cz);(case hp=>exact ae))
|(with_reducible apply ab.af)
|((with_reducible apply ab.u0);(case hx=>first
|(exact dy kb)
|exact ac))
|fail)
    refine aa.range (yss:=gz (bL U) U.length) (wh:=true) (fr1:=[.box false 30 ((cg m).map .t),.box false 3 [.t (.int .i64 c)],.box false 120 [.ls 3],.row false true 16 (aR X),.box false 36 (([.int .i64 e.r,.int .i64 e.n,.int .i64 e.t,aF e.past,.int .i64 e.k,.int .i64 e.a,.int .i64 e.gk,.int .i64 e.gi,.int .i64 e.ge,.int .i64 e.ga,.int .i64 e.to,.int .i64 e.pl,.int .i64 e.se]:List AV).map .t),.box true 59 [.t (.arr (bL U))]]) rfl rfl (Ab hU) rfl ?_;refine fg.wG (dZ [(3,.lp 0 0),(5,.lp 1 0),(7,.lp 2 0),(9,.lp 4 0),(12,.t (.arr (br l))),(13,.t (.int .i64 (l.length:Int))),(14,.t (.int .i64 (q:Int)))]) [.box false 30 ((cg m).map .t),.box false 3 [.t (.int .i64 c)],.box false 120 [.ls 3],.row false true 16 (aR X),.box false 36 (([.int .i64 e.r,.int .i64 e.n,.int .i64 e.t,aF e.past,.int .i64 e.k,.int .i64 e.a,.int .i64 e.gk,.int .i64 e.gi,.int .i64 e.ge,.int .i64 e.ga,.int .i64 e.to,.int .i64 e.pl,.int .i64 e.se]:List AV).map .t),.box true 59 [.t (.arr (bL U))]] (fun k=>k<=U.length/\iU c U U.length=iU c U k) (fun O=>?_) (fun k D=>?_) (fun k D=>?_) (fun O=>?_)
    ·
     rw[O,q6]at y
     repeat'(first
|((with_reducible apply aa.text);(try case hm=>exact rfl))
|(with_reducible first|apply ai|apply aG|apply ab.af)
|((with_reducible apply ab.u0);(case hx=>exact ac))
|fail)
     exact⟨(q+1,true),rfl,by dsimp only;rw[y,List.append_nil];rfl,by dsimp only;omega,by dsimp only;omega⟩
    ·
     obtain⟨u,I⟩:=av (xs:=U) (k:=k) (by omega);have Q:((bL U)[k]?.getD [])=[.int .i64 u.kind,.int .i64 u.cell,.int .i64 u.value]:=by rw[jS I];rfl
     have z:=q7 (c:=c) I;rw[Q];refine gZ.rf [.box false 30 ((cg m).map .t),.box false 3 [.t (.int .i64 c)],.box false 120 [.ls 3],.row false false 16 (aR X),.box false 36 (([.int .i64 e.r,.int .i64 e.n,.int .i64 e.t,aF e.past,.int .i64 e.k,.int .i64 e.a,.int .i64 e.gk,.int .i64 e.gi,.int .i64 e.ge,.int .i64 e.ga,.int .i64 e.to,.int .i64 e.pl,.int .i64 e.se]:List AV).map .t),.box true 59 [.t (.arr (bL U))]] rfl rfl rfl ?_;by_cases G:u.cell=c
     ·
      rw[if_pos G]at z;rw[D,z]at y;have hv:aR X++[[.int .i64 e.r,.int .i64 e.n,.int .i64 e.t,aF e.past,.int .i64 e.k,.int .i64 e.a,.int .i64 e.gk,.int .i64 e.gi,.int .i64 e.ge,.int .i64 e.ga,.int .i64 e.to,.int .i64 e.pl,.int .i64 e.se,.int .i64 u.kind,.int .i64 u.cell,.int .i64 u.value]]=aR (cn m (l.take (q+1)) c):=by rw[y];exact sN _ [⟨e,u⟩]
      repeat'(first
|((with_reducible apply aa.text);(try case hm=>exact rfl))
|(with_reducible apply ab.nil)
|((with_reducible apply ab.u0);(case hx=>exact ac))
|fail)
      refine⟨rfl,?_⟩
      repeat'(first
|(with_reducible first|apply aa.seq|apply aa.block)
|((with_reducible apply aa.text);(try case hm=>exact rfl))
|(with_reducible apply aa.exit)
|((with_reducible apply mQ);(case hj=>exact rfl))
|((with_reducible apply aa.am);(case hc=>exact rfl))
|((with_reducible apply ab.ao);(case hp=>exact ae))
|(with_reducible apply ab.af)
|((with_reducible apply ab.u);(case hx=>((with_reducible apply ah.dI);(case hs=>exact fun _=>rfl);(case ha|ht=>exact rfl);(case hr=>first|(with_reducible exact dB)|(with_reducible exact dC)|(with_reducible exact dD)|(with_reducible exact rw3)|(with_reducible exact rw4)|exact rfl);(case hx|hy|hn|hb|hok=>exact rfl);(case hlen=>exact J);(case hv=>exact hv);(case hk=>exact dL);(case hf=>exact leq))))
|((with_reducible apply ab.u0);(case hx=>first
|((with_reducible apply ah.jm (cs:=[.t (.int .i64 e.r),.t (.int .i64 e.n),.t (.int .i64 e.t),.t (aF e.past),.t (.int .i64 e.k),.t (.int .i64 e.a),.t (.int .i64 e.gk),.t (.int .i64 e.gi),.t (.int .i64 e.ge),.t (.int .i64 e.ga),.t (.int .i64 e.to),.t (.int .i64 e.pl),.t (.int .i64 e.se),.t (.int .i64 u.kind),.t (.int .i64 u.cell),.t (.int .i64 u.value)]) (v:=.t (.agg [.int .i64 e.r,.int .i64 e.n,.int .i64 e.t,aF e.past,.int .i64 e.k,.int .i64 e.a,.int .i64 e.gk,.int .i64 e.gi,.int .i64 e.ge,.int .i64 e.ga,.int .i64 e.to,.int .i64 e.pl,.int .i64 e.se,.int .i64 u.kind,.int .i64 u.cell,.int .i64 u.value])));(case ho=>kernel_rfl);(case h=>kernel_rfl);(case hv=>kernel_rfl))
|((with_reducible apply ah.oJ (es:=[[.int .i64 e.r,.int .i64 e.n,.int .i64 e.t,aF e.past,.int .i64 e.k,.int .i64 e.a,.int .i64 e.gk,.int .i64 e.gi,.int .i64 e.ge,.int .i64 e.ga,.int .i64 e.to,.int .i64 e.pl,.int .i64 e.se,.int .i64 u.kind,.int .i64 u.cell,.int .i64 u.value]]));(case hw=>exact rfl);(case ho=>kernel_rfl);(case h=>kernel_rfl))
|exact ac))
|fail)
      refine⟨by kernel_rfl,?_⟩
      repeat'(first
|((with_reducible apply aa.text);(try case hm=>exact rfl))
|(with_reducible first|apply ai|apply aA|apply aG|apply az|apply ab.af)
|((with_reducible apply ab.u0);(case hx=>exact ac))
|fail)
      exact⟨(q+1,true),rfl,rfl,by dsimp only;omega,by dsimp only;omega⟩
     ·
      rw[if_neg G]at z
      repeat'(first
|((with_reducible apply aa.text);(try case hm=>exact rfl))
|(with_reducible apply ab.nil)
|((with_reducible apply ab.u0);(case hx=>exact ac))
|fail)
      refine⟨rfl,?_⟩
      repeat'(first
|(with_reducible first|apply aa.seq|apply aa.block)
|((with_reducible apply aa.text);(try case hm=>exact rfl))
|(with_reducible first|apply aa.skip|apply aG)
|((with_reducible apply aa.ak);(case hc=>exact rfl))
|((with_reducible apply ab.aw);(case hp=>exact ae))
|(with_reducible apply ab.af)
|((with_reducible apply ab.u0);(case hx=>exact ac))
|fail)
      refine⟨by kernel_rfl,?_⟩;exact⟨rfl,rfl,by omega,by rw[D,z]⟩
    ·
     obtain⟨u,I⟩:=av (xs:=U) (k:=k) (by have:=D.1;omega);have Q:((bL U)[k]?.getD [])=[.int .i64 u.kind,.int .i64 u.cell,.int .i64 u.value]:=by rw[jS I];rfl
     have z:=q7 (c:=c) I;rw[Q];refine gZ.rf [.box false 30 ((cg m).map .t),.box false 3 [.t (.int .i64 c)],.box false 120 [.ls 3],.row false false 16 (aR X),.box false 36 (([.int .i64 e.r,.int .i64 e.n,.int .i64 e.t,aF e.past,.int .i64 e.k,.int .i64 e.a,.int .i64 e.gk,.int .i64 e.gi,.int .i64 e.ge,.int .i64 e.ga,.int .i64 e.to,.int .i64 e.pl,.int .i64 e.se]:List AV).map .t),.box true 59 [.t (.arr (bL U))]] rfl rfl rfl ?_;by_cases G:u.cell=c
     ·
      rw[if_pos G]at z;rw[D.2,z]at y;have hv:aR X++[[.int .i64 e.r,.int .i64 e.n,.int .i64 e.t,aF e.past,.int .i64 e.k,.int .i64 e.a,.int .i64 e.gk,.int .i64 e.gi,.int .i64 e.ge,.int .i64 e.ga,.int .i64 e.to,.int .i64 e.pl,.int .i64 e.se,.int .i64 u.kind,.int .i64 u.cell,.int .i64 u.value]]=aR (cn m (l.take (q+1)) c):=by rw[y];exact sN _ [⟨e,u⟩]
      repeat'(first
|((with_reducible apply aa.text);(try case hm=>exact rfl))
|(with_reducible apply ab.nil)
|((with_reducible apply ab.u0);(case hx=>exact ac))
|fail)
      refine⟨rfl,?_⟩
      repeat'(first
|(with_reducible first|apply aa.seq|apply aa.block)
|((with_reducible apply aa.text);(try case hm=>exact rfl))
|(with_reducible apply aa.exit)
|((with_reducible apply mQ);(case hj=>exact rfl))
|((with_reducible apply aa.am);(case hc=>exact rfl))
|((with_reducible apply ab.ao);(case hp=>exact ae))
|(with_reducible apply ab.af)
|((with_reducible apply ab.u);(case hx=>((with_reducible apply ah.dI);(case hs=>exact fun _=>rfl);(case ha|ht=>exact rfl);(case hr=>first|(with_reducible exact dB)|(with_reducible exact dC)|(with_reducible exact dD)|(with_reducible exact rw3)|(with_reducible exact rw4)|exact rfl);(case hx|hy|hn|hb|hok=>exact rfl);(case hlen=>exact J);(case hv=>exact hv);(case hk=>exact dL);(case hf=>exact leq))))
|((with_reducible apply ab.u0);(case hx=>first
|((with_reducible apply ah.jm (cs:=[.t (.int .i64 e.r),.t (.int .i64 e.n),.t (.int .i64 e.t),.t (aF e.past),.t (.int .i64 e.k),.t (.int .i64 e.a),.t (.int .i64 e.gk),.t (.int .i64 e.gi),.t (.int .i64 e.ge),.t (.int .i64 e.ga),.t (.int .i64 e.to),.t (.int .i64 e.pl),.t (.int .i64 e.se),.t (.int .i64 u.kind),.t (.int .i64 u.cell),.t (.int .i64 u.value)]) (v:=.t (.agg [.int .i64 e.r,.int .i64 e.n,.int .i64 e.t,aF e.past,.int .i64 e.k,.int .i64 e.a,.int .i64 e.gk,.int .i64 e.gi,.int .i64 e.ge,.int .i64 e.ga,.int .i64 e.to,.int .i64 e.pl,.int .i64 e.se,.int .i64 u.kind,.int .i64 u.cell,.int .i64 u.value])));(case ho=>kernel_rfl);(case h=>kernel_rfl);(case hv=>kernel_rfl))
|((with_reducible apply ah.oJ (es:=[[.int .i64 e.r,.int .i64 e.n,.int .i64 e.t,aF e.past,.int .i64 e.k,.int .i64 e.a,.int .i64 e.gk,.int .i64 e.gi,.int .i64 e.ge,.int .i64 e.ga,.int .i64 e.to,.int .i64 e.pl,.int .i64 e.se,.int .i64 u.kind,.int .i64 u.cell,.int .i64 u.value]]));(case hw=>exact rfl);(case ho=>kernel_rfl);(case h=>kernel_rfl))
|exact ac))
|fail)
      refine⟨by kernel_rfl,?_⟩
      repeat'(first
|((with_reducible apply aa.text);(try case hm=>exact rfl))
|(with_reducible first|apply ai|apply aA|apply aG|apply az|apply ab.af)
|((with_reducible apply ab.u0);(case hx=>exact ac))
|fail)
      exact⟨(q+1,true),rfl,rfl,by dsimp only;omega,by dsimp only;omega⟩
     ·
      rw[if_neg G]at z
      repeat'(first
|((with_reducible apply aa.text);(try case hm=>exact rfl))
|(with_reducible apply ab.nil)
|((with_reducible apply ab.u0);(case hx=>exact ac))
|fail)
      refine⟨rfl,?_⟩
      repeat'(first
|(with_reducible first|apply aa.seq|apply aa.block)
|((with_reducible apply aa.text);(try case hm=>exact rfl))
|(with_reducible first|apply aa.skip|apply aG)
|((with_reducible apply aa.ak);(case hc=>exact rfl))
|((with_reducible apply ab.aw);(case hp=>exact ae))
|(with_reducible apply ab.af)
|((with_reducible apply ab.u0);(case hx=>exact ac))
|fail)
      refine⟨by kernel_rfl,?_⟩;exact⟨rfl,rfl,by have:=D.1;omega,by rw[D.2,z]⟩
    ·
     rw[O.2,q6]at y
     repeat'(first
|((with_reducible apply aa.text);(try case hm=>exact rfl))
|(with_reducible first|apply ai|apply aG|apply ab.af)
|((with_reducible apply ab.u0);(case hx=>exact ac))
|fail)
     exact⟨(q+1,true),rfl,by dsimp only;rw[y,List.append_nil];rfl,by dsimp only;omega,by dsimp only;omega⟩
  ·
   rw[IG hk]at y
   repeat'(first
|(with_reducible first|apply aa.seq|apply aa.block)
|((with_reducible apply aa.text);(try case hm=>exact rfl))
|(with_reducible first|apply aa.skip|apply aa.exit|apply ai|apply aA|apply az)
|((with_reducible apply aa.am);(case hc=>exact rfl))
|((with_reducible apply ab.ao);(case hp=>exact ae))
|((with_reducible apply ab.fa);(case hp=>exact ae))
|(with_reducible apply ab.af)
|((with_reducible apply ab.u0);(case hx=>exact ac))
|fail)
   exact⟨(q+1,ad),rfl,by dsimp only;rw[y,List.append_nil];rfl,by dsimp only;omega,by dsimp only;omega⟩
 ·
  rw[List.take_of_length_le h3]
  repeat'(first
|(with_reducible apply aa.seq)
|((with_reducible apply aa.text);(try case hm=>exact rfl))
|(with_reducible first|apply aa.exit|apply aa.ret|apply ai|apply aA|apply az)
|((with_reducible apply aa.ak);(case hc=>exact rfl))
|((with_reducible apply ab.aw);(case hp=>exact ae))
|(with_reducible apply ab.af)
|((with_reducible apply ab.u0);(case hx=>exact ac))
|fail)
  exact⟨.inr rfl,rfl⟩
end Go.Proofs.YtgbfedgghjcdcaaGreatDoor
