/- The tree evaluator,33: lists of lists built in memory of their own. No condition. -/
import Derived.Test.YtjolgbkkocjpgaaGreatDoorTV
import Derived.Great.BuildSlice
set_option linter.defProp false
set_option linter.unusedSimpArgs false
set_option linter.unusedVariables false
set_option linter.unusedSectionVars false
namespace Go.Proofs.YtjolgbkkocjpgaaGreatDoor
open Go.RowKit
set_option maxRecDepth 100000
structure jj (w0 w:World) (es:List AV) (v:Value) (T:TypeId) (us ts:List Value):Prop where
 row:cj w T 1 v es.length us
 len:es.length<=140737488351232
 tl:ts.length=es.length
 el:∀(j:Nat) (x:AV) (u t:Value),es[j]?=some x->us[j]?=some u->ts[j]?=some t->OV w x u t
 new:∀(j:Nat) (t:Value) (b:Nat),ts[j]?=some t->Bk t b->w0.heap.size<=b/\bA v≠some b
 dis:∀(j k:Nat) (t t':Value) (b:Nat),ts[j]?=some t->ts[k]?=some t'->Bk t b->Bk t' b->j=k
 qg:∀b,bA v=some b->w0.heap.size<=b
def jj.nil(w0 w:World)(a:Option Addr):jj w0 w [] (.slice a 0 0) 0 [] [] where
 row:=.inl ⟨rfl,rfl,a,rfl⟩
 len:=by simp
 tl:=rfl
 el:=fun j x u t h=>by simp at h
 new:=fun j t b h=>by simp at h
 dis:=fun j k t v b h=>by simp at h
 qg:=fun b h=>by cases a <;>cases h
def I8{w:World}{T:TypeId}{sz n b:Nat}{v:Value}{us:List Value}(h:cj w T sz v n us)(hb:bA v=some b):b <w.heap.size:=by
 rcases h with⟨_,_,a,rfl⟩|h
 ·cases a <;>cases hb
 ·rcases h.2 with⟨rfl,_⟩|⟨g,cap,u,rfl,_,y,_⟩
  ·cases hb
  ·cases cap with
   |zero=>cases hb
   |succ c=>cases hb;exact(Array.getElem?_eq_some_iff.1 y).1
def jj.later{w0 w w':World}{es:List AV}{v:Value}{T:TypeId}{us z:List Value}(h:jj w0 w es v T us z)(hb:Below w.heap.size w w'):jj w0 w' es v T us z where
 row:=h.row.below hb
 len:=h.len
 tl:=h.tl
 el:=fun j x u t h1 h2 h3=>(h.el j x u t h1 h2 h3).same fun b y=>hb.block b ((h.el j x u t h1 h2 h3).lt b y).1
 new:=h.new
 dis:=h.dis
 qg:=h.qg
def jj.je{w0 w w1 w2 w3:World}{es:List AV}{v v' u t:Value}{T T':TypeId}{us ts:List Value}{x:AV}(h:jj w0 w es v T us ts)(au:w0.heap.size<=w.heap.size)(h1:Below w.heap.size w w1)(hx:OV w1 x u t)(I:∀b,Bk t b->w.heap.size<=b)(h2:Below w1.heap.size w1 w2)
  (hr:cj w3 T' 1 v' (es.length+1) (us++[u]))(hl:es.length+1<=140737488351232)(hg:w2.grownBy w3 (bA v))(hv:bA v'=bA v\/bA v'=some w2.heap.size\/bA v'=none):jj w0 w3 (es++[x]) v' T' (us++[u]) (ts++[t]):=by
 have ao:∀b,bA v=some b->b <w.heap.size:=fun b D=>I8 h.row D;have ak:us.length=es.length:=by have:=h.row.len;rwa[Nat.mul_one]at this
 have ab:∀(j:Nat) (y:AV) (z s:Value),es[j]?=some y->us[j]?=some z->ts[j]?=some s->∀b,Bk s b->b <w.heap.size:=fun j y z s U V e3 b D=>((h.el j y z s U V e3).lt b D).1
 have ag:∀(j:Nat) (s:Value),ts[j]?=some s->∀b,Bk s b->b <w.heap.size:=fun j s e b D=>by
  have J:=aF e;exact ab j _ _ s (List.getElem?_eq_getElem (by rw[<- h.tl];exact J)) (List.getElem?_eq_getElem (by rw[ak,<- h.tl];exact J)) e b D
 have ap:=fun b D=>(hx.lt b D).1;have aw:=h2.size;have ay:=h1.size
 have al:∀b,bA v'=some b->b <w.heap.size/\bA v=some b\/b=w2.heap.size:=fun b D=>by
  rcases hv with e|e|e
  ·rw[e]at D;exact .inl ⟨ao b D,D⟩
  ·rw[e]at D;cases D;exact .inr rfl
  ·rw[e]at D;cases D
 have G:∀(j:Nat) (s:Value),(ts++[t])[j]?=some s->(j <ts.length/\ts[j]?=some s)\/(j=ts.length/\s=t):=fun j s e=>by
  rw[List.getElem?_append]at e;split at e
  ·rename_i J;exact .inl ⟨J,e⟩
  ·rename_i J;have:=aF e;simp at this;have:j=ts.length:=by omega
   subst this;rw[Nat.sub_self]at e;cases e;exact .inr ⟨rfl,rfl⟩
 refine⟨by rw[List.length_append];exact hr,by rw[List.length_append];exact hl,by simp[h.tl],fun j y z s U V e3=>?_,fun j s b e D=>?_,fun j k s s' b U V D Z=>?_,fun b D=>?_⟩
 ·rcases G j s e3 with⟨J,e3⟩|⟨rfl,rfl⟩
  ·rw[List.getElem?_append_left (by rw[<- h.tl];exact J)]at U;rw[List.getElem?_append_left (by rw[ak,<- h.tl];exact J)]at V;refine(h.el j y z s U V e3).same fun b D=>?_;have ad:=ab j y z s U V e3 b D;rw[hg.block b (by omega) fun e=>(h.new j s b e3 D).2 e.symm,h2.block b (by omega),h1.block b ad]
  ·rw[h.tl,List.getElem?_append_right (Nat.le_refl _),Nat.sub_self]at U;rw[h.tl,<- ak,List.getElem?_append_right (Nat.le_refl _),Nat.sub_self]at V;cases U;cases V;refine hx.same fun b D=>?_;have ad:=ap b D;rw[hg.block b (by omega) fun e=>?_,h2.block b ad];have:=ao b e.symm;have:=I b D;omega
 ·rcases G j s e with⟨J,e⟩|⟨rfl,rfl⟩
  ·refine⟨(h.new j s b e D).1,fun e'=>?_⟩;rcases al b e' with⟨_,an⟩|rfl
   ·exact(h.new j s b e D).2 an
   ·have:=ag j s e _ D;omega
  ·refine⟨Nat.le_trans au (I b D),fun e'=>?_⟩;have h3:=I b D;have h4:=ap b D;rcases al b e' with⟨an,_⟩|rfl
   ·omega
   ·omega
 ·rcases G j s U with⟨J,f1⟩|⟨J,f1⟩<;>rcases G k s' V with⟨hk,f2⟩|⟨hk,f2⟩
  ·exact h.dis j k s s' b f1 f2 D Z
  ·have:=ag j s f1 b D;rw[f2]at Z;have:=I b Z;omega
  ·have:=ag k s' f2 b Z;rw[f1]at D;have:=I b D;omega
  ·omega
 ·rcases al b D with⟨_,e⟩|rfl
  ·exact h.qg b e
  ·have:=h1.size;omega
def jj.ov{w0 w:World}{es:List AV}{v:Value}{T:TypeId}{us ts:List Value}(h:jj w0 w es v T us ts):∃t,OV w (.arr (es.map fun x=>[x])) v t/\∀b,Bk t b->w0.heap.size<=b:=by
 have u:es.length=0->(∃a,v=.slice a 0 0)->∃t,OV w (.arr (es.map fun x=>[x])) v t/\∀b,Bk t b->w0.heap.size<=b:=fun D ⟨a,hv⟩=>by
  obtain rfl:=List.eq_nil_of_length_eq_zero D;subst hv;exact⟨_,.bO a,fun b y=>(Ac y).elim⟩
 rcases h.row with⟨D,_,a,e⟩|hr
 ·exact u D ⟨a,e⟩
 ·rcases hr.2 with⟨e,D⟩|⟨g,cap,U,e,_,hg,V,ab,ad,Z⟩
  ·exact u D ⟨none,by rw[e]⟩
  ·rcases Nat.eq_zero_or_pos cap with hc|hc
   ·subst hc;exact u (by omega) ⟨some ⟨g,0,none⟩,by rw[e];congr 1;omega⟩
   ·obtain⟨c,rfl⟩:∃c,cap=c+1:=⟨cap - 1,by omega⟩;have ag:us.length=es.length:=by have:=h.row.len;rwa[Nat.mul_one]at this
    have G:bA v=some g:=by rw[e];rfl
    refine⟨.tuple (v::ts).toArray,?_,fun b y=>?_⟩
    ·rw[e];refine OV.arr g c T U es _ (fun k=>us.getD k undef) ts rfl hg h.tl h.len V (fun k hk=>?_) (fun k x t hx I=>?_) (fun k t I y=>(h.new k t g I y).2 G) h.dis
     ·obtain⟨z,J⟩:=am (xs:=us) (k:=k) (by omega);rw[List.getD_eq_getElem?_getD,J];have h1:=J;rw[<- Z,List.getElem?_take]at h1;split at h1
      ·rw[Array.getElem?_toList]at h1;exact h1
      ·cases h1
     ·have hk:=aF hx;obtain⟨z,J⟩:=am (xs:=us) (k:=k) (by omega);rw[List.getD_eq_getElem?_getD,J];exact h.el k x z t hx J I
    ·rw[e]at y;rcases Ab y with rfl|⟨k,t,I,y⟩
     ·exact h.qg _ G
     ·exact(h.new k t b I y).1
def I9{w0 w:World}{T:TypeId}{v:Value}{xs:List Int}{us:List Value}(h:cj w T 1 v xs.length us)(hl:xs.length<=140737488351232)(D:∀(k:Nat) (n:Int),xs[k]?=some n->us[k]?=some (.int .i64 n))(hb:∀b,bA v=some b->w0.heap.size<=b):∃t,OV w (.arr (xs.map fun n=>[.int .i64 n])) v t/\∀b,Bk t b->w0.heap.size<=b:=by
 have z:jj w0 w (xs.map fun n=>.int .i64 n) v T us (List.replicate xs.length (.tuple #[])):=by
  refine⟨by rw[List.length_map];exact h,by rw[List.length_map];exact hl,by simp,fun j x u t h1 h2 h3=>?_,fun j t b h1 h2=>?_,fun j k t G b h1 _ h2 _=>?_,hb⟩
  ·rw[List.getElem?_map]at h1
   cases y:xs[j]? with
   |none=>rw[y]at h1;cases h1
   |some n=>
    rw[y]at h1;cases h1;rw[D j n y]at h2;cases h2;rw[List.getElem?_replicate]at h3;split at h3
    ·cases h3;exact .int _ _
    ·cases h3
  ·rw[List.getElem?_replicate]at h1;split at h1
   ·cases h1;exact(wv h2).elim
   ·cases h1
  ·rw[List.getElem?_replicate]at h1;split at h1
   ·cases h1;exact(wv h2).elim
   ·cases h1
 obtain⟨t,h1,h2⟩:=z.ov;rw[List.map_map]at h1;exact⟨t,h1,h2⟩
set_option maxHeartbeats 8000000
def Ct{P:Program}{f:Nat}{fn:Func}{c:Code}{us:Array Value}{w:World}{R:Ending->World->Prop}(u:P.funcs[f]?=some fn)(hb:fn.body=some c)
  (walk:c.wpIn (Fw none) 0 P (fun e a w'=>(e=.normal\/e=.ret)/\a.defers=[]/\∃v,(results fn a.tmps).run P w'=.ok v w'/\R (.returned v) w') {tmps:=us++Array.replicate (fn.ntmps - us.size) undef,defers:=[]} w):Calls P f us w R:=by
 refine callsIn_wide.1 (callsIn_of_wp_marks (F:=Fence.wide) (n:=0) u hb trivial ?_);refine wpIn_mono walk fun I a w' ⟨D,hd,v,G,z⟩=>?_
 have y:LeavesInM Fence.wide 0 P fn a.tmps R a.defers .returning w':=by
  rw[hd];exact⟨v,G,z⟩
 rcases D with rfl|rfl <;>exact y
structure Sl (n:Nat) (kp:List (Nat×Value)) (a:Act):Prop where
 sz:a.tmps.size=n
 df:a.defers=[]
 kp:Kp kp a
def bM(kp:List (Nat×Value))(d:Nat)(v:Value):List (Nat×Value):=(d,v)::kp.filter fun p=>decide (p.1≠d)
def Sl.start{us:Array Value}{n m:Nat}{kp:List (Nat×Value)}(hm:us.size+m=n)(h:∀p∈kp,us[p.1]?=some p.2):Sl n kp {tmps:=us++Array.replicate m undef,defers:=[]}:=⟨by simp[hm],rfl,fun p v=>by
 have h1:=h p v;have u:=(Array.getElem?_eq_some_iff.1 h1).1;show(us++Array.replicate m undef).getD p.1 undef=p.2
 rw[Array.getD_eq_getD_getElem?,Array.getElem?_append_left u,h1];rfl⟩
def Sl.at{n t:Nat}{kp:List (Nat×Value)}{a:Act}{v:Value}(h:Sl n kp a)(hm:(t,v)∈kp):a.eval (.tmp t)=v:=h.kp (t,v) hm
theorem Sl.put{n d:Nat}{kp:List (Nat×Value)}{a:Act}{v:Value}(h:Sl n kp a)(hd:d <n):Sl n (bM kp d v) (a.put (some d) v):=by
 refine⟨by rw[bQ];exact h.sz,by rw[put_defers];exact h.df,fun p hp=>?_⟩;unfold bM at hp;rcases List.mem_cons.1 hp with rfl|hp
 ·exact fz (by rw[h.sz];exact hd)
 ·rw[List.mem_filter]at hp;rw[ck (by intro e;cases e;simp at hp)];exact h.kp p hp.1
def Sl.sub{n:Nat}{kp kp':List (Nat×Value)}{a:Act}(h:Sl n kp a)(hs:∀p∈kp',p∈kp):Sl n kp' a:=⟨h.sz,h.df,fun p u=>h.kp p (hs p u)⟩
def cC{P:Program}{dn n d:Nat}{ops:Array Oper}{Q:Exit->Act->World->Prop}{a:Act}{w w':World}{o:Oper}{l:List Oper}{v:Value}{kp:List (Nat×Value)}(hk:Sl n kp a)(hg:o.guard=none)(hd:o.dst=some d)(u:d <n)(h:(execOp a.eval o).run P w=.ok (.value v) w')(K:∀y,Sl n (bM kp d v) y->wpListIn (Fw none) dn P ops Q l y w'):wpListIn (Fw none) dn P ops Q (o::l) a w:=
 iM hg h (by rw[hd];exact K _ (hk.put u))
def fD{P:Program}{a:Act}{w:World}{v:Value}{x:Operand}{o:Oper}(ho:o.op=.move x)(hx:a.eval x=v):(execOp a.eval o).run P w=.ok (.value v) w:=by
 cases o;cases ho;subst hx;rfl
def nJ{P:Program}{a:Act}{w:World}{v:Value}{x:Operand}{o:Oper}(ho:o.op=.assign x)(hx:a.eval x=v):(execOp a.eval o).run P w=.ok (.value v) w:=by
 cases o;cases ho;subst hx;rfl
def r_{P:Program}{a:Act}{w:World}{v:Value}{t:Nat}{x:Operand}{o:Oper}{p:Value}(ho:o.op=.load t x)(hx:a.eval x=p)(h:(Instr.loadAt t p).run P w=.ok v w):(execOp a.eval o).run P w=.ok (.value v) w:=by
 cases o;cases ho;subst hx;exact fc rfl h
def o_{P:Program}{a:Act}{w:World}{v:Value}{t:Nat}{x y:Operand}{o:Oper}{p q:Value}(ho:o.op=.indexAddr t x y)(hx:a.eval x=p)(hy:a.eval y=q)(h:(Instr.indexAt t p q).run P w=.ok v w):(execOp a.eval o).run P w=.ok (.value v) w:=by
 cases o;cases ho;subst hx hy;exact fc rfl h
def I_{P:Program}{a:Act}{w:World}{t:Nat}{x:Operand}{o:Oper}{q:Option Addr}{n c e:Nat}(ho:o.op=.call ⟨.builtin .len,#[x],#[t]⟩)(ht:P.underlying t=some (.slice e))(hx:a.eval x=.slice q n c):(execOp a.eval o).run P w=.ok (.value (.int .i64 n)) w:=by
 cases o;cases ho;refine fc GF ?_;simp[Sem.run_bind,Sem.run_pure,hx,invoke,builtin,Builtin.len_,run_underlying ht,pure,Sem.run,goInt]
def yj{P:Program}{a:Act}{w:World}{t u:Nat}{b:BinOp}{x y:Operand}{o:Oper}{m n:Int}{z:AV}(ho:o.op=.binOp b t x y u)(hx:a.eval x=.int .i64 m)(hy:a.eval y=.int .i64 n)(h:jH b .i64 m n=some z):∃r,(execOp a.eval o).run P w=.ok (.value r) w/\VR (fun _=>True) w z r:=by
 cases o;cases ho;obtain⟨r,h1,h2⟩:=Az (P:=P) (b:=b) (t:=t) (x:=x) (y:=y) (s:=.t (.int .i64 m)) (s':=.t (.int .i64 n)) (z:=z) (u:=a.eval x) (v:=a.eval y) (A:=fun _=>True) (L:=fun _=>none) (w:=w) (by unfold gF;simp only[if_true];exact h) (by rw[hx];exact .t _ _ (.int _ _)) (by rw[hy];exact .t _ _ (.int _ _));exact⟨r,fc rfl h1,h2⟩
def Ja{P:Program}{a:Act}{w:World}{t u:Nat}{x y:Operand}{o:Oper}{m n:Int}{b:Bool}(ho:o.op=.binOp .lss t x y u)(hx:a.eval x=.int .i64 m)(hy:a.eval y=.int .i64 n)(hb:decide (m <n)=b):(execOp a.eval o).run P w=.ok (.value (.bool b)) w:=by
 obtain⟨r,h1,h2⟩:=yj (P:=P) (w:=w) (z:=.bool b) ho hx hy (by rw[<- hb];rfl);cases h2;exact h1
def Jb{P:Program}{a:Act}{w:World}{t u:Nat}{x y:Operand}{o:Oper}{m n r:Int}(ho:o.op=.binOp .add t x y u)(hx:a.eval x=.int .i64 m)(hy:a.eval y=.int .i64 n)(hr:m+n=r)(hb : -9223372036854775808<=r/\r<=9223372036854775807):(execOp a.eval o).run P w=.ok (.value (.int .i64 r)) w:=by
 obtain⟨v,h1,h2⟩:=yj (P:=P) (w:=w) (z:=.int .i64 r) ho hx hy (by subst hr;show some (AV.int .i64 (IntKind.i64.wrap (m+n)))=_;rw[IntWalk.i64_in _ hb]);cases h2;exact h1
def yk{P:Program}{a:Act}{w w':World}{t:Nat}{x y:Operand}{o:Oper}{p q v:Value}(ho:o.op=.call ⟨.builtin .append,#[x,y],#[t,t]⟩)(hx:a.eval x=p)(hy:a.eval y=q)(h:(Builtin.append_ #[t,t] o.type #[p,q]).run P w=.ok v w'):(execOp a.eval o).run P w=.ok (.value v) w':=by
 cases o;cases ho;subst hx hy;exact ue rfl rfl h
def Jc{P:Program}{dn n d:Nat}{ops:Array Oper}{Q:Exit->Act->World->Prop}{a:Act}{w:World}{o:Oper}{l:List Oper}{kp:List (Nat×Value)}{f:Nat}{x:Operand}{u:Value}{tys:Array TypeId}{R:Value->World->Prop}(hk:Sl n kp a)(hg:o.guard=none)(hd:o.dst=some d)(y:d <n)(ho:o.op=.call ⟨.value (.func f),#[x],tys⟩)(hx:a.eval x=u)(hf:gh P f)(hc:Calls P f #[u] w fun e w'=>∃v,e=.returned v/\R v w')(K:∀z v w',R v w'->Sl n (bM kp d v) z->wpListIn (Fw none) dn P ops Q l z w'):wpListIn (Fw none) dn P ops Q (o::l) a w:=by
 refine uJ hg (cq.wpIn (R:=R) ?_ fun v w' D=>by rw[hd];exact K _ v w' D (hk.put y));obtain⟨dst,op,ty,pos,after,g⟩:=o;cases ho;subst hx
 have G:(execOp a.eval ⟨dst,.call ⟨.value (.func f),#[x],tys⟩,ty,pos,after,g⟩).run P w=.ok (.enter f #[a.eval x]) w:=by
  have:(execOp a.eval ⟨dst,.call ⟨.value (.func f),#[x],tys⟩,ty,pos,after,g⟩).run P w=(callFunc f #[a.eval x]).run P w:=by
   simp[execOp,resolve,invoke,Sem.run_bind,Sem.run_pure,Act.eval]
   try rfl
  rw[this];exact xq hf _ w
 unfold cq;rw[G];exact hc
def Jd{P:Program}{a:Act}{w:World}{t e v:Nat}{x:Operand}{o:Oper}{u:Value}(ho:o.op=.buildSlice t 1 #[(0,x)])(ht:dY P t=some (e,1,v))(hx:a.eval x=u)(hp:di u=true):(execOp a.eval o).run P w=.ok (.value (.slice (some ⟨w.heap.size,0,none⟩) 1 1)) (w.alloc (.cells #[u] e)):=by
 obtain⟨i,z,Z,J,hz,hs,_,ab,y⟩:=nl ht;obtain⟨dst,op,ty,pos,after,g⟩:=o;cases ho;have G:=AB hp;have I:execOp a.eval ⟨dst,.buildSlice t 1 #[(0,x)],ty,pos,after,g⟩=(do pure (.value (<- Instr.buildSlice t 1 ((#[(0,x)]:Array (Nat×Operand)).map fun(i,x)=>(i,a.eval x))))):=rfl;refine fc I ?_;have U:((#[(0,x)]:Array (Nat×Operand)).map fun(i,x)=>(i,a.eval x))=#[(0,u)]:=by rw[<- hx];simp
 rw[U];refine run_buildSlice w t e 1 #[(0,u)] #[u] i z Z J hz (by rw[hs];decide) (by rw[hs];decide) ?_;rw[hs]
 have V:(Array.range (1*1)).map (fun k=>z.cells[k %z.cells.size]!)=#[z.cells[0 %z.cells.size]!]:=by
  have D:Array.range (1*1)=#[0]:=rfl;rw[D];simp
 rw[V];simp[Instr.fill,G]
def Cu{P:Program}{a:Act}{w:World}{t e sz u:Nat}{o:Oper}(ho:o.op=.buildSlice t 0 #[])(ht:dY P t=some (e,sz,u)):(execOp a.eval o).run P w=.ok (.value (.slice (some ⟨w.heap.size,0,none⟩) 0 0)) (w.alloc (.cells #[] e)):=by
 obtain⟨i,z,I,G,V,hs,U,J,y⟩:=nl ht;obtain⟨dst,op,ty,pos,after,g⟩:=o;cases ho
 have v:(Instr.buildSlice t 0 #[]).run P w=.ok (.slice (some ⟨w.heap.size,0,none⟩) 0 0) (w.alloc (.cells #[] e)):=by
  unfold Instr.buildSlice;simp[run_underlying I,iG G,Sem.run_bind,Instr.fill,newRow,newObj,pure,Sem.run];congr 2;apply Array.ext
  ·simp
  ·intro k h1 _;simp at h1
 have D:execOp a.eval ⟨dst,.buildSlice t 0 #[],ty,pos,after,g⟩=(do pure (.value (<- Instr.buildSlice t 0 ((#[]:Array (Nat×Operand)).map fun(i,x)=>(i,a.eval x))))):=rfl;exact fc D (by rw[Array.map_empty];exact v)
def Cv{P:Program}{a:Act}{w w':World}{t n b u:Nat}{z:Bool}{x y:Operand}{o:Oper}{v:Value}(ho:o.op=.store t x y)(ht:bh P t=some (z,n))(hx:a.eval x=.pointer (some ⟨b,u,none⟩))(hy:a.eval y=v)(hn:v.cells.size=n)(hs:(storeCells ⟨b,u,none⟩ v.cells.toList).run P w=.ok () w'):(execOp a.eval o).run P w=.ok .skip w':=by
 cases o;cases ho;subst hy;simp[execOp,Instr.storeAt,hx,Instr.sureAddr,storeVar,Sem.run_bind,(pO ht w).2,hn,hs,pure,Sem.run]
def Sl.skip{n:Nat}{kp:List (Nat×Value)}{a:Act}{v:Value}(h:Sl n kp a):Sl n kp (a.put none v):=h
def Je{P:Program}{dn n:Nat}{ops:Array Oper}{Q:Exit->Act->World->Prop}{a:Act}{w w':World}{o:Oper}{l:List Oper}{kp:List (Nat×Value)}(hk:Sl n kp a)(hg:o.guard=none)(hd:o.dst=none)(h:(execOp a.eval o).run P w=.ok .skip w')(K:∀u,Sl n kp u->wpListIn (Fw none) dn P ops Q l u w'):wpListIn (Fw none) dn P ops Q (o::l) a w:=
 uJ hg (cq.wpIn (R:=fun x y=>y=w') (by unfold cq;rw[h]) fun x y h2=>by subst h2;rw[hd];exact K _ hk)
def Cw(ops:Array Oper)(m n:Nat)(ks:List Nat)(i:Nat)(o:Oper):Bool:=match Nat.beq i m with
 |true=>(List.range m).all fun j=>o.after.any fun e=>Nat.beq e.on j&&Region.binds .any e
 |false=>match o.dst with
  |none=>false
  |some d=>Nat.blt d n&&((ks.all fun k=>!Nat.beq k d)&&((List.range m).all fun j=>Nat.beq i j ||(match ops[j]? with
   |some v=>(match v.dst with|some u=>!Nat.beq u d|none=>true)
   |none=>true)))
def ym(ops:Array Oper)(m n:Nat)(ks:List Nat):Bool:=Nat.beq ops.size (m+1)&&((List.range (m+1)).all fun i=>match ops[i]? with
 |none=>false
 |some o=>o.guard.isNone&&(o.after.all (fun e=>Nat.blt e.on i)&&Cw ops m n ks i o))
def Jf{ops:Array Oper}{m n:Nat}{ks:List Nat}(h:ym ops m n ks=true):ops.size=m+1/\∀i o,ops[i]?=some o->o.guard=none/\(∀e∈o.after,e.on <i)/\(i=m->∀j,j <m->∃e∈o.after,e.on=j/\Region.binds .any e=true)/\(i≠m->∃d,o.dst=some d/\d <n/\d∉ks/\∀j oj v,j <m->i≠j->ops[j]?=some oj->oj.dst=some v->v≠d):=by
 unfold ym at h;rw[Bool.and_eq_true,Nat.beq_eq,List.all_eq_true]at h;obtain⟨h1,h2⟩:=h;refine⟨h1,fun i o ho=>?_⟩;have hi:i <m+1:=by rw[<- h1];exact(Array.getElem?_eq_some_iff.1 ho).1
 have h3:=h2 i (List.mem_range.2 hi);rw[ho]at h3;simp only[Bool.and_eq_true]at h3;obtain⟨h4,h5,u⟩:=h3;unfold Cw at u
 refine⟨by simpa using h4,fun e G=>by
  have:=Array.all_eq_true.1 h5;obtain⟨k,V,rfl⟩:=Array.mem_iff_getElem.1 G;simpa using this k V,fun J j U=>?_,fun Z=>?_⟩
 ·rw[J]at u;simp only[Nat.beq_refl,List.all_eq_true]at u;have:=u j (List.mem_range.2 U);obtain⟨e,G,y⟩:=Array.any_eq_true'.1 this;rw[Bool.and_eq_true,Nat.beq_eq]at y;exact⟨e,G,y.1,y.2⟩
 ·have z:Nat.beq i m=false:=by rw[<- Bool.not_eq_true,Nat.beq_eq];exact Z
  rw[z]at u;simp only at u
  cases hd:o.dst with
  |none=>rw[hd]at u;cases u
  |some d=>
   rw[hd]at u;simp only[Bool.and_eq_true,List.all_eq_true]at u;obtain⟨h7,h8,h9⟩:=u;refine⟨d,rfl,by simpa using h7,fun V=>?_,fun j oj v U I ab D=>?_⟩
   ·have:=h8 d V;simp at this
   ·have:=h9 j (List.mem_range.2 U);rw[ab]at this;simp only[D,Bool.or_eq_true,Nat.beq_eq]at this;rcases this with h|h
    ·exact absurd h I
    ·intro e;subst e;simp at h
structure Jg (ops:Array Oper) (m n:Nat) (kp:List (Nat×Value)) (val:Nat->Value) (listed:Array Bool) (a:Act):Prop where
 sl:Sl n kp a
 sz:listed.size=ops.size
 last:listed.getD m true=false
 done:∀i o d,i <m->ops[i]?=some o->o.dst=some d->listed.getD i true=true->a.eval (.tmp d)=val i
def Jh{P:Program}{dn n m id:Nat}{ops:Array Oper}{Q:Exit->Act->World->Prop}{a:Act}{w wd:World}{kp:List (Nat×Value)}(val:Nat->Value)(hm:P.follows .mixedOrders=true)(a_:{w with drawn:=w.drawn+1}=wd)(hk:Sl n kp a)(hB:ym ops m n (kp.map (·.1))=true)
  (hx:∀i o,i <m->ops[i]?=some o->∀a',Sl n kp a'->(∀e∈o.after,Region.binds .any e=true->∀I d,ops[e.on]?=some I->I.dst=some d->a'.eval (.tmp d)=val e.on)->(execOp a'.eval o).run P wd=.ok (.value (val i)) wd)
  (hl:∀o a',ops[m]?=some o->Sl n kp a'->(∀j I d,j <m->ops[j]?=some I->I.dst=some d->a'.eval (.tmp d)=val j)->o.wpIn (Fw none) dn P a' wd (fun J Z=>Q .normal J Z) Q):(Code.region id ops true).wpIn (Fw none) dn P Q a w:=by
 obtain⟨bc,ag⟩:=Jf hB;refine wpIn_region_any hm ?_;rw[a_]
 have fin:∀u (listed:Array Bool) a w,(∀k,k <ops.size->listed.getD k true=true)->Q .normal a w->wpAnyIn (Fw none) dn P .any ops Q u listed a w:=fun u listed a w U hQ=>by
  have ad:Region.ready .any ops listed=[]:=by
   cases hr:Region.ready .any ops listed with
   |nil=>rfl
   |cons i l=>
    have ab:i∈Region.ready .any ops listed:=by rw[hr];simp
    obtain⟨hl,o,ho,_⟩:=mem_ready.1 ab;have:=U i (Array.getElem?_eq_some_iff.1 ho).1;rw[hl]at this;cases this
  cases u with
  |zero=>exact⟨ad,hQ⟩
  |succ u=>exact⟨fun _=>hQ,fun i hi=>by rw[ad]at hi;cases hi⟩
 have bb:∀u (listed:Array Bool) a,fL listed ops.size<=u->Jg ops m n kp val listed a->wpAnyIn (Fw none) dn P .any ops Q u listed a wd:=by
  intro u
  induction u with
  |zero=>
   intro listed a hu z;have:=uu (listed:=listed) ops.size (by omega) m (by omega);rw[z.last]at this;cases this
  |succ u ih=>
   intro listed a hu z;refine⟨fun hr=>?_,fun i hi=>?_⟩
   ·have U:∀k,k <ops.size->listed.getD k true=true:=by
     intro k
     induction k using Nat.strongRecOn with
     |_ k ihk=>
      intro hk;rw[<- Bool.not_eq_false];intro aR
      have ab:k∈Region.ready .any ops listed:=mem_ready.2 ⟨aR,ops[k],Array.getElem?_eq_getElem hk,fun e he hb=>by
       have aS:=(ag k _ (Array.getElem?_eq_getElem hk)).2.1 e he;exact xz (by rw[z.sz];omega) (ihk e.on aS (by omega))⟩
      rw[hr]at ab;cases ab
    have:=U m (by omega);rw[z.last]at this;cases this
   ·obtain⟨aL,o,ho,D⟩:=mem_ready.1 hi;have au:=(Array.getElem?_eq_some_iff.1 ho).1;obtain⟨hg,ak,V,ap⟩:=ag i o ho
    have a1:fL (listed.setIfInBounds i true) ops.size<=u:=by
     have:=rU aL ops.size;rw[if_pos au]at this;omega
    unfold wpOpIn;simp only[ho];have hw:Region.wanted o (yielded ops a.tmps)=true:=by simp[Region.wanted,hg]
    rw[if_pos hw];by_cases an:i=m
    ·subst an;refine Oper.wpIn_mono (K:=fun J Z=>Q .normal J Z) (fun J Z hq=>fin u _ J Z (fun k hk=>?_) hq) (hl o a ho z.sl fun j I d hj y hd=>?_)
     ·by_cases aw:i=k
      ·subst aw;rw[Array.getD_eq_getD_getElem?,Array.getElem?_setIfInBounds];simp[z.sz,hk]
      ·obtain⟨e,he,rfl,hb⟩:=V rfl k (by omega);have h1:=D e he hb;rw[Array.getD_eq_getD_getElem?,Array.getElem?_setIfInBounds,if_neg aw,<- Array.getD_eq_getD_getElem?];exact gL h1
     ·obtain⟨e,he,rfl,hb⟩:=V rfl j hj;exact z.done e.on I d hj y hd (gL (D e he hb))
    ·have ao:i <m:=by omega
     obtain⟨d,hd,aH,aE,aD⟩:=ap an;have aI:=hx i o ao ho a z.sl fun e he hb I d' y aA=>z.done e.on I d' (by have:=ak e he;omega) y aA (gL (D e he hb));refine cq.wpIn (R:=fun v w'=>v=val i/\w'=wd) (by unfold cq;rw[aI];exact⟨rfl,rfl⟩) fun v w' ⟨hv,a6⟩=>?_;subst hv a6;refine ih _ _ a1 ⟨⟨by rw[bQ];exact z.sl.sz,by rw[put_defers];exact z.sl.df,fun p hp=>?_⟩,by simp[z.sz],?_,fun j I dj hj y G ay=>?_⟩
     ·rw[ck (by rw[hd];intro e;cases e;exact aE (List.mem_map.2 ⟨p,hp,rfl⟩))];exact z.sl.kp p hp
     ·rw[Array.getD_eq_getD_getElem?,Array.getElem?_setIfInBounds,if_neg an,<- Array.getD_eq_getD_getElem?];exact z.last
     ·by_cases al:i=j
      ·subst al;rw[ho]at y;cases y;rw[hd]at G;cases G;rw[hd];exact fz (by rw[z.sl.sz];exact aH)
      ·rw[Array.getD_eq_getD_getElem?,Array.getElem?_setIfInBounds,if_neg al,<- Array.getD_eq_getD_getElem?]at ay;have:=aD j I dj hj al y G;show(a.put o.dst (val i)).tmps.getD dj undef=val j
       rw[ck (by rw[hd];intro e;cases e;exact this rfl)];exact z.done j I dj hj y G ay
 refine bb _ _ _ ?_ ⟨hk,by simp,?_,fun i o d hi ho hd hl=>?_⟩
 ·unfold fL;exact Nat.le_trans (List.countP_le_length) (by simp)
 ·rw[Array.getD_eq_getD_getElem?,Array.getElem?_replicate,if_pos (by omega)];rfl
 ·rw[Array.getD_eq_getD_getElem?,Array.getElem?_replicate,if_pos (by omega)]at hl;cases hl
end Go.Proofs.YtjolgbkkocjpgaaGreatDoor
