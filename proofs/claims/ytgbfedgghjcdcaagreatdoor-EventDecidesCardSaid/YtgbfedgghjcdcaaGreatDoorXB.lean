/- slices. No condition. -/
import Derived.Test.YtgbfedgghjcdcaaGreatDoorVLR
import Derived.Test.YtgbfedgghjcdcaaGreatDoorTD
import Derived.Test.YtgbfedgghjcdcaaGreatDoorTC
set_option linter.all false
namespace Go.Proofs.YtgbfedgghjcdcaaGreatDoor
open Go.RowKit
def gz(es:List (List AV)):Nat->List (List AV)
 |0=>[]
 |q+1=>[.int .i64 (q:Int),.agg (es[q]?.getD [])]::gz es q
def wF(l:Nat)(es:List (List AV))(q:Int):Env:=dZ [(0,.t (.fn (.yield l) 0 [])),(1,.t (.tp [.arr es])),(3,.t (.int .i64 q))]
def BZ:eS Tryz.prog 167:=⟨_,Tryz.func167,by kernel_rfl,rfl⟩
def B2{γ:Glob}:Wf (bare Tryz.prog) γ:=BC (by kernel_rfl)
def Em{A:Nat->Prop}{w:World}{f:Fn}{n:Nat}{cs:List AV}{v:Value}(h:VR A w (.fn f n cs) v)(hn:n=0)(hc:cs=[]):v=.func f #[] #[]:=by
 cases h with
 |fn _ _ fs us hl hr=>
  subst hc;have h1:fs=#[]:=Array.eq_empty_of_size_eq_zero hn;subst h1;have h2:us=#[]:=Array.eq_empty_of_size_eq_zero (by simpa using hl);subst h2;rfl
def vH{A:Nat->Prop}{L:Ls}{w:World}{x:AV}{v:Value}(h:SR A L w (.t x) v):VR A w x v:=by cases h with|t _ _ h=>exact h
def yM{P:Program}{o:Oper}{x:Operand}{t:TypeId}{a:Act}{w:World}{b:Bool}{m:Nat}{K:Act->World->Prop}{Q:Exit->Act->World->Prop}(ho:o.op=.unOp .not t x)(hx:a.eval x=.bool b)(h:K (a.put o.dst (.bool (!b))) w):o.wpIn (Fw none) m P a w K Q:=
 cr.wpIn (R:=fun v w'=>v=.bool (!b)/\w'=w) (by unfold cr execOp;rw[ho];simp only[hx];exact⟨rfl,rfl⟩) fun v w' u=>by obtain⟨rfl,rfl⟩:=u;exact h
def BA{γ:Glob}{es:List (List AV)}{v:Value}(bN:es.length<=140737488351232)(bl:∀c∈es,c.length=3):oB γ Tryz.prog 167 #[v] (ow [.tp [.arr es]] #[v]) (gz es es.length) true:=by
 refine⟨BZ,fun l J Jx A W hJ hX hK _ hY h0 m=>callsIn_of_wp Tryz.func167 rfl trivial ?_ rfl⟩;have hW:Wf (bare Tryz.prog) γ:=B2;have ad:∀{r A X},J r A X->VR A X (.tp [.arr es]) v:=fun h=>(hK _ _ _ h).2 _ _ ⟨0,rfl,rfl⟩
 have hT:∀{r A X} {q:Int} {tm:Array Value},J r A X->tm.getD 0 undef=.func (.yield l) #[] #[]->tm.getD 1 undef=v->tm.getD 3 undef=.int .i64 q->jU A X (wF l es q) tm:=fun{r A X q tm} h h0 h1 h3=>by
  have hM:∀b,A b->MA A [] (fun _=>none) b:=fun b O=>⟨O,fun⟨i,_,_,h,_⟩=>by cases h⟩;refine pu (tm:=fun t=>tm.getD t undef) _ fun p y=>?_;simp only[List.mem_cons,List.not_mem_nil,or_false]at y;rcases y with rfl|rfl|rfl
  ·show SR _ _ _ _ (tm.getD 0 undef);rw[h0];exact .t _ _ (.fn (.yield l) [] #[] #[] rfl fun j x u I=>by simp at I)
  ·show SR _ _ _ _ (tm.getD 1 undef);rw[h1];exact .t _ _ (VR.on (Nat.le_refl _) (fun b _ O=>⟨hM b O,rfl⟩) (ad h))
  ·show SR _ _ _ _ (tm.getD 3 undef);rw[h3];exact .t _ _ (.int _ _)
 have aB:∀{q:Int} {a:Act} {X:World} {A:Nat->Prop} {r:List (List AV)},J r A X->fh [(0,.func (.yield l) #[] #[]),(1,v)] a->a.tmps.getD 3 undef=.int .i64 q->jU A X (wF l es q) a.tmps:=fun h hk h3=>hT h (hk.2 (0,_) (by simp)) (hk.2 (1,v) (by simp)) h3
 have aM:∀(tm:Array Value),tm.getD 0 undef=.func (.yield l) #[] #[]->tm.getD 1 undef=v->jU A W (dZ [(0,.t (.fn (.yield l) 0 [])),(1,.t (.tp [.arr es]))]) tm:=fun tm h1 h2=>by
  have hM:∀b,A b->MA A [] (fun _=>none) b:=fun b O=>⟨O,fun⟨i,_,_,h,_⟩=>by cases h⟩;refine pu (tm:=fun t=>tm.getD t undef) _ fun p y=>?_;simp only[List.mem_cons,List.not_mem_nil,or_false]at y;rcases y with rfl|rfl
  ·show SR _ _ _ _ (tm.getD 0 undef);rw[h1];exact .t _ _ (.fn (.yield l) [] #[] #[] rfl fun j x u I=>by simp at I)
  ·show SR _ _ _ _ (tm.getD 1 undef);rw[h2];exact .t _ _ (VR.on (Nat.le_refl _) (fun b _ O=>⟨hM b O,rfl⟩) (ad h0))
 refine wpIn_seq ?_;refine uB (n:=19) (kp:=[(0,.func (.yield l) #[] #[]),(1,v)]) hW (ab.u0 (x:=.t (.arr es)) (ah.r fun _=>by kernel_rfl) (ab.u0 (ah.len (es:=es) rfl rfl rfl (by kernel_rfl) rfl) (ab.u0 (ah.sub (m:=(es.length:Int)) (n:=1) rfl rfl (by omega)) (ab.u0 (ah.asg rfl) (ab.nil ⟨rfl,rfl⟩))))) rfl (hK _ _ _ h0).1 (by simp) ⟨rfl,(by intro p y;simp only[List.mem_cons,List.not_mem_nil,or_false]at y;rcases y with rfl|rfl <;>simp[Array.getD_eq_getD_getElem?,Array.getElem?_append])⟩ (by simp) (aM _ (by simp[Array.getD_eq_getD_getElem?,Array.getElem?_append]) (by simp[Array.getD_eq_getD_getElem?,Array.getElem?_append])) fun a1 X1 a_ be aV aN=>?_;have h3:a1.tmps.getD 3 undef=.int .i64 ((es.length:Int) - 1):=dK (aN 3);show Code.wpIn _ _ _ _ _ _ _
 refine wpIn_block ?_;refine wpIn_loop_ghost (fun q a X=>q<=es.length/\fh [(0,.func (.yield l) #[] #[]),(1,v)] a/\a.tmps.size=19/\a.tmps.getD 3 undef=.int .i64 ((q:Int) - 1)/\∃A,J (gz es q) A X) es.length ⟨Nat.le_refl _,a_,be,h3,A,hJ _ _ _ _ h0 aV⟩ ?_;rintro q a X ⟨hq,Q,hn,h3,A,hj⟩
 repeat refine wpIn_seq ?_
 refine uB (n:=19) (kp:=[(0,.func (.yield l) #[] #[]),(1,v),(3,.int .i64 ((q:Int) - 1))]) hW (ab.u0 (ah.mv rfl) (ab.u0 (ah.jl rfl rfl rfl) (ab.nil ⟨rfl,rfl⟩))) rfl (hK _ _ _ hj).1 (by simp) ⟨Q.1,(by intro p y;simp only[List.mem_cons,List.not_mem_nil,or_false]at y;rcases y with rfl|rfl|rfl;all_goals first|exact h3|exact Q.2 (0,_) (by simp)|exact Q.2 (1,v) (by simp))⟩ hn (aB hj Q h3) fun a2 X2 G bf ao aQ=>?_;have h8:=jC (b:=decide (((q:Int) - 1)>=0)) (aQ 8);show Code.wpIn _ _ _ _ _ _ _
 refine wpIn_cond_split h8 (fun hc=>?_) (fun hc=>?_)
 ·have bk:=of_decide_eq_true hc;obtain⟨k,rfl⟩:∃k,q=k+1:=⟨q - 1,by omega⟩;have bd:(((k+1:Nat):Int) - 1)=(k:Int):=by omega
  have an:a2.tmps.getD 3 undef=.int .i64 (k:Int):=by rw[<- bd];exact G.2 (3,_) (by simp)
  have z:fh [(0,.func (.yield l) #[] #[]),(1,v)] a2:=⟨G.1,(by intro p y;simp only[List.mem_cons,List.not_mem_nil,or_false]at y;rcases y with rfl|rfl;all_goals first|exact G.2 (0,_) (by simp)|exact G.2 (1,v) (by simp))⟩;have ak:=hJ _ _ _ _ hj ao
  obtain⟨U,V,Z,aq⟩:∃U V Z,es[k]?=some [U,V,Z]:=by
   have aw:k <es.length:=by omega
   have:=bl es[k] (List.getElem_mem aw);rw[List.getElem?_eq_getElem aw]
   match I:es[k],this with
   |[U,V,Z],_=>exact⟨U,V,Z,rfl⟩
  refine wpIn_skip ?_;show Code.wpIn _ _ _ _ _ _ _
  refine wpIn_seq ?_;refine wpIn_block ?_;refine wpIn_seq ?_;refine Eo (n:=19) (kp:=[(0,.func (.yield l) #[] #[]),(1,v),(3,.int .i64 (k:Int))]) hW 6 (ab.u0 (ah.mv rfl) (ab.u0 (ah.mv rfl) (ab.u0 (x:=.t (.arr es)) (fr':=[]) (ah.r fun _=>by kernel_rfl) (ab.u0 (ah.mv rfl) (ab.u0 (ah.ix (e:=65) (sz:=3) (by kernel_rfl) rfl rfl aq rfl) (ab.u0 (x:=.t (.agg [U,V,Z])) (fr':=[]) (ah.r fun _=>by kernel_rfl) (ab.nil ⟨rfl,rfl⟩))))))) rfl rfl (hK _ _ _ ak).1 (by simp) ⟨z.1,(by intro p y;simp only[List.mem_cons,List.not_mem_nil,or_false]at y;rcases y with rfl|rfl|rfl;all_goals first|exact an|exact z.2 (0,_) (by simp)|exact z.2 (1,v) (by simp))⟩ bf (aB ak z an) fun a4 X4 bb bh aY af=>?_;have au:=hJ _ _ _ _ ak aY
  have O:gz es (k+1)=[.int .i64 (k:Int),.agg [U,V,Z]]::gz es k:=by
   show[AV.int .i64 (k:Int),AV.agg (es[k]?.getD [])]::gz es k=_
   rw[aq];rfl
  rw[O]at au;have aE:a4.eval (.tmp 11)=.func (.yield l) #[] #[]:=Em (vH (x:=.fn (.yield l) 0 []) (af 11)) rfl rfl;have aJ:VR A X4 (.int .i64 (k:Int)) (a4.eval (.tmp 12)):=VR.on (Nat.le_refl _) (fun b _ hm=>⟨hm.1,rfl⟩) (vH (x:=.int .i64 (k:Int)) (af 12));have aL:VR A X4 (.agg [U,V,Z]) (a4.eval (.tmp 16)):=VR.on (Nat.le_refl _) (fun b _ hm=>⟨hm.1,rfl⟩) (vH (x:=.agg [U,V,Z]) (af 16));show wpListIn _ _ _ _ _ (_::_::[]) _ _
  unfold wpListIn;rw[if_pos (by simp[Region.wanted])];refine Jq rfl aE (fun m=>hY _ _ _ _ _ au (by simp) (fun j x u I hu=>?_) m) fun e Y hr=>?_
  ·match j,I,hu with
   |0,I,hu=>cases I;simp at hu;rw[<- hu];exact aJ
   |1,I,hu=>cases I;simp at hu;rw[<- hu];exact aL
  ·have D:∀b c:Bool,fh [(0,.func (.yield l) #[] #[]),(1,v),(3,.int .i64 (k:Int))] ((a4.put (some 17) (.bool b)).put (some 18) (.bool c)):=fun b c=>(bb.put (by intro p y;simp only[List.mem_cons,List.not_mem_nil,or_false]at y;rcases y with rfl|rfl|rfl <;>simp)).put (by intro p y;simp only[List.mem_cons,List.not_mem_nil,or_false]at y;rcases y with rfl|rfl|rfl <;>simp);have bM:∀b c:Bool,((a4.put (some 17) (.bool b)).put (some 18) (.bool c)).tmps.size=19:=fun b c=>by rw[dz,dz,bh]
   have al:∀b:Bool,(a4.put (some 17) (.bool b)).eval (.tmp 17)=.bool b:=fun b=>kF (by omega);have am:∀b c:Bool,((a4.put (some 17) (.bool b)).put (some 18) (.bool c)).eval (.tmp 18)=.bool c:=fun b c=>kF (by rw[dz];omega);rcases hr with⟨rfl,A',ag⟩|⟨rfl,bq⟩
   ·refine⟨_,rfl,?_⟩;unfold wpListIn;rw[if_pos (by simp[Region.wanted])];refine yM rfl (al true) ?_;show Code.wpIn _ _ _ _ _ _ _
    refine wpIn_cond_split (am true false) (fun h=>by cases h) (fun _=>?_);refine wpIn_skip ?_;show Code.wpIn _ _ _ _ _ _ _
    refine uB (n:=19) (kp:=[(0,.func (.yield l) #[] #[]),(1,v)]) hW (ab.u0 (ah.mv rfl) (ab.u0 (ah.sub (m:=(k:Int)) (n:=1) rfl rfl (by omega)) (ab.u0 (ah.asg rfl) (ab.nil ⟨rfl,rfl⟩)))) rfl (hK _ _ _ ag).1 (by simp) ⟨(D true false).1,(by intro p y;exact(D true false).2 p (by simp only[List.mem_cons,List.not_mem_nil,or_false]at y⊢;rcases y with rfl|rfl <;>simp))⟩ (bM true false) (hT ag ((D true false).2 (0,.func (.yield l) #[] #[]) (by simp)) ((D true false).2 (1,v) (by simp)) ((D true false).2 (3,.int .i64 (k:Int)) (by simp))) fun a6 X6 bc bj a7 aU=>?_;exact⟨k,by omega,by omega,bc,bj,dK (aU 3),A',hJ _ _ _ _ ag a7⟩
   ·refine⟨_,rfl,?_⟩;unfold wpListIn;rw[if_pos (by simp[Region.wanted])];refine yM rfl (al false) ?_;show Code.wpIn _ _ _ _ _ _ _
    refine wpIn_cond_split (am false true) (fun _=>?_) (fun h=>by cases h);refine wpIn_ret ?_;exact⟨(D false true).1,_,results_none rfl _ _ _,⟨_,rfl⟩,.inr bq⟩
 ·have bk:=of_decide_eq_false hc;obtain rfl:q=0:=by omega
  refine wpIn_exit ?_;exact⟨G.1,_,results_none rfl _ _ _,⟨_,rfl⟩,.inl ⟨rfl,A,hJ _ _ _ _ hj ao⟩⟩
def pI(f:Nat)(xs:List AV):Option (List (List AV)×Bool):=match Nat.beq f 167,xs with
 |true,[.tp [.arr u]]=>match(u.all fun c=>Nat.beq c.length 3)&&Nat.ble u.length 140737488351232 with
  |true=>some (gz u u.length,true)
  |false=>none
 |_,_=>none
def He{γ:Glob}(v:Nat)(xs:List AV)(yss:List (List AV))(wh:Bool)(h:pI v xs=some (yss,wh))(u:Array Value)(hl:u.size=xs.length):oB γ Tryz.prog v u (ow xs u) yss wh:=by
 unfold pI at h;split at h
 ·rename_i G z;have z:v=167:=by simpa using z
  subst z;split at h
  ·rename_i y;rw[Bool.and_eq_true,Nat.ble_eq]at y;cases h;have hs:u.size=1:=hl
   have e:u=#[u[0]]:=by
    apply Array.ext
    ·simp[hs]
    ·intro i h1 h2;have:i=0:=by simp at h2;omega
     subst this;rfl
   rw[e];exact BA y.2 fun c D=>by simpa using List.all_eq_true.1 y.1 c D
  ·cases h
 ·cases h
end Go.Proofs.YtgbfedgghjcdcaaGreatDoor
