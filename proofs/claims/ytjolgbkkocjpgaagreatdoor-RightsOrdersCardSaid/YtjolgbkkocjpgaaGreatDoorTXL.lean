/- Law 27: what lies outside: the library's contracts;the configuration without iterators and references with hide. Condition: the library's table of white space stands. -/
import Derived.Test.YtjolgbkkocjpgaaGreatDoorXDL
import Derived.Test.YtjolgbkkocjpgaaGreatDoorTCX
import Derived.Test.YtjolgbkkocjpgaaGreatDoorTV
import Derived.Test.YtjolgbkkocjpgaaGreatDoorTX
import Derived.Test.YtjolgbkkocjpgaaGreatDoorWQ
import Derived.Test.YtjolgbkkocjpgaaGreatDoorShelf
import Derived.Test.YtjolgbkkocjpgaaGreatDoorTM
import Derived.Test.YtjolgbkkocjpgaaGreatDoorTNC
import Derived.Test.YtjolgbkkocjpgaaGreatDoorTS
import Derived.Test.YtjolgbkkocjpgaaGreatDoorTLX
import Derived.Test.YtjolgbkkocjpgaaGreatDoorTC
set_option linter.defProp false
set_option linter.unusedSimpArgs false
set_option linter.unusedVariables false
set_option linter.unusedSectionVars false
namespace Go.Proofs.YtjolgbkkocjpgaaGreatDoor
open Go.RowKit
set_option maxRecDepth 100000
def m_(w :World):Prop :=Lib.TabIs Tryz.prog w "strings.asciiSpace" .u8 Lib.asciiSpaceTab
def zr :Tryz.prog.globalNamed "strings.asciiSpace" =some 0 :=by kernel_rfl
def MU{w w':World}(h:m_ w)(he:w'.heap[0]?=w.heap[0]?):m_ w':=by
 unfold m_ Lib.TabIs World.var? at h⊢;rw[zr]at h⊢;simp only[Option.bind_some]at h⊢;rw[he];exact h
def Es{w:World}(h:m_ w):0 <w.heap.size:=by
 unfold m_ Lib.TabIs World.var? at h;rw[zr]at h;simp only[Option.bind_some]at h;rcases Nat.lt_or_ge 0 w.heap.size with h1|h1
 ·exact h1
 ·rw[Array.getElem?_eq_none h1]at h;cases h
def dq:Glob where
 G:=m_
 n:=0+1
 stays:=fun w w' h u=>MU h (u _ (Nat.lt_succ_self _))
def MV{M:Nat->Prop}{w:World}{s:ByteArray}{c:Int}{us:Array Value}(hs:us.size=2)(hv:∀(j:Nat) (x:AV) (u:Value),[AV.str s,AV.int .u8 c][j]?=some x->us[j]?=some u->VR M w x u):us=#[.string s,.int .u8 c]:=by
 have v:=Dy (hv 0 _ us[0] rfl (by rw[Array.getElem?_eq_getElem (by omega)]));have h1:=nY (hv 1 _ us[1] rfl (by rw[Array.getElem?_eq_getElem (by omega)]));apply Array.ext
 ·simp[hs]
 ·intro i h2 h3;have:i=0\/i=1:=by simp at h3;omega
  rcases this with rfl|rfl
  ·simpa using v
  ·simpa using h1
def MW{M:Nat->Prop}{w:World}{x y:Int}{us:Array Value}(hs:us.size=2)(hv:∀(j:Nat) (z:AV) (u:Value),[AV.int .u64 x,AV.int .u64 y][j]?=some z->us[j]?=some u->VR M w z u):us=#[.int .u64 x,.int .u64 y]:=by
 have v:=nY (hv 0 _ us[0] rfl (by rw[Array.getElem?_eq_getElem (by omega)]));have h1:=nY (hv 1 _ us[1] rfl (by rw[Array.getElem?_eq_getElem (by omega)]));apply Array.ext
 ·simp[hs]
 ·intro i h2 h3;have:i=0\/i=1:=by simp at h3;omega
  rcases this with rfl|rfl
  ·simpa using v
  ·simpa using h1
def MX{M:Nat->Prop}{w:World}{us:Array Value}{s:ByteArray}(hs:us.size=1)(hv:∀(j:Nat) (x:AV) (u:Value),[AV.str s][j]?=some x->us[j]?=some u->VR M w x u):us=#[.string s]:=by
 have v:=Dy (hv 0 _ us[0] rfl (by rw[Array.getElem?_eq_getElem (by omega)]));apply Array.ext
 ·simp[hs]
 ·intro i h2 h3;have:i=0:=by simp at h3;omega
  subst this;simpa using v
def MY:Lib.fields sy.data.toList=cT:=by kernel_rfl
def MZ:(sy.data.toList.all fun b=>decide (b.toNat <128))=true:=by kernel_rfl
def Et(f:Nat)(xs:List AV)(r:SV)(fr':Fr)(h:vy f xs=some (r,fr')):gh Tryz.prog f/\∀(κ:Ctx) (w:World) (us:Array Value),av dq κ [] κ.L w->κ.W=w->us.size=xs.length->(∀(j:Nat) (x:AV) (u:Value),xs[j]?=some x->us[j]?=some u->VR (MA κ.M [] κ.L) w x u)->
  Calls Tryz.prog f us w fun e w'=>∃v L',e=.returned v/\av dq κ fr' L' w'/\SR (MA κ.M fr' L') L' w' r v:=by
 unfold vy at h;split at h
 ·cases h
 rename_i ag;replace h:l7 f xs=some (r,fr'):=h;unfold l7 at h;split at h
 ·rename_i s;split at h
  ·rename_i D;rw[Bool.and_eq_true]at D;obtain⟨D,hs⟩:=D;have D:f=212:=by simpa using D
   have hs:s=sy:=of_decide_eq_true hs;subst D hs;cases h;refine⟨⟨_,Tryz.func212,by kernel_rfl,by kernel_rfl⟩,fun κ w us J hκ hs hv=>?_⟩;obtain rfl:=MX hs hv;refine(Tryz.strings_Fields_laid sy w (of_decide_eq_true (by kernel_rfl)) (fun j b hb=>of_decide_eq_true (List.all_eq_true.1 MZ b (List.mem_of_getElem? hb))) J.glob).mono fun e w' ⟨he,I⟩=>?_;rw[MY]at he I;have hb:Below w.heap.size w w':=by rw[I];exact(Below.refl _ _).alloc (Nat.le_refl _) _
   refine⟨_,κ.L,he,J.later hb,.t _ _ ?_⟩;obtain⟨W,hW⟩:∃W,cT=W:=⟨_,rfl⟩;have ap:W.length<=1000:=by rw[<- hW];decide
   have ab:W≠[]:=by rw[<- hW];decide
   rw[hW]at I⊢;have ad:(W.map fun w=>[AV.str ⟨w.toArray⟩]).length=W.length:=List.length_map _;rw[<- ad];have ak:=RC.lit w (W.map fun l=>Value.string ⟨l.toArray⟩).toArray 9;have ao:w'=w.alloc (.cells (W.map fun l=>Value.string ⟨l.toArray⟩).toArray 9):=I;rw[<- ao]at ak;obtain⟨b,o,an,al,V⟩:=ak (by simpa using List.length_pos_iff.2 ab);cases an;refine VR.arr _ _ _ 1 _ (fun k _=>(W.map fun l=>Value.string ⟨l.toArray⟩).getD k undef) (by intro h0;exact ab (List.map_eq_nil_iff.1 h0)) (by rw[ad];omega) (Nat.le_refl _) al J.Ad (fun k cs G=>?_) (fun k j G hj=>?_) (fun k j cs x G hj=>?_)
   ·rw[List.getElem?_map]at G
    cases hx:W[k]? with
    |none=>rw[hx]at G;cases G
    |some y=>rw[hx]at G;cases G;rfl
   ·rw[List.length_map]at G;have Z:j=0:=by omega
    subst Z;have:=V k ((W.map fun l=>Value.string ⟨l.toArray⟩).getD k undef) (by rw[List.getD_eq_getElem?_getD];simp[G]);simpa using this
   ·rw[List.getElem?_map]at G
    cases hx:W[k]? with
    |none=>rw[hx]at G;cases G
    |some y=>
     rw[hx]at G;cases G;have Z:j=0:=by have:=aF hj;simp at this;omega
     subst Z;cases hj;rw[List.getD_eq_getElem?_getD,List.getElem?_map,hx];exact .str _
  ·cases h
 ·rename_i s c;split at h
  ·rename_i D;rw[Bool.and_eq_true]at D;obtain⟨D,U⟩:=D;have D:f=215:=by simpa using D
   have U:=of_decide_eq_true U;subst D;cases h;refine⟨⟨_,Tryz.func215,by kernel_rfl,by kernel_rfl⟩,fun κ w us J hκ hs hv=>?_⟩;obtain rfl:=MV hs hv;exact(Tryz.strings_IndexByte s c w).mono fun e w' ⟨he,I⟩=>⟨_,κ.L,he,by rw[I];exact J,.t _ _ (.int _ _)⟩
  ·cases h
 ·rename_i x y;split at h
  ·rename_i D;rw[Bool.and_eq_true]at D;obtain⟨D,U⟩:=D;have D:f=170:=by simpa using D
   obtain⟨au,aw,ay,aA⟩:=of_decide_eq_true U;subst D;cases h;refine⟨⟨_,Tryz.func170,by kernel_rfl,by kernel_rfl⟩,fun κ w us J hκ hs hv=>?_⟩;obtain rfl:=MW hs hv;have ex:((x.toNat:Nat):Int)=x:=by omega
   have ey:((y.toNat:Nat):Int)=y:=by omega
   have U:=Tryz.bits_Mul x.toNat y.toNat (by omega) (by omega) w;rw[ex,ey]at U;refine U.mono fun e w' ⟨he,I⟩=>⟨_,κ.L,he,by rw[I];exact J,.aL _ _ rfl fun j s z hs hz=>?_⟩
   match j with
   |0=>simp at hs hz;subst hs hz;exact .t _ _ (.int _ _)
   |1=>simp at hs hz;subst hs hz;exact .t _ _ (.int _ _)
   |j+2=>simp at hs
  ·cases h
 ·split at h
  ·rename_i D;rw[Bool.and_eq_true]at D;rw[D.1]at ag;cases ag
  ·cases h
 ·rename_i es;split at h
  ·rename_i D;have D:f=40:=by simpa using D
   subst D;exact K9 dq h
  ·split at h
   ·rename_i D;have D:f=77:=by simpa using D
    subst D;exact DB dq h
   ·split at h
    ·rename_i D;have D:f=18:=by simpa using D
     subst D;exact K2 dq h
    ·cases h
 ·rename_i es k q a;split at h
  ·rename_i D;have D:f=81:=by simpa using D
   subst D;exact K_ dq h
  ·cases h
 ·cases h
def M0:((List.range 220).all fun f=>!u5 f ||oI ai f)=true:=by kernel_rfl
def Eu(f:Nat)(hf:u5 f=true):oI ai f=true:=by
 have u:f <220:=by
  have h:=hf;unfold u5 at h;split at h
  ·cases h
  ·simpa using h
 have:=List.all_eq_true.1 M0 f (List.mem_range.2 u);rw[hf]at this;simpa using this
theorem na{g:Cfg}{x:Nat->List AV->Option (SV×Fr)}{f n:Nat}:∀c:Code,db (g.low x) f n c=db g f n c
 | .seq a b=>by unfold db;rw[na a,na b]
 | .cond _ a b=>by unfold db;rw[na a,na b]
 | .block _ b=>by unfold db;rw[na b]
 | .loop b=>by unfold db;rw[na b]
 | .rangeFunc _ ps a b=>by unfold db;rw[na a,na b]
 | .region _ _ _=>rfl
 | .skip=>rfl
 | .scope _=>rfl
 | .goto _=>rfl
 | .label ..=>rfl
 | .exit _=>rfl
 | .ret=>rfl
 | .refuse _=>rfl
def Ew:fy Tryz.prog dq Dv:=fun f u fr r fr' h=>by
 have h:(none:Option (SV×Fr))=some (r,fr'):=h;cases h
def fa:Wf dL dq where
 exh:=Ew
 mixed:=by kernel_rfl
 rZ:=fun f y=>by
  have h:=Eu f y;unfold oI at h⊢;have h2:dL.P=ai.P:=rfl;rw[h2];split at h
  ·cases h
  ·rename_i fn u
   try simp only[u]
   split at h
   ·cases h
   ·rename_i c v
    try simp only[v]
    unfold dL;rw[na];exact h
 ext:=Et
set_option maxHeartbeats 16000000
def l9(n:Nat):List AV:=List.replicate n (.bool true)
def M1{n j:Nat}(h:j <n):((l9 n).map SV.t)[j]?=some (.t (.bool true)):=by unfold l9;rw[List.getElem?_map,List.getElem?_replicate,if_pos h];rfl
def vS{O:List Int}{t:Int}{b:Bool}(h:decide (t∈O)=b):(O.any fun u=>decide (u=t))=b:=by
 rw[<- h]
 cases v:O.any fun u=>decide (u=t)with
 |true=>
  obtain⟨u,y,z⟩:=List.any_eq_true.1 v;obtain rfl:u=t:=of_decide_eq_true z;exact(decide_eq_true y).symm
 |false=>
  refine(decide_eq_false fun y=>?_).symm;rw[List.any_eq_false]at v;exact v t y (by simp)
def M2(h:Hde)(t:Int)(O:List Int):Cl dL 151 [.t (.agg [.int .i64 h.table,.int .i64 h.eE,.int .i64 h.to]),.t (.tp [.int .i64 t]),.t (.tp [.mp (cW O) (l9 O.length)])] [] (.t (.bool (decide (h.table=t)&&decide (h.to∈O)))) []:=by
 refine Cl.ao rfl Tryz.func151 rfl rfl rfl ?_;by_cases u:h.table=t
 ·
  rw[decide_eq_true u,Bool.true_and]
  cases hm:decide (h.to∈O)with
  |true=>
   obtain⟨j,hf,v⟩:=D2 (vS hm);have hz:=M1 v
   repeat'(first
|(with_reducible apply ac.seq)
|((with_reducible apply ac.text);(try case hm=>exact rfl))
|(with_reducible apply ac.ret)
|((with_reducible apply aa.aE);(case hp=>exact aj))
|(with_reducible apply aa.ap)
|((with_reducible apply aa.aD);(case hW=>exact rfl);(case hx=>first
|((with_reducible apply ae.nG);(case hm|hk|ho=>exact rfl);(case hf=>exact hf);(case hz=>exact hz))
|exact ah))
|((with_reducible apply aa.u0);(case hx=>exact ah))
|fail)
   exact⟨.inr rfl,rfl⟩
  |false=>
   have hf:=vH (vS hm)
   repeat'(first
|(with_reducible apply ac.seq)
|((with_reducible apply ac.text);(try case hm=>exact rfl))
|(with_reducible apply ac.ret)
|((with_reducible apply aa.aE);(case hp=>exact aj))
|(with_reducible apply aa.ap)
|((with_reducible apply aa.aD);(case hW=>exact rfl);(case hx=>first
|((with_reducible apply ae.lk);(case hm|hk|ho=>exact rfl);(case hf=>exact hf);(case hz=>exact rfl))
|exact ah))
|((with_reducible apply aa.u0);(case hx=>exact ah))
|fail)
   exact⟨.inr rfl,rfl⟩
 ·
  rw[decide_eq_false u,Bool.false_and];exact af
def M3{C:List Hde}{p:Hde->Bool}{c1 c2:AV}(hl:C.length<=140737488351232)(hp:∀x∈C,Cl dL 151 [.t (.agg [.int .i64 x.table,.int .i64 x.eE,.int .i64 x.to]),.t c1,.t c2] [] (.t (.bool (p x))) []):Cl dL 178 [.t (.arr (cG C)),.t (.fn (.func 151) 0 [c1,c2])] [] (.t (.int .i64 (a8 p C 0))) []:=by
 have z:=qK C;refine Cl.ao rfl Tryz.func178 rfl rfl rfl ?_;refine ar ?_;refine aC.ind (fun q:Nat=>[(8,.t (.int .i64 (q:Int)))]) (fun q=>q<=C.length/\a8 p C 0=a8 p (C.drop q) q) (fun q=>C.length - q) 0 rfl (by simp) (fun q D=>?_);obtain⟨h1,h2⟩:=D;rw[h2];rcases Nat.lt_or_ge q C.length with h3|h3
 ·
  obtain⟨e,u⟩:=am h3;have G:=qN u;have v:=hp e (List.mem_of_getElem? u);rw[drop_at u,gV];obtain⟨b,y⟩:∃b,p e=b:=⟨_,rfl⟩;rw[y]at v⊢
  cases b with
  |true=>
   exact af
  |false=>
   exact af
 ·
  rw[List.drop_of_length_le h3];exact af
def M4{C:List Hde}{p:Hde->Bool}{c1 c2:AV}(hl:C.length<=140737488351232)(hp:∀x∈C,Cl dL 151 [.t (.agg [.int .i64 x.table,.int .i64 x.eE,.int .i64 x.to]),.t c1,.t c2] [] (.t (.bool (p x))) []):Cl dL 150 [.t (.arr (cG C)),.t (.fn (.func 151) 0 [c1,c2])] [] (.t (.bool (C.any p))) []:=by
 have u:=M3 hl hp;rw[<- gy p C 0 (by omega)];refine Cl.ao rfl Tryz.func150 rfl rfl rfl ?_;obtain⟨n,v⟩:∃n,a8 p C 0=n:=⟨_,rfl⟩;rw[v]at u⊢;exact af
set_option maxHeartbeats 4000000
def Code.p0:Code->Code
 | .seq a _=>a
 | .block _ b=>b
 | .loop b=>b
 |c=>c
def Code.p1:Code->Code
 | .seq _ b=>b
 |c=>c
noncomputable def M5:Code:=match Tryz.f98.body with
 |some c=>Code.p0 (Code.p1 (Code.p1 (Code.p0 (Code.p0 (Code.p1 (Code.p0 (Code.p1 (Code.p1 (Code.p1 (Code.p1 (Code.p1 c)))))))))))
 |none=>.skip
abbrev gY(a0 a2 a3 a4 a5 a7:List (List AV))(tb:List Tb)(hd:List Hde):List AV:=[.arr a0,.arr (br tb),.arr a2,.arr a3,.arr a4,.arr a5,.arr (cG hd),.arr a7]
def iT(js:List AV)(O:List Int):Fr:=[.box false 152 (js.map .t),.map false (cW O) (dP O.length),.box false 186 [.lm 1]]
def ln(n:Nat)(q:Int):List (Nat×SV):=[(1,.lp 0 0),(7,.lp 2 0),(116,.t (.int .i64 (n:Int))),(117,.t (.int .i64 q))]
abbrev iU(M:Nat->Prop)(W:World):Ctx:=⟨M,fun _=>False,fun _=>False,W,fun _=>none⟩
section
variable {M:Nat->Prop} {W:World} {js:List AV} {hd:List Hde} {n:Nat} {O:List Int}
def erase_filter{O:List Int}(hn:O.Nodup){j:Nat}{t:Int}(h:O[j]?=some t):O.eraseIdx j=O.filter fun x=>!decide (x=t):=by
 induction O generalizing j with
 |nil=>simp at h
 |cons x O D=>
  obtain⟨h1,h2⟩:=List.nodup_cons.1 hn
  cases j with
  |zero=>
   simp at h;subst h;rw[List.eraseIdx_cons_zero,List.filter_cons];simp only[decide_true,Bool.not_true,Bool.false_eq_true,if_false];exact(List.filter_eq_self.2 fun y z=>by simp;rintro rfl;exact h1 z).symm
  |succ j=>
   have v:O[j]?=some t:=by simpa using h
   have u:x≠t:=by rintro rfl;exact h1 (List.mem_of_getElem? v)
   rw[List.eraseIdx_cons_succ,List.filter_cons,D h2 v];simp[u]
def Ex{t:Int}{O:List Int}(h:t∈O):∃j,dG (.int .i64) (.int .i64 t) (cW O) 0=some (some j)/\O[j]?=some t:=by
 have y:(O.any fun u=>decide (u=t))=true:=vS (decide_eq_true h);refine⟨O.findIdx fun u=>decide (u=t),by rw[vG,if_pos y,Nat.zero_add],?_⟩;have v:(O.findIdx fun u=>decide (u=t))<O.length:=List.findIdx_lt_length_of_exists ⟨t,h,by simp⟩;rw[List.getElem?_eq_getElem v];have:=List.findIdx_getElem (w:=v);simpa using this
def M6(O:List Int)(j:Nat):(cW O).eraseIdx j=cW (O.eraseIdx j):=by unfold cW;rw[Go.ChangeMaps.map_eraseIdx]
def M7{n j:Nat}(h:j <n):(dP n).eraseIdx j=dP (n - 1):=by unfold dP;rw[List.eraseIdx_replicate,if_pos h]
def M8{j:Nat}{t:Int}(h:O[j]?=some t):(iT js O).set 1 (.map false ((cW O).eraseIdx j) ((dP O.length).eraseIdx j))=iT js (O.eraseIdx j):=by
 have u:=aF h;rw[M6,M7 u];unfold iT;rw[List.length_eraseIdx_of_lt u];rfl
structure Ey (M:Nat->Prop) (W:World) (js:List AV) (hd:List Hde) (n:Nat) (O:List Int) (L:Ls) (bm r clock:Nat) (kp:List (Nat×Value)) (ds:List Deferred) (m:Nat) (a:Act) (w:World):Prop where
 ex:∃(cur seen:List Int) (ents:Array MapEntry) (stamps:Array Nat) (c0:Nat),k6 hd n O seen cur/\av dq (iU M W) (iT js cur) L w/\w.heap[bm]?=some (.map ents clock)/\w.heap[r]?=some (.mapIter (some bm) clock stamps c0)/\clock<=c0/\m=(leftOf ents stamps).size/\∀(j:Nat) (e:MapEntry) (t:Int),ents[j]?=some e->cur[j]?=some t->stamps.contains e.born=true->t∈seen
 size:a.tmps.size=Tryz.f98.ntmps
 lS:a.defers=ds
 kept:Kp kp a
 marks:Marks (iU M W) w ds
end
def Marks.other{κ:Ctx}{w:World}{ds:List Deferred}{x:Nat}{o z:Obj}(h:Marks κ w ds)(hx:w.heap[x]?=some o)(ho:∀l,o≠.deferred l):Marks κ (w.putObj x z) ds:=by
 obtain⟨⟨y,h1,h2,h3⟩,h4⟩:=h;refine⟨⟨y,h1,h2,fun D u=>⟨(h3 D u).1,?_⟩⟩,h4⟩;have v:D≠x:=fun e=>by subst e;rw[(h3 D u).2]at hx;cases hx;exact ho _ rfl
 exact(World.putObj_heap_other v).trans (h3 D u).2
def M9(es:Array MapEntry)(u:Array Nat)(j:Nat):(leftOf (es.eraseIdxIfInBounds j) u).size<=(leftOf es u).size:=by
 have v:∀x:Array MapEntry,(leftOf x u).size=(x.toList.filter fun e=>!u.contains e.born).length:=fun x=>by
  rw[<- Array.length_toList (xs:=leftOf x u)];unfold leftOf;rw[Array.toList_filter]
 rw[v,v,nA];exact((List.eraseIdx_sublist es.toList j).filter _).length_le
def Marks.drewN{κ:Ctx}{w:World}{ds:List Deferred}(h:Marks κ w ds):Marks κ w.drew ds:=h
section
variable {M:Nat->Prop} {W:World} {a0 a2 a3 a4 a5 a7:List (List AV)} {tb:List Tb} {hd:List Hde} {n k len:Nat} {O:List Int} {q:Int}
def M_(fi:hd.length<=140737488351232)(hI:mQ hd n k O){a:Act}{w:World}(hA:At dq (iU M W) Tryz.f98.ntmps (cZ (ln len q)) (iT (gY a0 a2 a3 a4 a5 a7 tb hd) O) a w){dn:Nat}{Q:Exit->Act->World->Prop}
  (hQ:∀O' a' w',mQ hd n (k+1) O'->At dq (iU M W) Tryz.f98.ntmps (cZ (ln len q)) (iT (gY a0 a2 a3 a4 a5 a7 tb hd) O') a' w'->Q .normal a' w'):M5.wpIn (Fw none) dn Tryz.prog Q a w:=by
 obtain⟨ft,hn,L,hC,hV⟩:=hA;have h7:SR _ L w (.lp 2 0) (a.tmps.getD 7 undef):=hV 7;have h1:SR _ L w (.lp 0 0) (a.tmps.getD 1 undef):=hV 1;have b4:=eM (k:=.i64) (n:=(len:Int)) (hV 116);have cc:=eM (k:=.i64) (n:=q) (hV 117);obtain⟨g7,aR,gl⟩:=j_ h7;obtain⟨g1,ch,gj⟩:=j_ h1;obtain⟨D,ap,y,V,hb,_⟩:=hC.blk 1 _ rfl;obtain⟨u7,bd,bf⟩:=rp (P:=Tryz.prog) (t:=186) (x:=.lm 1) hC (by kernel_rfl) h7
 have bd:(Instr.loadAt 186 (a.tmps.getD 7 undef)).run Tryz.prog w=.ok (.map (some D)) w:=by
  cases bf with
  |lm _ r hr=>rw[V]at hr;cases hr;exact bd
 refine wpIn_block ?_;refine wpIn_seq ?_;refine wpIn_region_lit ?_;refine iM rfl (fc rfl bd) ?_;have be:(a.put (some 119) (.map (some D))).eval (.tmp 119)=.map (some D):=fz (by rw[hn];decide);refine iM rfl (fc rfl (w':=w.alloc (.mapIter (some D) y #[] y)) (v:=.pointer (some ⟨w.heap.size,0,none⟩)) (by rw[be];exact run_range_map w 186 _ _ D ap y Tryz.underlying186 hb)) ?_;have a_:(w.alloc (.mapIter (some D) y #[] y)).heap[w.heap.size]?=some (.mapIter (some D) y #[] y):=heap_alloc_new _ _;have G:Below w.heap.size w (w.alloc (.mapIter (some D) y #[] y)):=(Below.refl _ _).alloc (Nat.le_refl _) _;generalize hr:w.heap.size=r at a_ G⊢;have g_:=(Array.getElem?_eq_some_iff.1 hb).1;have eb:D≠r:=by omega
 have fN:W.heap.size<=r:=by have h0:W.heap.size<=w.heap.size:=hC.size;omega
 generalize hD:w.alloc (.mapIter (some D) y #[] y)=X at a_ G⊢;have I:∀(v u:Value),(((a.put (some 119) v).put (some 120) u)).tmps.size=Tryz.f98.ntmps:=fun v u=>by rw[bQ,bQ,hn]
 have ab:∀(v u:Value),Kp [(1,.pointer (some ⟨g1,0,none⟩)),(7,.pointer (some ⟨g7,0,none⟩)),(116,.int .i64 (len:Int)),(117,.int .i64 q),(120,u)] ((a.put (some 119) v).put (some 120) u):=fun v u p hp=>by
  simp only[List.mem_cons,List.not_mem_nil,or_false]at hp;rcases hp with rfl|rfl|rfl|rfl|rfl
  ·rw[ck (by simp),ck (by simp)];exact gj
  ·rw[ck (by simp),ck (by simp)];exact gl
  ·rw[ck (by simp),ck (by simp)];exact b4
  ·rw[ck (by simp),ck (by simp)];exact cc
  ·exact fz (by rw[bQ,hn];decide)
 have bg:Ey M W (gY a0 a2 a3 a4 a5 a7 tb hd) hd n O L D r y [(1,.pointer (some ⟨g1,0,none⟩)),(7,.pointer (some ⟨g7,0,none⟩)),(116,.int .i64 (len:Int)),(117,.int .i64 q),(120,.pointer (some ⟨r,0,none⟩))] a.defers (leftOf ap #[]).size ((a.put (some 119) (.map (some D))).put (some 120) (.pointer (some ⟨r,0,none⟩))) X:=
  ⟨⟨O,[],ap,#[],y,k6.start,hC.later (by rw[hr];exact G),(G.block _ (by omega)).trans hb,a_,Nat.le_refl _,rfl,fun j e t _ _ h=>by simp at h⟩,I _ _,by rw[put_defers,put_defers],ab _ _,ft.below (by rw[hr];exact G)⟩
 show Code.wpIn _ _ _ _ _ _ _
 refine wpIn_block ?_;refine uE (Ey M W (gY a0 a2 a3 a4 a5 a7 tb hd) hd n O L D r y [(1,.pointer (some ⟨g1,0,none⟩)),(7,.pointer (some ⟨g7,0,none⟩)),(116,.int .i64 (len:Int)),(117,.int .i64 q),(120,.pointer (some ⟨r,0,none⟩))] a.defers) _ bg ?_;clear bg ab I bf bd be a_ G hV;intro m b Y ⟨⟨z,aE,J,st,c0,hP,aI,bw,d_,e2,fo,ef⟩,I,cB,ab,dj⟩;obtain⟨s1,s2,s3,s4,ej⟩:=aI.uK (i:=1) rfl V bw;have bZ:∀(d:Nat) (v:Value),d <Tryz.f98.ntmps->(b.put (some d) v).eval (.tmp d)=v:=fun d v hd=>fz (by rw[I];exact hd);have ao:b.eval (.tmp 120)=.pointer (some ⟨r,0,none⟩):=ab (120,.pointer (some ⟨r,0,none⟩)) (by simp)
 have back:∀{O':List Int} {a':Act} {w':World},av dq (iU M W) (iT (gY a0 a2 a3 a4 a5 a7 tb hd) O') L w'->a'.tmps.size=Tryz.f98.ntmps->Kp [(1,.pointer (some ⟨g1,0,none⟩)),(7,.pointer (some ⟨g7,0,none⟩)),(116,.int .i64 (len:Int)),(117,.int .i64 q),(120,.pointer (some ⟨r,0,none⟩))] a'->Marks (iU M W) w' a'.defers->At dq (iU M W) Tryz.f98.ntmps (cZ (ln len q)) (iT (gY a0 a2 a3 a4 a5 a7 tb hd) O') a' w':=fun{O' a' w'} hc h1 h2 h3=>by
  refine⟨h3,h1,L,hc,nD (tm:=fun t=>a'.tmps.getD t undef) _ fun p hp=>?_⟩;unfold ln at hp;simp only[List.mem_cons,List.not_mem_nil,or_false]at hp;rcases hp with rfl|rfl|rfl|rfl
  ·show SR _ _ _ _ (a'.tmps.getD 1 undef);rw[h2 (1,.pointer (some ⟨g1,0,none⟩)) (by simp)];exact .lp _ _ _ ch
  ·show SR _ _ _ _ (a'.tmps.getD 7 undef);rw[h2 (7,.pointer (some ⟨g7,0,none⟩)) (by simp)];exact .lp _ _ _ aR
  ·show SR _ _ _ _ (a'.tmps.getD 116 undef);rw[h2 (116,.int .i64 (len:Int)) (by simp)];exact .t _ _ (.int _ _)
  ·show SR _ _ _ _ (a'.tmps.getD 117 undef);rw[h2 (117,.int .i64 q) (by simp)];exact .t _ _ (.int _ _)
 refine wpIn_seq ?_;refine wpIn_region_lit ?_;rcases run_next_at (P:=Tryz.prog) Y _ r D y c0 st J y d_ bw ej.lt e2 with⟨h0,ag⟩|⟨e,he,w1,aD,ag⟩
 ·
  refine iM rfl (fc rfl (by rw[ao];exact ag)) ?_;refine iM rfl (fc rfl (v:=.bool false) (w':=Y) (by rw[bZ 121 _ (by decide)];rfl)) ?_;show Code.wpIn _ _ _ _ _ _ _
  refine wpIn_seq ?_;refine wpIn_cond_split (t:=false) (fz (by rw[bQ,I];decide)) (fun h=>by cases h) (fun _=>?_);refine wpIn_exit ?_;refine hQ z _ _ (hI.pass hP fun t ht=>?_) (back aI (by rw[bQ,bQ,I]) ((ab.put (by simp)).put (by simp)) (by rw[put_defers,put_defers,cB];exact dj));obtain⟨j,hj⟩:=List.mem_iff_getElem?.1 ht;have a1:j <J.size:=by rw[s1];simpa[cW]using aF hj
  have e6:J[j]?=some J[j]:=Array.getElem?_eq_getElem a1;exact ef j _ t e6 hj (I7 h0 (by simp))
 ·
  obtain⟨bC,hB⟩:=mem_left he;obtain⟨j,hj⟩:=List.mem_iff_getElem?.1 bC;have hj:J[j]?=some e:=by simpa using hj
  have a1:j <z.length:=by
   have:=(Array.getElem?_eq_some_iff.1 hj).1;rw[s1]at this;simpa[cW]using this
  obtain⟨t,ht⟩:=am a1;have cF:e.key=.int .i64 t:=nY (s3 j _ e (by unfold cW;rw[List.getElem?_map,ht];rfl) hj);have fg:e.val=.bool true:=jK (s4 j _ e (sM a1) hj);have bc:w1.heap[r]?=some (.mapIter (some D) y st c0):=by rcases aD with rfl|rfl <;>exact d_
  have cp:w1.heap[D]?=some (.map J y):=by rcases aD with rfl|rfl <;>exact bw
  have cd:av dq (iU M W) (iT (gY a0 a2 a3 a4 a5 a7 tb hd) z) L w1:=by rcases aD with rfl|rfl;exact aI;exact aI.later (Below.drew (Below.refl _ _))
  have dd:Marks (iU M W) w1 a.defers:=by rcases aD with rfl|rfl <;>exact dj
  obtain⟨Z,hZ⟩:∃Z,Go.ChangeMaps.setBlock w1 r (.mapIter (some D) y (st.push e.born) y)=Z:=⟨_,rfl⟩;have au:w1.putObj r (.mapIter (some D) y (st.push e.born) y)=Z:=hZ;have ak:av dq (iU M W) (iT (gY a0 a2 a3 a4 a5 a7 tb hd) z) L Z:=by rw[<- au];exact cd.lq (Lq.put fN bc rfl)
  have fm:Marks (iU M W) Z a.defers:=by rw[<- au];exact dd.other bc (fun l h=>by cases h)
  have bI:Z.heap[r]?=some (.mapIter (some D) y (st.push e.born) y):=by rw[<- au];exact World.putObj_heap_same (Array.getElem?_eq_some_iff.1 bc).1
  have an:Z.heap[D]?=some (.map J y):=by rw[<- au];exact(World.putObj_heap_other eb).trans cp
  rw[hZ]at ag;clear hZ au cd dd bc cp aD;refine iM rfl (fc rfl (by rw[ao];exact ag)) ?_;refine iM rfl (fc rfl (v:=.bool true) (w':=Z) (by rw[bZ 121 _ (by decide)];rfl)) ?_;show Code.wpIn _ _ _ _ _ _ _
  refine wpIn_seq ?_;refine wpIn_cond_split (t:=true) (fz (by rw[bQ,I];decide)) (fun _=>?_) (fun h=>by cases h);refine wpIn_skip ?_;show Code.wpIn _ _ _ _ _ _ _
  refine wpIn_block ?_;refine wpIn_seq ?_;refine wpIn_region_lit ?_;have dr:(J.toList.map (·.born)).Nodup:=ej.up.imp fun h=>Nat.ne_of_lt h;refine iM rfl (fc rfl (v:=.tuple #[e.key,e.val]) (w':=Z) ?_) ?_
  ·have bj:((b.put (some 121) (.tuple #[.bool true,e.key,e.val])).put (some 122) (.bool true)).eval (.tmp 120)=.pointer (some ⟨r,0,none⟩):=(ck (by simp)).trans ((ck (by simp)).trans ao);rw[bj];exact run_entry_at Z r D y st J y e bI an bC dr
  have ey:av dq ⟨fun _=>True,fun _=>False,fun _=>False,Z,fun _=>none⟩ [] (fun _=>none) Z:=ak.pure _ fun _ _=>trivial;have hT:∀b,MA (fun _=>True) [] (fun _=>none) b:=fun b=>⟨trivial,fun⟨i,_,_,h,_⟩=>by cases h⟩;obtain⟨t1,t2,t3,t4,_⟩:=ak.uK (i:=1) rfl V an
  have vm:VR (MA (fun _=>True) [] fun _=>none) Z (.mp (cW z) (l9 z.length)) (.map (some D)):=.mp D _ _ J y (Array.getElem?_eq_some_iff.1 an).1 (hT _) an t1 (by rw[t2];simp[dP,l9]) (fun j x u U hu=>VR.on (Nat.le_refl _) (fun b _ _=>⟨hT b,rfl⟩) (t3 j x u U hu)) fun j x u U hu=>by
   have ad:=aF U;unfold l9 at U ad;rw[List.length_replicate]at ad;rw[List.getElem?_replicate,if_pos ad]at U;cases U;have:=jK (t4 j _ u (sM ad) hu);rw[this];exact .bool true
  have v7:SR (MA (fun _=>True) [] fun _=>none) (fun _=>none) Z (.t (.tp [.mp (cW z) (l9 z.length)])) (.pointer (some ⟨g7,0,none⟩)):=by
   obtain⟨u,hu,fO⟩:=wE ak (i:=2) (j:=0) (x:=.lm 1) rfl aR rfl
   have bO:u=.map (some D):=by
    cases fO with|lm _ r' h=>rw[V]at h;cases h;rfl
   subst bO;refine .t _ _ (.tp g7 0 _ (fun _=>.map (some D)) (by simp) (ak.new 2 _ g7 _ aR (.one rfl) rfl).1 (hT _) (fun j hj=>?_) fun j x U=>?_)
   ·have:j=0:=by simp at hj;omega
    subst this;exact hu
   ·match j,U with
    |0,U=>cases U;exact vm
  have v1:SR (MA (fun _=>True) [] fun _=>none) (fun _=>none) Z (.t (.tp (gY a0 a2 a3 a4 a5 a7 tb hd))) (.pointer (some ⟨g1,0,none⟩)):=
   .t _ _ ((mD ak (A:=MA (fun _=>True) [] fun _=>none) (fun b _=>hT b) deep).1 (.lp 0 0) _ _ rfl (fun _ _ _ b _ _=>hT b) (.lp _ _ _ ch))
  refine Cr (i:=1) (kp:=[(1,.pointer (some ⟨g1,0,none⟩)),(7,.pointer (some ⟨g7,0,none⟩)),(116,.int .i64 (len:Int)),(117,.int .i64 q),(120,.pointer (some ⟨r,0,none⟩))]) (ds:=a.defers) (n:=Tryz.f98.ntmps) (K:=fun e r=>e 1=.t (.tp (gY a0 a2 a3 a4 a5 a7 tb hd))/\e 7=.t (.tp [.mp (cW z) (l9 z.length)])/\e 10=.lp 0 0/\r=[.box false 3 [.t (.int .i64 t)]]) (env:=cZ [(1,.t (.tp (gY a0 a2 a3 a4 a5 a7 tb hd))),(7,.t (.tp [.mp (cW z) (l9 z.length)])),(123,.t (.aL [.int .i64 t,.bool true]))]) (fr:=[]) fa ?_ (by simp) (by kernel_rfl) (by simp) (((ab.put (by simp)).put (by simp)).put (by simp)) (by rw[put_defers,put_defers,put_defers,cB]) (by rw[bQ,bQ,bQ,I]) ey (nD (tm:=fun t=>(((b.put (some 121) (.tuple #[.bool true,e.key,e.val])).put (some 122) (.bool true)).put (some 123) (.tuple #[e.key,e.val])).tmps.getD t undef) _ fun p hp=>?_) fun gN fr1 L1 b1 Z1 eB fl e4 fB ev bl=>?_
  ·
   refine ar ?_;exact⟨rfl,rfl,rfl,rfl⟩
  ·have k3:=((ab.put (d:=some 121) (v:=.tuple #[.bool true,e.key,e.val]) (by simp)).put (d:=some 122) (v:=.bool true) (by simp)).put (d:=some 123) (v:=.tuple #[e.key,e.val]) (by simp);simp only[List.mem_cons,List.not_mem_nil,or_false]at hp;rcases hp with rfl|rfl|rfl
   ·show SR _ _ _ _ (Array.getD _ 1 undef);rw[k3 (1,.pointer (some ⟨g1,0,none⟩)) (by simp)];exact v1
   ·show SR _ _ _ _ (Array.getD _ 7 undef);rw[k3 (7,.pointer (some ⟨g7,0,none⟩)) (by simp)];exact v7
   ·show SR _ _ _ _ (Array.getD _ 123 undef)
    rw[fz (by rw[bQ,bQ,I];decide),cF,fg];refine .t _ _ (.aL _ _ rfl fun j x u U hu=>?_)
    match j,U,hu with
    |0,U,hu=>cases U;simp at hu;rw[<- hu];exact .int _ _
    |1,U,hu=>cases U;simp at hu;rw[<- hu];exact .bool _
  obtain⟨y1,y7,gm,rfl⟩:=eB;show Code.wpIn _ _ _ _ _ _ _
  refine wpIn_seq ?_;refine wpIn_region_lit ?_;have kc:=M4 (C:=hd) (p:=fun h=>decide (h.table=t)&&decide (h.to∈z)) fi (fun h _=>M2 h t z);have bN:jV hd z t=!(hd.any fun h=>decide (h.table=t)&&decide (h.to∈z)):=rfl;obtain⟨bb,eP⟩:∃bb,(hd.any fun h=>decide (h.table=t)&&decide (h.to∈z))=bb:=⟨_,rfl⟩;rw[eP]at kc bN;refine Cr (i:=0) (kp:=[(1,.pointer (some ⟨g1,0,none⟩)),(7,.pointer (some ⟨g7,0,none⟩)),(116,.int .i64 (len:Int)),(117,.int .i64 q),(120,.pointer (some ⟨r,0,none⟩))]) (ds:=a.defers) (n:=Tryz.f98.ntmps) (K:=fun e r=>e 130=.t (.bool (!bb))/\e 10=.lp 0 0/\r=[.box false 3 [.t (.int .i64 t)]]) (env:=cZ [(1,.t (.tp (gY a0 a2 a3 a4 a5 a7 tb hd))),(7,.t (.tp [.mp (cW z) (l9 z.length)])),(10,.lp 0 0)]) fa ?_ (by simp) (by kernel_rfl) (by simp) fl e4 fB ev (nD (tm:=fun t=>b1.tmps.getD t undef) _ fun p hp=>?_) fun gP gX L2 b2 Z2 eE bF cA a6 al cl=>?_
  ·
   refine ar ?_;exact⟨rfl,rfl,rfl⟩
  ·simp only[List.mem_cons,List.not_mem_nil,or_false]at hp;rcases hp with rfl|rfl|rfl
   ·rw[<- y1];exact bl 1
   ·rw[<- y7];exact bl 7
   ·rw[<- gm];exact bl 10
  obtain⟨ek,gM,rfl⟩:=eE;have aS:Below Z.heap.size Z Z2:=⟨al.os,al.tape,al.output,al.size,fun k hk=>al.kept k hk fun h=>h⟩;have aH:av dq (iU M W) (iT (gY a0 a2 a3 a4 a5 a7 tb hd) z) L Z2:=ak.later aS;have aw:Z2.heap[D]?=some (.map J y):=(aS.block _ (Array.getElem?_eq_some_iff.1 an).1).trans an;have dS:Z2.heap[r]?=some (.mapIter (some D) y (st.push e.born) y):=(aS.block _ (Array.getElem?_eq_some_iff.1 bI).1).trans bI;have df:Marks (iU M W) Z2 a.defers:=fm.below aS;have ay:(leftOf J (st.push e.born)).size <m:=by rw[fo];exact left_shrinks J st e he
  have aA:∀(j':Nat) (e':MapEntry) (t':Int),J[j']?=some e'->z[j']?=some t'->(st.push e.born).contains e'.born=true->t'∈t::aE:=by
   intro j' e' t' q1 q2 q3;rw[contains_push,Bool.or_eq_true]at q3;rcases q3 with q3|q3
   ·exact List.mem_cons_of_mem _ (ef j' e' t' q1 q2 q3)
   ·have e5:e'=e:=born_inj dr (by rw[Array.mem_toList_iff];exact Array.mem_of_getElem? q1) bC (by simpa using q3);have c4:e'.key=.int .i64 t':=nY (s3 j' _ e' (by unfold cW;rw[List.getElem?_map,q2];rfl) q1);rw[e5,cF]at c4;cases c4;exact List.mem_cons_self
  have b3:b2.eval (.tmp 130)=.bool (!bb):=jK (by rw[<- ek];exact cl 130);have e7:b2.tmps.getD 7 undef=.pointer (some ⟨g7,0,none⟩):=bF (7,.pointer (some ⟨g7,0,none⟩)) (by simp);have b0:=cl 10;rw[gM]at b0;show Code.wpIn _ _ _ _ _ _ _
  refine wpIn_cond_split b3 (fun e1=>?_) (fun e0=>?_)
  ·
   obtain⟨u,fP,fQ⟩:=rp (P:=Tryz.prog) (t:=186) (s:=.lp 2 0) (x:=.lm 1) (v:=b2.tmps.getD 7 undef) aH (by kernel_rfl) (by rw[e7];exact .lp _ _ _ aR)
   have bO:u=.map (some D):=by
    cases fQ with|lm _ r' h=>rw[V]at h;cases h;rfl
   subst bO;obtain⟨u,gd,gf⟩:=rp (P:=Tryz.prog) (t:=3) (x:=.t (.int .i64 t)) al (by kernel_rfl) b0;have gg:u=.int .i64 t:=eM gf;subst gg;obtain⟨jf,hf,cN⟩:=Ex (List.mem_of_getElem? ht);have e3:z.Nodup:=hP.sub.nodup hI.yE;refine wpIn_region_lit ?_;refine iM rfl (fc rfl (v:=.map (some D)) (w':=Z2) fP) ?_;refine iM rfl (fc rfl (v:=.int .i64 t) (w':=Z2) ?_) ?_
   ·have:(b2.put (some 131) (.map (some D))).eval (.tmp 10)=b2.tmps.getD 10 undef:=ck (by simp);rw[this];exact gd
   refine iM rfl (xf rfl rfl (w':=da Z2 D (.map (J.eraseIdxIfInBounds jf) y)) ?_) ?_
   ·have q1:((b2.put (some 131) (.map (some D))).put (some 132) (.int .i64 t)).eval (.tmp 131)=.map (some D):=(ck (by simp)).trans (fz (by rw[a6];decide));have q2:((b2.put (some 131) (.map (some D))).put (some 132) (.int .i64 t)).eval (.tmp 132)=.int .i64 t:=fz (by rw[bQ,a6];decide);rw[q1,q2];exact I6 (e:=4) (d:=.int .i64) (ka:=.int .i64 t) (i:=1) (j:=jf) aH (by kernel_rfl) rfl V aw (.int _ _) hf
   have cf:=(aH.erase (i:=1) (j:=jf) rfl V aw).1;rw[M8 cN]at cf;have ct:=(Array.getElem?_eq_some_iff.1 aw).1;show∃n',n' <m/\_
   refine⟨(leftOf (J.eraseIdxIfInBounds jf) (st.push e.born)).size,Nat.lt_of_le_of_lt (M9 _ _ _) ay,⟨z.eraseIdx jf,t::aE,J.eraseIdxIfInBounds jf,st.push e.born,y,?_,cf,rO ct,(World.putObj_heap_other (Ne.symm eb)).trans dS,Nat.le_refl _,rfl,?_⟩,by rw[bQ,bQ,bQ,a6],by rw[put_defers,put_defers,put_defers,cA],((bF.put (by simp)).put (by simp)).put (by simp),df.other aw (fun l h=>by cases h)⟩
   ·rw[erase_filter e3 cN];exact hP.drop (by rw[bN];exact e1)
   ·intro j' e' t' q1 q2 q3;have q1:=rP q1;have q2:=rQ q2;by_cases hq:j' <jf
    ·rw[if_pos hq]at q1 q2;exact aA _ _ _ q1 q2 q3
    ·rw[if_neg hq]at q1 q2;exact aA _ _ _ q1 q2 q3
  ·
   refine wpIn_skip ?_;show∃n',n' <m/\_
   exact⟨_,ay,⟨z,t::aE,J,st.push e.born,y,hP.gJ (by rw[bN];exact e0),aH,aw,dS,Nat.le_refl _,rfl,aA⟩,a6,cA,bF,df⟩
end
set_option maxRecDepth 100000
set_option maxHeartbeats 16000000
def lu:List Hde->List Int->List Int
 |[],O=>O
 |h::l,O=>lu l (if h.table∈O then O else O++[h.table])
def lw(l:List Hde)(q:Nat):List Int:=lu (l.take q) []
theorem Ez:∀(l r:List Hde) (O:List Int),lu (l++r) O=lu r (lu l O)
 |[],r,O=>rfl
 |h::l,r,O=>Ez l r _
def Na{l:List Hde}{q:Nat}{h:Hde}(hh:l[q]?=some h):lw l (q+1)=if h.table∈lw l q then lw l q else lw l q++[h.table]:=by
 unfold lw;rw[List.take_add_one,hh,Ez];rfl
theorem EA:∀(l:List Hde) (O:List Int),O.Nodup->(lu l O).Nodup
 |[],O,h=>h
 |x::l,O,h=>EA l _ (by
  split
  ·exact h
  ·rename_i y;exact List.nodup_append.2 ⟨h,by simp,fun a v b u=>by simp at u;subst u;rintro rfl;exact y v⟩)
theorem EB:∀(l:List Hde) (O:List Int) (t:Int),t∈lu l O↔t∈O\/∃h∈l,h.table=t
 |[],O,t=>by simp[lu]
 |x::l,O,t=>by
  unfold lu;rw[EB l];split
  ·rename_i y;constructor
   ·rintro(h|⟨g,u,v⟩)
    ·exact .inl h
    ·exact .inr ⟨g,by simp[u],v⟩
   ·rintro(h|⟨g,u,v⟩)
    ·exact .inl h
    ·rcases List.mem_cons.1 u with rfl|u
     ·exact .inl (v ▸ y)
     ·exact .inr ⟨g,u,v⟩
  ·constructor
   ·rintro(h|⟨g,u,v⟩)
    ·rcases List.mem_append.1 h with h|h
     ·exact .inl h
     ·simp at h;exact .inr ⟨x,by simp,h.symm⟩
    ·exact .inr ⟨g,by simp[u],v⟩
   ·rintro(h|⟨g,u,v⟩)
    ·exact .inl (by simp[h])
    ·rcases List.mem_cons.1 u with rfl|u
     ·exact .inl (by simp[v])
     ·exact .inr ⟨g,u,v⟩
theorem zt:∀(l:List Hde) (O:List Int),(lu l O).length<=O.length+l.length
 |[],O=>Nat.le_refl _
 |x::l,O=>by
  unfold lu;by_cases u:x.table∈O
  ·rw[if_pos u];have:=zt l O;simp;omega
  ·rw[if_neg u];have:=zt l (O++[x.table]);simp at this⊢;omega
def Nb{m:Md}(hok:m.aI.all (eG m)=true):mQ m.aI m.tables.length 0 (lw m.aI m.aI.length):=by
 have y:∀t,t∈lw m.aI m.aI.length↔∃h∈m.aI,h.table=t:=fun t=>by unfold lw;rw[List.take_length,EB];simp
 refine⟨EA _ _ List.nodup_nil,fun t G=>?_,fun _=>?_,fun h v z x I=>?_⟩
 ·obtain⟨h,v,rfl⟩:=(y t).1 G;have:=List.all_eq_true.1 hok h v;unfold eG qt at this;simp only[Bool.and_eq_true,decide_eq_true_eq]at this;omega
 ·have:=zt (m.aI.take m.aI.length) [];rw[List.take_length]at this;unfold lw;rw[List.take_length];simpa using this
 ·obtain⟨g,D,u,_⟩:=C4 v z I;exact(y x).2 ⟨g,D,u⟩
def EC{σ:Nat->Option Nat}{ks:List AV}{n:Nat}{b v:Lb}{bs u:Fr}(hb:b=v)(h:bs=u):(b::Lb.map false ks (SV.cN σ (dP n))::bs)=v::Lb.map false ks (dP n)::u:=by rw[zn,qd,hb,h]
def sS(i n:Int):Cl dL 142 [.t (.int .i64 i),.t (.int .i64 n)] [] (.t (.bool (decide (0<=i)&&decide (i <n)))) []:=by
 refine Cl.ao rfl Tryz.func142 rfl rfl rfl ?_;exact af
def Nc{a0 a2 a3 a4 a5 a7:List (List AV)}{m:Md}(hT:m.tables.length<=17592186044416)(hH:m.aI.length<=17592186044416):gh Tryz.prog 98/\∀(κ:Ctx) (w:World) (us:Array Value),av dq κ [] κ.L w->κ.W=w->us.size=[AV.agg (gY a0 a2 a3 a4 a5 a7 m.tables m.aI)].length->(∀(j:Nat) (x:AV) (u:Value),[AV.agg (gY a0 a2 a3 a4 a5 a7 m.tables m.aI)][j]?=some x->us[j]?=some u->VR (MA κ.M [] κ.L) w x u)->
  Calls Tryz.prog 98 us w fun e w'=>∃v L',e=.returned v/\av dq κ [] L' w'/\SR (MA κ.M [] L') L' w' (.t (.bool (fS m))) v:=by
 have aw:=qK m.aI;have ay:=e9 m.tables;refine I5 Tryz.func98 rfl (by decide) (show(1:Nat)<=Tryz.f98.ntmps by decide) (by decide) fun M W hM=>?_;show HW dq (iU M W) _ dL.P _ (jO [.t (.agg [.arr a0,.arr (br m.tables),.arr a2,.arr a3,.arr a4,.arr a5,.arr (cG m.aI),.arr a7])]) [] _
 refine HW.ev (f:=98) fa ?_ (by kernel_rfl);refine ar ?_;refine HW.ev (f:=98) fa ?_ (by kernel_rfl);by_cases ad:m.aI.length<=12
 ·
  have e0:fS m=((m.aI.drop 0).all (eG m)&&(m.aI.drop 0).all fun h=>!b8 m.aI m.tables.length h.to h.table):=by unfold fS;simp[ad]
  obtain⟨Y,hY⟩:∃Y,((m.aI.drop 0).all fun h=>!b8 m.aI m.tables.length h.to h.table)=Y:=⟨_,rfl⟩;rw[e0,hY];refine ar ?_;refine HW.ev (f:=98) fa ?_ (by kernel_rfl);refine ar ?_;refine aC.ind (fun q:Nat=>[(20,.t (.int .i64 (q:Int)))]) (fun q=>q<=m.aI.length/\(m.aI.drop 0).all (eG m)=(m.aI.drop q).all (eG m)) (fun q=>m.aI.length - q) 0 rfl ⟨by omega,rfl⟩ (fun q hq=>?_);obtain⟨h1,h2⟩:=hq;rw[h2];rcases Nat.lt_or_ge q m.aI.length with h3|h3
  ·
   obtain⟨h,hh⟩:=am h3;have an:=qN hh;have I:=iO (eG m) hh;by_cases D:0<=h.table/\h.table <m.tables.length/\0<=h.to/\h.to <m.tables.length/\h.table≠h.to
   ·
    obtain⟨t,ht⟩:=am (xs:=m.tables) (k:=h.table.toNat) (by omega);obtain⟨u,hu⟩:=am (xs:=m.tables) (k:=h.to.toNat) (by omega);have aS:=eK ht;have a6:=eK hu;have aL:=aQ t.au;have aR:=aQ u.au;have G:=Ep D ht hu;obtain⟨a1,a2,a3,a4,a5⟩:=D;have k1:=sS h.table (m.tables.length:Int);have k2:=sS h.to (m.tables.length:Int);have k3:=sS h.eE (t.au.length:Int);rw[decide_eq_true a1,decide_eq_true a2,Bool.true_and]at k1;rw[decide_eq_true a3,decide_eq_true a4,Bool.true_and]at k2;by_cases hB:(0<=h.eE/\h.eE <t.au.length)/\u.au.length=1
    ·
     obtain⟨⟨b1,b2⟩,b3⟩:=hB;rw[decide_eq_true b1,decide_eq_true b2,Bool.true_and]at k3;obtain⟨y,hy⟩:=Er b3;obtain⟨z,hz⟩:=am (xs:=t.au) (k:=h.eE.toNat) (by omega);have a_:(aG u.au)[0]?=some [.int .i64 y]:=aU (by rw[hy];rfl);have bb:=aU hz;have ey:u.au.getD 0 0=y:=by rw[hy];rfl
     rw[ey,eR hz]at G;by_cases hP:t.kind=0/\u.kind=0/\y=z
     ·
      have ab:eG m h=true:=G.2 ⟨hP.1,hP.2.1,⟨b1,b2⟩,b3,hP.2.2⟩;rw[ab,Bool.true_and]at I;obtain⟨p1,p2,p3⟩:=hP;rw[I];exact af
     ·
      have J:eG m h=false:=by rw[<- Bool.not_eq_true,G];exact fun h'=>hP ⟨h'.1,h'.2.1,h'.2.2.2.2⟩
      rw[I,J,Bool.false_and,Bool.false_and]
      repeat'(first
|(with_reducible first|apply ac.seq|apply ac.block)
|((with_reducible apply ac.text);(try case hm=>exact rfl))
|((with_reducible apply ac.drawn);(case hm=>exact rfl))
|((with_reducible apply ac.oK);(case hm|he=>exact rfl))
|(with_reducible first|apply ac.skip|apply ac.ret|apply az|apply aV|apply bq)
|((with_reducible apply ac.aA);(case hc=>exact rfl))
|((with_reducible apply ac.aH);(case hc=>exact rfl))
|((with_reducible apply aa.aE);(case hp=>exact aj))
|((with_reducible apply aa.fP)<;>intro hq)
|((with_reducible apply aa.cA);(case hp=>exact aj))
|((with_reducible apply aa.fQ);(case hp=>exact aj))
|((with_reducible apply aa.fB);(case hp=>exact aj))
|((with_reducible apply aa.fg)<;>intro hq)
|(with_reducible apply aa.ap)
|((with_reducible apply aa.gf);(case hW=>exact rfl))
|((with_reducible apply aB.oM);(case hck=>kernel_rfl))
|((with_reducible apply aB.u);(case hfl=>kernel_rfl);(case hx=>exact ah))
|((with_reducible apply aa.aD);(case hW=>exact rfl);(case hx=>first
|(exact aq k2)
|(exact aq k3)
|exact ah))
|((with_reducible apply aa.u0);(case hx=>first
|(exact aq k1)
|exact ah))
|fail)
      all_goals first
       |exact fun a w D=>⟨_,_,_,.inr rfl,D,rfl,rfl⟩
       |(exfalso;apply hP;refine⟨?_,?_,?_⟩<;>first|assumption|omega)
    ·
     have J:eG m h=false:=by rw[<- Bool.not_eq_true,G];exact fun h'=>hB ⟨h'.2.2.1,h'.2.2.2.1⟩
     rw[I,J,Bool.false_and,Bool.false_and];obtain⟨b,hb⟩:∃b,(decide (0<=h.eE)&&decide (h.eE <(t.au.length:Int)))=b:=⟨_,rfl⟩;rw[hb]at k3
     cases b with
     |false=>
      repeat'(first
|(with_reducible first|apply ac.seq|apply ac.block)
|((with_reducible apply ac.text);(try case hm=>exact rfl))
|((with_reducible apply ac.drawn);(case hm=>exact rfl))
|((with_reducible apply ac.oK);(case hm|he=>exact rfl))
|(with_reducible first|apply ac.skip|apply ac.ret|apply az|apply aV|apply bq)
|((with_reducible apply ac.aA);(case hc=>exact rfl))
|((with_reducible apply ac.aH);(case hc=>exact rfl))
|((with_reducible apply aa.aE);(case hp=>exact aj))
|((with_reducible apply aa.fP)<;>intro hq)
|((with_reducible apply aa.cA);(case hp=>exact aj))
|((with_reducible apply aa.fg)<;>intro hq)
|(with_reducible apply aa.ap)
|((with_reducible apply aa.gf);(case hW=>exact rfl))
|((with_reducible apply aB.oM);(case hck=>kernel_rfl))
|((with_reducible apply aB.u);(case hfl=>kernel_rfl);(case hx=>exact ah))
|((with_reducible apply aa.aD);(case hW=>exact rfl);(case hx=>first
|(exact aq k2)
|(exact aq k3)
|exact ah))
|((with_reducible apply aa.u0);(case hx=>first
|(exact aq k1)
|exact ah))
|fail)
      all_goals exact fun a w D=>⟨_,_,_,.inr rfl,D,rfl,rfl⟩
     |true=>
      have b3:u.au.length≠1:=fun e=>hB ⟨by simpa using hb,e⟩
      repeat'(first
|(with_reducible first|apply ac.seq|apply ac.block)
|((with_reducible apply ac.text);(try case hm=>exact rfl))
|((with_reducible apply ac.drawn);(case hm=>exact rfl))
|((with_reducible apply ac.oK);(case hm|he=>exact rfl))
|(with_reducible first|apply ac.skip|apply ac.ret|apply az|apply aV|apply bq)
|((with_reducible apply ac.aA);(case hc=>exact rfl))
|((with_reducible apply ac.aH);(case hc=>exact rfl))
|((with_reducible apply aa.aE);(case hp=>exact aj))
|((with_reducible apply aa.fP)<;>intro hq)
|((with_reducible apply aa.cA);(case hp=>exact aj))
|((with_reducible apply aa.fQ);(case hp=>exact aj))
|((with_reducible apply aa.fg)<;>intro hq)
|(with_reducible apply aa.ap)
|((with_reducible apply aa.gf);(case hW=>exact rfl))
|((with_reducible apply aB.oM);(case hck=>kernel_rfl))
|((with_reducible apply aB.u);(case hfl=>kernel_rfl);(case hx=>exact ah))
|((with_reducible apply aa.aD);(case hW=>exact rfl);(case hx=>first
|(exact aq k2)
|(exact aq k3)
|exact ah))
|((with_reducible apply aa.u0);(case hx=>first
|(exact aq k1)
|exact ah))
|fail)
      all_goals exact fun a w D=>⟨_,_,_,.inr rfl,D,rfl,rfl⟩
   ·
    have J:=Eo D;rw[I,J,Bool.false_and,Bool.false_and];have k1:=sS h.table (m.tables.length:Int);have k2:=sS h.to (m.tables.length:Int);obtain⟨b1,V⟩:∃b,(decide (0<=h.table)&&decide (h.table <(m.tables.length:Int)))=b:=⟨_,rfl⟩;obtain⟨b2,Z⟩:∃b,(decide (0<=h.to)&&decide (h.to <(m.tables.length:Int)))=b:=⟨_,rfl⟩;rw[V]at k1;rw[Z]at k2
    cases b1 with
    |false=>
     refine ar ?_
     all_goals exact fun a w D=>⟨_,_,_,.inr rfl,D,rfl,rfl⟩
    |true=>cases b2 with
     |false=>
      refine ar ?_
      all_goals exact fun a w D=>⟨_,_,_,.inr rfl,D,rfl,rfl⟩
     |true=>
      simp only[Bool.and_eq_true,decide_eq_true_eq]at V Z;have he:h.table=h.to:=Classical.byContradiction fun he=>D ⟨V.1,V.2,Z.1,Z.2,he⟩;refine ar ?_
      all_goals exact fun a w D=>⟨_,_,_,.inr rfl,D,rfl,rfl⟩
  ·
   have ab:m.aI.all (eG m)=true:=by rw[List.drop_zero]at h2;rw[h2,gR _ h3]
   rw[gR _ h3,Bool.true_and];refine ar ?_;refine HW.ev (f:=98) fa ?_ (by kernel_rfl);refine ar ?_;refine HW.ev (f:=98) fa ?_ (by kernel_rfl);refine ar ?_;refine aC.cB (fun q:Nat=>[(105,.t (.int .i64 (q:Int)))]) (fun q=>iT [.arr a0,.arr (br m.tables),.arr a2,.arr a3,.arr a4,.arr a5,.arr (cG m.aI),.arr a7] (lw m.aI q)) (fun q=>q<=m.aI.length) (fun q=>m.aI.length - q) 0 rfl rfl (by omega) (fun q h1=>?_);rcases Nat.lt_or_ge q m.aI.length with h3|h3
   ·
    obtain⟨h,hh⟩:=am h3;have an:=qN hh;have U:=Na hh;obtain⟨O,hO⟩:∃O,lw m.aI q=O:=⟨_,rfl⟩;rw[hO]at U⊢;by_cases hm:h.table∈O
    ·
     rw[if_pos hm]at U;obtain⟨j,hf,hj⟩:=Ex hm;have hvs:=Mf (n:=O.length) (j:=j)
     repeat'(first
|(with_reducible first|apply ac.seq|apply ac.block)
|((with_reducible apply ac.text);(try case hm=>exact rfl))
|(with_reducible first|apply ac.skip|apply az)
|((with_reducible apply ac.aA);(case hc=>exact rfl))
|((with_reducible apply aa.aE);(case hp=>exact aj))
|(with_reducible first|apply aa.ap|apply aa.bj)
|((with_reducible apply aa.u0);(case hx=>first
|((with_reducible apply ae.Me);(case hs=>exact fun _=>rfl);(case hm|ha|hk|hd|hy|hb=>exact rfl);(case hf=>exact hf);(case hvs=>exact hvs);(case hfr=>exact leq))
|exact ah))
|fail)
     exact⟨q+1,rfl,by rw[U];exact EC rfl rfl,by omega,by omega⟩
    ·
     rw[if_neg hm]at U;have hf:=vH (vS (decide_eq_false hm));have hks:=Mg (N:=O) (s:=h.table);have hvs:=vI O.length
     repeat'(first
|(with_reducible first|apply ac.seq|apply ac.block)
|((with_reducible apply ac.text);(try case hm=>exact rfl))
|(with_reducible first|apply ac.skip|apply az)
|((with_reducible apply ac.aA);(case hc=>exact rfl))
|((with_reducible apply aa.aE);(case hp=>exact aj))
|(with_reducible first|apply aa.ap|apply aa.bj)
|((with_reducible apply aa.u0);(case hx=>first
|((with_reducible apply ae.px);(case hs=>exact fun _=>rfl);(case hm|ha|hk|hd|hy|hb=>exact rfl);(case hf=>exact hf);(case hks=>exact hks);(case hvs=>exact hvs);(case hfr=>exact leq))
|exact ah))
|fail)
     exact⟨q+1,rfl,by rw[U];unfold iT;rw[List.length_append];exact EC rfl rfl,by omega,by omega⟩
   ·
    obtain rfl:q=m.aI.length:=by omega
    refine ar ?_;refine HW.seq ?_;refine HW.ev (f:=98) fa ?_ (by kernel_rfl);refine ar ?_;refine HW.nI (ln m.aI.length (0:Nat)) (fun p hp=>by unfold ln at hp;simp only[List.mem_cons,List.not_mem_nil,or_false]at hp;rcases hp with rfl|rfl|rfl|rfl <;>rfl) ?_;refine HW.block ?_;refine HW.loop (fun k e r=>∃(q:Nat) (O:List Int),k=m.aI.length - q/\q<=m.aI.length/\e=cZ (ln m.aI.length (q:Int))/\r=iT (gY a0 a2 a3 a4 a5 a7 m.tables m.aI) O/\mQ m.aI m.tables.length q O) m.aI.length ⟨0,_,by omega,by omega,rfl,rfl,Nb ab⟩ ?_;rintro k e r ⟨q,O,rfl,hq,rfl,rfl,hI⟩;refine HW.ev (f:=98) fa ?_ (by kernel_rfl);rcases Nat.lt_or_ge q m.aI.length with h3|h3
    ·
     refine ar ?_;refine HW.ev (f:=98) fa ?_ (by kernel_rfl);refine ar ?_;refine HW.seq ?_;intro dn a w D;refine M_ (len:=m.aI.length) (q:=(q:Int)) (by omega) hI (D.nI (ln m.aI.length (q:Int)) (fun p hp=>by unfold ln at hp;simp only[List.mem_cons,List.not_mem_nil,or_false]at hp;rcases hp with rfl|rfl|rfl|rfl <;>rfl)) fun O' a' w' ak ag=>?_;refine⟨_,_,ag,?_⟩;refine HW.one (f:=98) fa ?_ (by kernel_rfl);refine ar ?_;exact fun a w D=>⟨m.aI.length - (q+1),_,_,by omega,⟨q+1,O',rfl,by omega,rfl,rfl,ak⟩,D.nI (ln m.aI.length ((q+1:Nat):Int)) (fun p hp=>by unfold ln at hp;simp only[List.mem_cons,List.not_mem_nil,or_false]at hp;rcases hp with rfl|rfl|rfl|rfl <;>rfl)⟩
    ·
     obtain rfl:q=m.aI.length:=by omega
     have al:Y=decide (O.length=0):=by rw[hI.done,<- hY,List.drop_zero]
     subst al;refine ar ?_;refine HW.ev (f:=98) fa ?_ (by kernel_rfl);refine ar ?_;refine fun a w D=>⟨_,_,D,?_⟩;refine HW.one (f:=98) fa ?_ (by kernel_rfl)
     cases O with
     |nil=>
      have ao:(cW ([]:List Int)).length=0:=rfl;refine ar ?_;exact fun a w D=>⟨_,_,_,.inr rfl,D,rfl,rfl⟩
     |cons x O=>
      have ao:(cW (x::O)).length=O.length+1:=by simp[cW]
      rw[show decide ((x::O).length=0)=false from decide_eq_false (by simp)];refine ar ?_;exact fun a w D=>⟨_,_,_,.inr rfl,D,rfl,rfl⟩
 ·
  have e0:fS m=false:=by unfold fS;rw[decide_eq_false ad];rfl
  rw[e0];refine ar ?_;exact fun a w D=>⟨_,_,_,.inr rfl,D,rfl,rfl⟩
theorem ED:∀{W:List (List UInt8)} {ks vs:List AV},pk W ks vs=true->ks=(W.map fun w=>.str ⟨w.toArray⟩)/\vs=W.map fun _=>.bool true
 |[],[],[],_=>⟨rfl,rfl⟩
 |w::W,.str s::ks,.bool true::vs,h=>by
  unfold pk at h;rw[Bool.and_eq_true]at h;obtain⟨h1,h2⟩:=ED h.2;have hs:s=⟨w.toArray⟩:=of_decide_eq_true h.1;subst hs h1 h2;exact⟨rfl,rfl⟩
 |[],[],_::_,h=>by cases h
 |[],_::_,_,h=>by cases h
 |_::_,[],_,h=>by cases h
def qR:List ByteArray:=cT.map bs
def EE(w:List UInt8):(qR.any fun u=>decide (u=bs w))=decide (w∈cT):=by
 unfold qR;rw[List.any_map]
 cases y:decide (w∈cT)with
 |true=>
  rw[List.any_eq_true];exact⟨w,of_decide_eq_true y,by simp⟩
 |false=>
  rw[List.any_eq_false];intro x z v;have v:bs x=bs w:=by simpa using v
  obtain rfl:=qH v;exact of_decide_eq_false y z
def Nd{j:Nat}(h:j <qR.length):(iy.map SV.t)[j]?=some (.t (.bool true)):=by
 have u:j <cT.length:=by unfold qR at h;simpa using h
 unfold iy;rw[List.getElem?_map,List.getElem?_map,List.getElem?_eq_getElem u];rfl
def zv{P:Program}{rd:Option Nat}{dn:Nat}{ops:Array Oper}{Q:Exit->Act->World->Prop}{a:Act}{w:World}{o:Oper}{l:List Oper}{j d:Nat}{b:Bool}(hg:o.guard=some (j,!b))(hd:(ops[j]?).bind (·.dst)=some d)(hv:a.tmps.getD d undef=.bool b)(hl:d <a.tmps.size)(h:wpListIn (Fw rd) dn P ops Q l (a.put o.dst undef) w):wpListIn (Fw rd) dn P ops Q (o::l) a w:=by
 have v:Region.wanted o (yielded ops a.tmps)=false:=oE (A:=fun _=>True) (L:=fun _=>none) (w:=w) (env:=cZ [(d,.t (.bool b))]) hg (by unfold cX;rw[hd];cases b <;>simp[cZ,pH,un]) fun y u=>by
  rw[hd]at u;cases u;refine⟨?_,hl⟩;rw[hv];simp only[cZ,Nat.beq_refl];exact .t _ _ (.bool b)
 unfold wpListIn;rw[v,if_neg (by simp)];exact⟨fun _ _=>trivial,h⟩
def Nf{A:Nat->Prop}{L:Ls}{w:World}{f:Fn}{v:Value}(h:SR A L w (.t (.fn f 0 [])) v):v=.func f #[] #[]:=by
 cases h with
 |t _ _ h=>
  generalize u:AV.fn f 0 []=x at h
  cases h with
  |fn I G y D z J=>
   injection u with h1 h2 h3
   subst h1 h3;have h1:y=#[]:=Array.eq_empty_of_size_eq_zero h2.symm;subst h1;have h2:D=#[]:=Array.eq_empty_of_size_eq_zero (by simpa using z);subst h2;rfl
  |_=>cases u
theorem EF:∀l:List UInt8,k9 l<=l.length
 |[]=>Nat.le_refl _
 |b::r=>by
  have:=EF r;unfold k9;split <;>simp <;>omega
def Ng(l:List UInt8):fp l<=2:=by
 unfold fp;split
 ·omega
 ·split
  ·omega
  ·split <;>omega
def Nh{l:List UInt8}{v1 v2:Value}(hl:l.length<=1000000):uA dq Tryz.prog 198 #[v1,v2] (uB [.tp [.str (bs l)],.tp [.mp jw iy]] #[v1,v2]) [nT l] false:=by
 refine⟨⟨_,Tryz.func198,by kernel_rfl,rfl⟩,fun V J Jx A W hJ hX hK be hY h0 m=>callsIn_of_wp Tryz.func198 rfl trivial ?_ rfl⟩;obtain⟨ag,ab⟩:=hK _ _ _ h0;have aR:(bs l).size=l.length:=eJ l;have hM:∀b,A b->MA A [] (fun _=>none) b:=fun b hb=>⟨hb,fun⟨i,_,_,h,_⟩=>by cases h⟩;have bc:av dq ⟨A,fun _=>False,fun _=>True,W,fun _=>none⟩ [] (fun _=>none) W:={glob:=ag.glob,gn:=ag.gn,gx:=fun _ h=>h.elim,fresh:=ag.fresh,os:=rfl,tape:=rfl,output:=rfl,size:=Nat.le_refl _,kept:=fun _ _ _=>rfl,lim:=(fun _ _ h=>by cases h),new:=(fun _ _ _ _ h=>by cases h),dis:=(fun _ _ _ _ _ h=>by cases h),hand:=(fun _ _ h=>by cases h),blk:=(fun _ _ h=>by cases h)}
 have hA:At dq ⟨A,fun _=>False,fun _=>True,W,fun _=>none⟩ Tryz.f198.ntmps (cZ [(0,.t (.fn (.yield V) 0 [])),(1,.t (.tp [.str (bs l)])),(2,.t (.tp [.mp jw iy]))]) [] {tmps:=#[.func (.yield V) #[] #[]]++#[v1,v2]++Array.replicate (Tryz.f198.ntmps - (#[Value.func (.yield V) #[] #[]]++#[v1,v2]).size) undef,defers:=[]} W:=by
  refine⟨Marks.nil,by simp,_,bc,nD (tm:=fun t=>Array.getD _ t undef) _ fun p hp=>?_⟩;simp only[List.mem_cons,List.not_mem_nil,or_false]at hp;rcases hp with rfl|rfl|rfl
  ·simp[Array.getD_eq_getD_getElem?,Array.getElem?_append];exact .t _ _ (.fn (.yield V) [] #[] #[] rfl fun j x u hx=>by simp at hx)
  ·simp[Array.getD_eq_getD_getElem?,Array.getElem?_append];exact .t _ _ (VR.on (Nat.le_refl _) (fun b _ hb=>⟨hM b hb,rfl⟩) (ab _ _ ⟨0,rfl,rfl⟩))
  ·simp[Array.getD_eq_getD_getElem?,Array.getElem?_append];exact .t _ _ (VR.on (Nat.le_refl _) (fun b _ hb=>⟨hM b hb,rfl⟩) (ab _ _ ⟨1,rfl,rfl⟩))
 refine(?_:HW dq ⟨A,fun _=>False,fun _=>True,W,fun _=>none⟩ Tryz.f198.ntmps dL.P _ (cZ [(0,.t (.fn (.yield V) 0 [])),(1,.t (.tp [.str (bs l)])),(2,.t (.tp [.mp jw iy]))]) [] _) m _ _ hA;clear hA;have ks:=Lk hl;have hn:=qm false l;obtain⟨n,ay⟩:∃n,aT false l=n:=⟨_,rfl⟩;rw[ay]at ks hn;have bm:(bs l).extract 0 (bs l).size=bs l:=by rw[nZ,aR,List.take_length];rfl
 have hz:(0+(n:Int)).toNat=n:=by omega
 have aw:(bs l).extract (0+(n:Int)).toNat (bs l).size=bs (l.drop n):=by rw[hz,nZ,aR,List.take_length]
 obtain⟨u,hu⟩:∃u,l.drop n=u:=⟨_,rfl⟩;rw[hu]at aw;have an:u.length<=1000000:=by rw[<- hu,List.length_drop];omega
 have bZ:(bs u).size=u.length:=eJ u;refine HW.ev (f:=198) fa ?_ (by kernel_rfl);refine ar ?_;refine HW.nI [(0,.t (.fn (.yield V) 0 [])),(1,.t (.tp [.str (bs l)])),(2,.t (.tp [.mp jw iy])),(4,.t (.int .i64 0))] (fun p hp=>by simp only[List.mem_cons,List.not_mem_nil,or_false]at hp;rcases hp with rfl|rfl|rfl|rfl <;>rfl) ?_;refine HW.block ?_;refine HW.loop (fun k e r=>k=0/\e=cZ [(0,.t (.fn (.yield V) 0 [])),(1,.t (.tp [.str (bs l)])),(2,.t (.tp [.mp jw iy])),(4,.t (.int .i64 0))]/\r=[]) 0 ⟨rfl,rfl,rfl⟩ ?_;rintro k e r ⟨rfl,rfl,rfl⟩;refine HW.block ?_;refine HW.ev (f:=198) fa ?_ (by kernel_rfl)
 repeat'(first
|((with_reducible apply ac.text);(try case hm=>exact rfl))
|(with_reducible apply aa.nil)
|((with_reducible apply aa.u0);(case hx=>first
|((with_reducible apply ae.r8);(case hst|hx|hl=>exact rfl);(case h0=>omega);(case hls=>first|assumption|omega);(case hv=>exact bm))
|(exact aq ks)
|exact ah))
|fail)
 refine HW.ev (f:=198) fa ?_ (by kernel_rfl)
 repeat'(first
|((with_reducible apply ac.text);(try case hm=>exact rfl))
|(with_reducible apply aa.nil)
|((with_reducible apply aa.u0);(case hx=>first
|((with_reducible apply ae.r8);(case hst|hx|hl=>exact rfl);(case h0=>omega);(case hls=>first|assumption|omega);(case hv=>exact aw))
|exact ah))
|fail)
 refine HW.ev (f:=198) fa ?_ (by kernel_rfl);refine ar ?_;refine HW.cr (f:=198) fa (fun e r=>∃(kd:Int) (c:Nat),fT u=(kd,c)/\c<=2000000/\e 0=.t (.fn (.yield V) 0 [])/\e 5=.lp 0 0/\e 7=.t (.int .i64 (c:Int))/\r=[.box false 218 [.t (.int .i64 kd),.t (.int .i64 0),.t (.int .i64 (0+(n:Int))),.t (.int .i64 0)]]) ?_ (by kernel_rfl) ?_
 ·
  cases u with
  |nil=>
   have cd:bs ([]:List UInt8)=⟨#[]⟩:=rfl;refine ar ?_;exact⟨rfl,0,0,rfl,by omega,rfl,rfl,rfl,rfl⟩
  |cons b r=>
   have cf:¬bs (b::r)=bs []:=fun h=>by have:=qH h;cases this
   have hb:(b::r)[0]?=some b:=rfl;have bN:(b::r).length=r.length+1:=rfl;have k1:=zb b;have k2:=vC b;have k3:=DR an
   cases h1:ec b with
   |true=>
    rw[h1]at k1;have kr:=Lh an;have al:=qn b7 (b::r);have y:fT (b::r)=(if(b::r).take (aP b7 (b::r))∈cT then 2 else 1,aP b7 (b::r)):=by rw[fT,if_pos h1]
    obtain⟨c,hc⟩:∃c,aP b7 (b::r)=c:=⟨_,rfl⟩;rw[hc]at kr al y;have z:(bs (b::r)).extract 0 c=bs ((b::r).take c):=by rw[nZ];rfl
    cases hm:decide ((b::r).take c∈cT)with
    |true=>
     obtain⟨j,hf,hj⟩:=zm (s:=bs ((b::r).take c)) (N:=qR) (by rw[EE];exact hm);have hz:=Nd hj;rw[if_pos (of_decide_eq_true hm)]at y
     repeat'(first
|(with_reducible first|apply ac.seq|apply ac.block)
|((with_reducible apply ac.text);(try case hm=>exact rfl))
|((with_reducible apply ac.drawn);(case hm=>exact rfl))
|((with_reducible apply ac.aA);(case hc=>exact rfl))
|((with_reducible apply ac.aH);(case hc=>exact rfl))
|((with_reducible apply aa.bC);(case hp=>exact aj))
|(with_reducible first|apply aa.ap|apply aa.bj)
|((with_reducible apply aa.u0);(case hx=>first
|((with_reducible apply ae.gm);(case hx|hi|hst=>exact rfl);(case h0=>omega);(case hb=>assumption))
|((with_reducible apply ae.uI);(case hst|hx|hh=>exact rfl);(case hhs=>first|assumption|omega);(case hv=>exact z))
|((with_reducible apply ae.nG);(case hm|hk|ho=>exact rfl);(case hf=>exact hf);(case hz=>exact hz))
|(exact aq k1)
|(exact aq kr)
|exact ah))
|fail)
     exact⟨rfl,2,c,y,by omega,rfl,rfl,rfl,rfl⟩
    |false=>
     have hf:=zl (s:=bs ((b::r).take c)) (N:=qR) (by rw[EE];exact hm);rw[if_neg (of_decide_eq_false hm)]at y
     repeat'(first
|(with_reducible first|apply ac.seq|apply ac.block)
|((with_reducible apply ac.text);(try case hm=>exact rfl))
|((with_reducible apply ac.drawn);(case hm=>exact rfl))
|(with_reducible first|apply ac.skip|apply bk)
|((with_reducible apply ac.aA);(case hc=>exact rfl))
|((with_reducible apply ac.aH);(case hc=>exact rfl))
|((with_reducible apply aa.bC);(case hp=>exact aj))
|(with_reducible apply aa.ap)
|((with_reducible apply aa.u0);(case hx=>first
|((with_reducible apply ae.gm);(case hx|hi|hst=>exact rfl);(case h0=>omega);(case hb=>assumption))
|((with_reducible apply ae.uI);(case hst|hx|hh=>exact rfl);(case hhs=>first|assumption|omega);(case hv=>exact z))
|((with_reducible apply ae.lk);(case hm|hk|ho=>exact rfl);(case hf=>exact hf);(case hz=>exact rfl))
|(exact aq k1)
|(exact aq kr)
|exact ah))
|fail)
     exact⟨rfl,1,c,y,by omega,rfl,rfl,rfl,rfl⟩
   |false=>
    rw[h1]at k1
    cases h2:bR b with
    |true=>
     rw[h2]at k2;have kr:=Li an;have al:=qn bR (b::r);have y:fT (b::r)=(3,aP bR (b::r)):=by rw[fT,if_neg (by simp[h1]),if_pos h2]
     obtain⟨c,hc⟩:∃c,aP bR (b::r)=c:=⟨_,rfl⟩;rw[hc]at kr al y;refine ar ?_;exact⟨rfl,3,c,y,by omega,rfl,rfl,rfl,rfl⟩
    |false=>
     rw[h2]at k2;have aL:=Ng (b::r);by_cases h3:0 <fp (b::r)
     ·
      have y:fT (b::r)=(4,fp (b::r)):=by rw[fT,if_neg (by simp[h1]),if_neg (by simp[h2]),if_pos h3]
      obtain⟨c,hc⟩:∃c,fp (b::r)=c:=⟨_,rfl⟩;rw[hc]at k3 aL y h3;refine ar ?_;exact⟨rfl,4,c,y,by omega,rfl,rfl,rfl,rfl⟩
     ·
      have y:fT (b::r)=(5,1+k9 r):=by rw[fT,if_neg (by simp[h1]),if_neg (by simp[h2]),if_neg h3]
      have hw:=EF r;obtain⟨c0,au⟩:∃c,fp (b::r)=c:=⟨_,rfl⟩;rw[au]at k3 aL h3;obtain⟨R,hR⟩:∃R,k9 r=R:=⟨_,rfl⟩;rw[hR]at y hw;refine ar ?_;refine aC.ind (fun q:Nat=>[(7,.t (.int .i64 (q:Int)))]) (fun q=>1<=q/\q<=r.length+1/\q+k9 ((b::r).drop q)=1+R) (fun q=>r.length+1 - q) 1 rfl ⟨by omega,by omega,by rw[<- hR];rfl⟩ (fun q hq=>?_);obtain⟨g0,g1,G⟩:=hq;rcases Nat.lt_or_ge q (r.length+1)with g3|g3
      ·
       obtain⟨c,bw⟩:=am (xs:=b::r) (k:=q) (by omega);have hd:=bS bw;rw[hd,k9]at G;have kw:=DP c;have kb:=Lo (b:=c) (r:=(b::r).drop (q+1)) (by rw[List.length_cons,List.length_drop];omega);have z:(bs (b::r)).extract q (bs (b::r)).size=bs (c::(b::r).drop (q+1)):=by rw[nZ,bZ,List.take_length,hd]
       obtain⟨Z1,bf⟩:∃Z,dp c=Z:=⟨_,rfl⟩;obtain⟨Z2,bg⟩:∃Z,pi c ((b::r).drop (q+1))=Z:=⟨_,rfl⟩;rw[bf]at kw G;rw[bg]at kb G
       cases Z1 with
       |true=>
        simp only[Bool.not_true,Bool.false_and,Bool.false_eq_true,if_false,Nat.add_zero]at G
        repeat'(first
|(with_reducible apply ac.seq)
|((with_reducible apply ac.text);(try case hm=>exact rfl))
|(with_reducible first|apply ac.exit|apply cR|apply bk|apply cS)
|((with_reducible apply ac.aH);(case hc=>exact rfl))
|((with_reducible apply aa.aE);(case hp=>exact aj))
|(with_reducible apply aa.ap)
|((with_reducible apply aa.gf);(case hW=>exact rfl))
|((with_reducible apply aa.aD);(case hW=>exact rfl);(case hx=>first
|((with_reducible apply ae.gm);(case hx|hi|hst=>exact rfl);(case h0=>omega);(case hb=>assumption))
|(exact aq kw)
|exact ah))
|((with_reducible apply aa.u0);(case hx=>exact ah))
|fail)
        exact⟨rfl,5,q,by rw[y,G],by omega,rfl,rfl,rfl,rfl⟩
       |false=>
        by_cases cc:(c.toNat:Int)=35
        ·
         have D:c.toNat=35:=by omega
         simp only[D,decide_true,Bool.not_true,Bool.false_and,Bool.and_false,Bool.false_eq_true,if_false,Nat.add_zero]at G
         repeat'(first
|(with_reducible apply ac.seq)
|((with_reducible apply ac.text);(try case hm=>exact rfl))
|(with_reducible first|apply ac.exit|apply cR|apply bk|apply cS)
|((with_reducible apply ac.aH);(case hc=>exact rfl))
|((with_reducible apply aa.aE);(case hp=>exact aj))
|((with_reducible apply aa.fB);(case hp=>exact aj))
|(with_reducible apply aa.ap)
|((with_reducible apply aa.gf);(case hW=>exact rfl))
|((with_reducible apply aa.aD);(case hW=>exact rfl);(case hx=>first
|((with_reducible apply ae.gm);(case hx|hi|hst=>exact rfl);(case h0=>omega);(case hb=>assumption))
|(exact aq kw)
|exact ah))
|((with_reducible apply aa.u0);(case hx=>exact ah))
|fail)
         exact⟨rfl,5,q,by rw[y,G],by omega,rfl,rfl,rfl,rfl⟩
        ·
         have D:¬c.toNat=35:=by omega
         cases Z2 with
         |true=>
          simp only[D,decide_false,Bool.not_true,Bool.and_false,Bool.false_eq_true,if_false,Nat.add_zero]at G
          repeat'(first
|(with_reducible apply ac.seq)
|((with_reducible apply ac.text);(try case hm=>exact rfl))
|(with_reducible first|apply ac.exit|apply cR|apply bk|apply cS)
|((with_reducible apply ac.aH);(case hc=>exact rfl))
|((with_reducible apply aa.aE);(case hp=>exact aj))
|((with_reducible apply aa.fQ);(case hp=>exact aj))
|(with_reducible apply aa.ap)
|((with_reducible apply aa.aD);(case hW=>exact rfl);(case hx=>first
|((with_reducible apply ae.gm);(case hx|hi|hst=>exact rfl);(case h0=>omega);(case hb=>assumption))
|((with_reducible apply ae.r8);(case hst|hx|hl=>exact rfl);(case h0=>omega);(case hls=>first|assumption|omega);(case hv=>exact z))
|(exact aq kw)
|(exact aq kb)
|exact ah))
|((with_reducible apply aa.u0);(case hx=>exact ah))
|fail)
          exact⟨rfl,5,q,by rw[y,G],by omega,rfl,rfl,rfl,rfl⟩
         |false=>
          simp only[D,decide_false,Bool.not_false,Bool.and_self,if_true]at G
          repeat'(first
|(with_reducible first|apply ac.seq|apply ac.block)
|((with_reducible apply ac.text);(try case hm=>exact rfl))
|(with_reducible first|apply ac.skip|apply az|apply bk)
|((with_reducible apply ac.aA);(case hc=>exact rfl))
|((with_reducible apply aa.aE);(case hp=>exact aj))
|((with_reducible apply aa.fQ);(case hp=>exact aj))
|(with_reducible apply aa.ap)
|((with_reducible apply aa.aD);(case hW=>exact rfl);(case hx=>first
|((with_reducible apply ae.gm);(case hx|hi|hst=>exact rfl);(case h0=>omega);(case hb=>assumption))
|((with_reducible apply ae.r8);(case hst|hx|hl=>exact rfl);(case h0=>omega);(case hls=>first|assumption|omega);(case hv=>exact z))
|(exact aq kw)
|(exact aq kb)
|exact ah))
|((with_reducible apply aa.u0);(case hx=>exact ah))
|fail)
          exact⟨q+1,rfl,rfl,⟨by omega,by omega,by omega⟩,by omega⟩
      ·
       obtain rfl:q=r.length+1:=by omega
       rw[List.drop_eq_nil_of_le (by rw[bN];exact Nat.le_refl _),k9]at G;refine ar ?_;exact⟨rfl,5,r.length+1,by rw[y,<- G],by omega,rfl,rfl,rfl,rfl⟩
 ·
  rintro e r ⟨kd,c,b0,hc,e0,e5,e7,rfl⟩;refine HW.nI [(0,.t (.fn (.yield V) 0 [])),(5,.lp 0 0),(7,.t (.int .i64 (c:Int)))] (fun p hp=>by simp only[List.mem_cons,List.not_mem_nil,or_false]at hp;rcases hp with rfl|rfl|rfl;exact e0;exact e5;exact e7) ?_;refine HW.ev (f:=198) fa ?_ (by kernel_rfl);refine ar ?_;refine HW.ev (f:=198) fa ?_ (by kernel_rfl);refine ar ?_;intro dn a w hA;obtain⟨⟨_,ak⟩,bO,L,hC,hV⟩:=hA;have ak:a.defers=[]:=ak trivial;refine wpIn_seq ?_;refine wpIn_region_lit ?_;show wpListIn _ _ _ _ _ ([_,_]++[_,_,_,_,_,_,_]) _ _
  refine Cq (i:=0) (kp:=[]) (ds:=[]) (K:=fun e r=>e 84=.t (.fn (.yield V) 0 [])/\e 85=.t (.agg [.int .i64 kd,.int .i64 0,.int .i64 (0+(n:Int)),.int .i64 (0+(n:Int)+c)])) fa ?_ (by simp) (by kernel_rfl) (by simp) (by intro p hp;cases hp) ak bO hC hV fun e2 r2 L2 a2 w2 bd _ bF aI I ao=>?_
  ·
   refine ar ?_;exact⟨rfl,rfl⟩
  obtain⟨b3,b4⟩:=bd;have bl:Below W.heap.size W w2:=⟨I.os,I.tape,I.output,I.size,fun k hk=>I.kept k hk fun h=>h⟩;have hj:=hJ _ _ _ _ h0 bl
  have a_:a2.eval (.tmp 84)=.func (.yield V) #[] #[]:=by
   have:=ao 84;rw[b3]at this;exact Nf this
  have bb:VR A w2 (.agg [.int .i64 kd,.int .i64 0,.int .i64 (0+(n:Int)),.int .i64 (0+(n:Int)+c)]) (a2.eval (.tmp 85)):=by
   have:=ao 85;rw[b4]at this
   cases this with
   |t _ _ h=>exact VR.on (Nat.le_refl _) (fun b _ hm=>⟨hm.1,rfl⟩) h
  have b1:nT l=[.agg [.int .i64 kd,.int .i64 0,.int .i64 (0+(n:Int)),.int .i64 (0+(n:Int)+c)]]:=by
   unfold nT;rw[ay,hu,b0];simp
  rw[b1]at hj;refine uJ rfl (Ib rfl a_ (fun m=>hY _ _ _ _ _ hj (by simp) (fun j x u hx hu=>?_) m) fun en Z hr=>?_)
  ·match j,hx,hu with
   |0,hx,hu=>cases hx;simp at hu;rw[<- hu];exact bb
  ·rcases hr with⟨rfl,A',bI⟩|⟨rfl,b2⟩
   ·exact absurd bI (be rfl _ _)
   ·refine⟨_,rfl,?_⟩;have n3:(a2.put (some 86) (.bool false)).tmps.size=Tryz.f198.ntmps:=by rw[bQ,aI]
    have aS:(a2.put (some 86) (.bool false)).eval (.tmp 86)=.bool false:=fz (by rw[aI];decide);have d3:(a2.put (some 86) (.bool false)).defers=[]:=by rw[put_defers,bF]
    generalize a2.put (some 86) (.bool false)=a3 at n3 aS d3⊢;refine iM rfl (v:=.bool true) (w':=Z) (by show(execOp _ _).run _ _=_;unfold execOp;simp only[aS];rfl) ?_;have a1:(a3.put (some 87) (.bool true)).eval (.tmp 87)=.bool true:=fz (by rw[n3];decide);have n4:(a3.put (some 87) (.bool true)).tmps.size=Tryz.f198.ntmps:=by rw[bQ,n3]
    have d4:(a3.put (some 87) (.bool true)).defers=[]:=by rw[put_defers,d3]
    generalize a3.put (some 87) (.bool true)=a4 at n4 a1 d4⊢;refine iM rfl (v:=.bool true) (w':=Z) (by show(execOp _ _).run _ _=_;unfold execOp;simp only[a1];rfl) ?_;have U:(a4.put (some 88) (.bool true)).tmps.getD 88 undef=.bool true:=fz (by rw[n4];decide);have n5:(a4.put (some 88) (.bool true)).tmps.size=Tryz.f198.ntmps:=by rw[bQ,n4]
    have d5:(a4.put (some 88) (.bool true)).defers=[]:=by rw[put_defers,d4]
    generalize a4.put (some 88) (.bool true)=a5 at n5 U d5⊢;refine zv (b:=true) rfl rfl U (by rw[n5];decide) ?_;refine zv (b:=true) rfl rfl ((ck (by simp)).trans U) (by rw[bQ,n5];decide) ?_;refine zv (b:=true) rfl rfl ((ck (by simp)).trans ((ck (by simp)).trans U)) (by rw[bQ,bQ,n5];decide) ?_;have ad:(((a5.put (some 89) undef).put (some 90) undef).put (some 91) undef).eval (.tmp 88)=.bool true:=(ck (by simp)).trans ((ck (by simp)).trans ((ck (by simp)).trans U));have n6:(((a5.put (some 89) undef).put (some 90) undef).put (some 91) undef).tmps.size=Tryz.f198.ntmps:=by rw[bQ,bQ,bQ,n5]
    have d6:(((a5.put (some 89) undef).put (some 90) undef).put (some 91) undef).defers=[]:=by rw[put_defers,put_defers,put_defers,d5]
    generalize((a5.put (some 89) undef).put (some 90) undef).put (some 91) undef=a6 at n6 ad d6⊢;refine iM rfl (v:=.bool true) (w':=Z) (by show(execOp _ _).run _ _=_;unfold execOp;simp only[ad];rfl) ?_;show Code.wpIn _ _ _ _ _ _ _
    refine wpIn_cond_split (t:=true) (fz (by rw[n6];decide)) (fun _=>?_) (fun h=>by cases h);refine wpIn_ret ?_;exact⟨by rw[put_defers,d6],_,results_none rfl _ _ _,⟨_,rfl⟩,.inr b2⟩
def Ni{es:List (List AV)}{l:List Int}(h:nU es=some l):es=aG l:=by
 induction es generalizing l with
 |nil=>unfold nU at h;cases h;rfl
 |cons c r y=>
  unfold nU at h;split at h
  ·cases ‹_=[]›
  ·rename_i u;injection u with h1 h2
   subst h1 h2;split at h
   ·rename_i v;cases h;rw[y v];rfl
   ·cases h
  ·cases h
def Nj{es:List (List AV)}{l:List Tb}(h:nV es=some l):es=br l:=by
 induction es generalizing l with
 |nil=>unfold nV at h;cases h;rfl
 |cons c r z=>
  unfold nV at h;split at h
  ·cases ‹_=[]›
  ·rename_i u;injection u with h1 h2
   subst h1 h2;split at h
   ·rename_i v y;cases h;rw[z y,Ni v];rfl
   ·cases h
  ·cases h
def Nk{es:List (List AV)}{l:List Hde}(h:nW es=some l):es=cG l:=by
 induction es generalizing l with
 |nil=>unfold nW at h;cases h;rfl
 |cons c r y=>
  unfold nW at h;split at h
  ·cases ‹_=[]›
  ·rename_i u;injection u with h1 h2
   subst h1 h2;split at h
   ·rename_i v;cases h;rw[y v];rfl
   ·cases h
  ·cases h
def EG:Wf ai dq where
 exh:=Ew
 seq:=fun I xs U wh h G Z=>by
  have h:(match yU I xs with|some r=>some r|none=>yT I xs)=some (U,wh):=h;split at h
  ·rename_i q D;cases h;unfold yU at D;split at D
   ·rename_i s ks vs z;split at D
    ·rename_i y;rw[Bool.and_eq_true,Nat.ble_eq]at y;cases D;have z:I=198:=by simpa using z
     obtain⟨V,hv⟩:=ED y.1;subst z V hv;have hs:G.size=2:=Z
     have e:G=#[G[0],G[1]]:=by
      apply Array.ext
      ·simp[hs]
      ·intro i h1 h2;have:i=0\/i=1:=by simp at h2;omega
       rcases this with rfl|rfl <;>rfl
     rw[e];have J:s.data.toList.length<=1000000:=by have:=y.2;rwa[<- Lib.size_eq]
     exact Nh (l:=s.data.toList) J
    ·cases D
   ·cases D
  ·cases h
 mixed:=by kernel_rfl
 rZ:=Eu
 ext:=fun f xs r fr' h=>by
  by_cases z:f=98
  ·subst z;replace h:l7 98 xs=some (r,fr'):=h;unfold l7 at h;split at h
   ·cases h
   ·cases h
   ·cases h
   ·split at h
    ·rename_i y;rw[Bool.and_eq_true,Bool.and_eq_true,Nat.ble_eq,Nat.ble_eq]at y;split at h
     ·rename_i tb hd v u;cases h;obtain⟨_,h1,h2⟩:=y;have v:=Nj v;have u:=Nk u;subst v u;rw[e9]at h1;rw[qK]at h2;exact Nc (m:=⟨[],tb,[],[],[],[],hd⟩) h1 h2
     ·cases h
    ·cases h
   ·cases h
   ·cases h
   ·cases h
  ·refine Et f xs r fr' ?_;unfold vy;rw[show Nat.beq f 98=false from Bool.eq_false_iff.2 fun h=>z (Nat.eq_of_beq_eq_true h)];exact h
end Go.Proofs.YtjolgbkkocjpgaaGreatDoor
