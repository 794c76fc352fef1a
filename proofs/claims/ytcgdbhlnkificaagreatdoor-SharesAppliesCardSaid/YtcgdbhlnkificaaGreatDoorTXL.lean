/- Law 27: what lies outside: the library's contracts. No condition. -/
import Derived.Test.YtcgdbhlnkificaaGreatDoorTVD
import Derived.Test.YtcgdbhlnkificaaGreatDoorTCX
import Derived.Test.YtcgdbhlnkificaaGreatDoorTV
import Derived.Test.YtcgdbhlnkificaaGreatDoorTX
import Derived.Test.YtcgdbhlnkificaaGreatDoorWQ
import Derived.Test.YtcgdbhlnkificaaGreatDoorShelf
import Derived.Test.YtcgdbhlnkificaaGreatDoorTM
import Derived.Test.YtcgdbhlnkificaaGreatDoorTNC
import Derived.Test.YtcgdbhlnkificaaGreatDoorTS
import Derived.Test.YtcgdbhlnkificaaGreatDoorTLX
import Derived.Test.YtcgdbhlnkificaaGreatDoorTC
set_option linter.all false
namespace Go.Proofs.YtcgdbhlnkificaaGreatDoor
open Go.RowKit
set_option maxRecDepth 100000
def mT(w :World):Prop :=Lib.TabIs Tryz.prog w "strings.asciiSpace" .u8 Lib.asciiSpaceTab
def Rl :Tryz.prog.globalNamed "strings.asciiSpace" =some 0 :=by kernel_rfl
def PK{w w':World}(h:mT w)(he:w'.heap[0]?=w.heap[0]?):mT w':=by
 unfold mT Lib.TabIs World.var? at h⊢;rw[Rl]at h⊢;simp only[Option.bind_some]at h⊢;rw[he];exact h
def Gr{w:World}(h:mT w):0 <w.heap.size:=by
 unfold mT Lib.TabIs World.var? at h;rw[Rl]at h;simp only[Option.bind_some]at h;rcases Nat.lt_or_ge 0 w.heap.size with h1|h1
 ·exact h1
 ·rw[Array.getElem?_eq_none h1]at h;cases h
def dB:Glob where
 G:=mT
 n:=0+1
 stays:=fun w w' h u=>PK h (u _ (Nat.lt_succ_self _))
def Qn{M:Nat->Prop}{w:World}{s:ByteArray}{c:Int}{us:Array Value}(hs:us.size=2)(hv:∀(j:Nat) (x:AV) (u:Value),[AV.str s,AV.int .u8 c][j]?=some x->us[j]?=some u->VR M w x u):us=#[.string s,.int .u8 c]:=by
 have v:=GN (hv 0 _ us[0] rfl (by rw[Array.getElem?_eq_getElem (by omega)]));have h1:=ub (hv 1 _ us[1] rfl (by rw[Array.getElem?_eq_getElem (by omega)]));apply Array.ext
 ·simp[hs]
 ·intro i h2 h3;have:i=0\/i=1:=by simp at h3;omega
  rcases this with rfl|rfl
  ·simpa using v
  ·simpa using h1
def Qo{M:Nat->Prop}{w:World}{x y:Int}{us:Array Value}(hs:us.size=2)(hv:∀(j:Nat) (z:AV) (u:Value),[AV.int .u64 x,AV.int .u64 y][j]?=some z->us[j]?=some u->VR M w z u):us=#[.int .u64 x,.int .u64 y]:=by
 have v:=ub (hv 0 _ us[0] rfl (by rw[Array.getElem?_eq_getElem (by omega)]));have h1:=ub (hv 1 _ us[1] rfl (by rw[Array.getElem?_eq_getElem (by omega)]));apply Array.ext
 ·simp[hs]
 ·intro i h2 h3;have:i=0\/i=1:=by simp at h3;omega
  rcases this with rfl|rfl
  ·simpa using v
  ·simpa using h1
def Qm{M:Nat->Prop}{w:World}{us:Array Value}{s:ByteArray}(hs:us.size=1)(hv:∀(j:Nat) (x:AV) (u:Value),[AV.str s][j]?=some x->us[j]?=some u->VR M w x u):us=#[.string s]:=by
 have v:=GN (hv 0 _ us[0] rfl (by rw[Array.getElem?_eq_getElem (by omega)]));apply Array.ext
 ·simp[hs]
 ·intro i h2 h3;have:i=0:=by simp at h3;omega
  subst this;simpa using v
def KG:Lib.fields ta.data.toList=cQ:=by kernel_rfl
def KF:(ta.data.toList.all fun b=>decide (b.toNat <128))=true:=by kernel_rfl
def GU(f:Nat)(xs:List AV)(r:SV)(fr':Fr)(h:Q_ f xs=some (r,fr')):gR Tryz.prog f/\∀(κ:Ctx) (w:World) (us:Array Value),ar dB κ [] κ.L w->κ.W=w->us.size=xs.length->(∀(j:Nat) (x:AV) (u:Value),xs[j]?=some x->us[j]?=some u->VR (MA κ.M [] κ.L) w x u)->
  Calls Tryz.prog f us w fun e w'=>∃v L',e=.returned v/\ar dB κ fr' L' w'/\SR (MA κ.M fr' L') L' w' r v:=by
 unfold Q_ at h;split at h
 ·cases h
 rename_i ag;replace h:mo f xs=some (r,fr'):=h;unfold mo at h;split at h
 ·rename_i s;split at h
  ·rename_i D;rw[Bool.and_eq_true]at D;obtain⟨D,hs⟩:=D;have D:f=209:=by simpa using D
   have hs:s=ta:=of_decide_eq_true hs;subst D hs;cases h;refine⟨⟨_,Tryz.func209,by kernel_rfl,by kernel_rfl⟩,fun κ w us J hκ hs hv=>?_⟩;obtain rfl:=Qm hs hv;refine(Tryz.strings_Fields_laid ta w (of_decide_eq_true (by kernel_rfl)) (fun j b hb=>of_decide_eq_true (List.all_eq_true.1 KF b (List.mem_of_getElem? hb))) J.glob).mono fun e w' ⟨he,I⟩=>?_;rw[KG]at he I;have hb:Below w.heap.size w w':=by rw[I];exact(Below.refl _ _).alloc (Nat.le_refl _) _
   refine⟨_,κ.L,he,J.later hb,.t _ _ ?_⟩;obtain⟨W,hW⟩:∃W,cQ=W:=⟨_,rfl⟩;have au:W.length<=1000:=by rw[<- hW];decide
   have ab:W≠[]:=by rw[<- hW];decide
   rw[hW]at I⊢;have ad:(W.map fun w=>[AV.str ⟨w.toArray⟩]).length=W.length:=List.length_map _;rw[<- ad];have al:=RC.lit w (W.map fun l=>Value.string ⟨l.toArray⟩).toArray 9;have ap:w'=w.alloc (.cells (W.map fun l=>Value.string ⟨l.toArray⟩).toArray 9):=I;rw[<- ap]at al;obtain⟨b,o,ao,an,V⟩:=al (by simpa using List.length_pos_iff.2 ab);cases ao;refine VR.arr _ _ _ 1 _ (fun k _=>(W.map fun l=>Value.string ⟨l.toArray⟩).getD k undef) (by intro h0;exact ab (List.map_eq_nil_iff.1 h0)) (by rw[ad];omega) (Nat.le_refl _) an J.DZ (fun k cs G=>?_) (fun k j G hj=>?_) (fun k j cs x G hj=>?_)
   ·rw[List.getElem?_map]at G
    cases hx:W[k]? with
    |none=>rw[hx]at G;cases G
    |some y=>rw[hx]at G;cases G;rfl
   ·rw[List.length_map]at G;have Z:j=0:=by omega
    subst Z;have:=V k ((W.map fun l=>Value.string ⟨l.toArray⟩).getD k undef) (by rw[List.getD_eq_getElem?_getD];simp[G]);simpa using this
   ·rw[List.getElem?_map]at G
    cases hx:W[k]? with
    |none=>rw[hx]at G;cases G
    |some y=>
     rw[hx]at G;cases G;have Z:j=0:=by have:=aC hj;simp at this;omega
     subst Z;cases hj;rw[List.getD_eq_getElem?_getD,List.getElem?_map,hx];exact .str _
  ·cases h
 ·rename_i s c;split at h
  ·rename_i D;rw[Bool.and_eq_true]at D;obtain⟨D,U⟩:=D;have D:f=212:=by simpa using D
   have U:=of_decide_eq_true U;subst D;cases h;refine⟨⟨_,Tryz.func212,by kernel_rfl,by kernel_rfl⟩,fun κ w us J hκ hs hv=>?_⟩;obtain rfl:=Qn hs hv;exact(Tryz.strings_IndexByte s c w).mono fun e w' ⟨he,I⟩=>⟨_,κ.L,he,by rw[I];exact J,.t _ _ (.int _ _)⟩
  ·cases h
 ·rename_i x y;split at h
  ·rename_i D;rw[Bool.and_eq_true]at D;obtain⟨D,U⟩:=D;have D:f=85:=by simpa using D
   obtain⟨av,ax,aA,aB⟩:=of_decide_eq_true U;subst D;cases h;refine⟨⟨_,Tryz.func85,by kernel_rfl,by kernel_rfl⟩,fun κ w us J hκ hs hv=>?_⟩;obtain rfl:=Qo hs hv;have ex:((x.toNat:Nat):Int)=x:=by omega
   have ey:((y.toNat:Nat):Int)=y:=by omega
   have U:=Tryz.bits_Mul x.toNat y.toNat (by omega) (by omega) w;rw[ex,ey]at U;refine U.mono fun e w' ⟨he,I⟩=>⟨_,κ.L,he,by rw[I];exact J,.aN _ _ rfl fun j s z hs hz=>?_⟩
   match j with
   |0=>simp at hs hz;subst hs hz;exact .t _ _ (.int _ _)
   |1=>simp at hs hz;subst hs hz;exact .t _ _ (.int _ _)
   |j+2=>simp at hs
  ·cases h
 ·split at h
  ·rename_i D;rw[Bool.and_eq_true]at D;rw[D.1]at ag;cases ag
  ·cases h
 ·rename_i es;split at h
  ·rename_i D;have D:f=46:=by simpa using D
   subst D;exact H5 dB h
  ·split at h
   ·rename_i D;have D:f=94:=by simpa using D
    subst D;exact BN dB h
   ·split at h
    ·rename_i D;have D:f=19:=by simpa using D
     subst D;exact Ia dB h
    ·cases h
 ·rename_i es r _ _ _ _ _ _ i k a t _ _;split at h
  ·rename_i D;have D:f=52:=by simpa using D
   subst D;exact Sg dB h
  ·cases h
 ·cases h
def Jr:((List.range 223).all fun f=>!vS f ||qk aj f)=true:=by kernel_rfl
def D9(f:Nat)(hf:vS f=true):qk aj f=true:=by
 have u:f <223:=by
  have h:=hf;unfold vS at h;split at h
  ·cases h
  ·simpa using h
 have:=List.all_eq_true.1 Jr f (List.mem_range.2 u);rw[hf]at this;simpa using this
theorem nL{g:Cfg}{x:Nat->List AV->Option (SV×Fr)}{f n:Nat}:∀c:Code,kj (g.low x) f n c=kj g f n c
 | .seq a b=>by unfold kj;rw[nL a,nL b]
 | .cond _ a b=>by unfold kj;rw[nL a,nL b]
 | .block _ b=>by unfold kj;rw[nL b]
 | .loop b=>by unfold kj;rw[nL b]
 | .rangeFunc _ ps a b=>by unfold kj;rw[nL a,nL b]
 | .region _ _ _=>rfl
 | .skip=>rfl
 | .scope _=>rfl
 | .goto _=>rfl
 | .label ..=>rfl
 | .exit _=>rfl
 | .ret=>rfl
 | .refuse _=>rfl
def Cw:ee Tryz.prog dB Cv:=fun f u fr r fr' h=>by
 have h:(none:Option (SV×Fr))=some (r,fr'):=h;cases h
def fh:Wf dP dB where
 exh:=Cw
 mixed:=by kernel_rfl
 sS:=fun f y=>by
  have h:=D9 f y;unfold qk at h⊢;have h2:dP.P=aj.P:=rfl;rw[h2];split at h
  ·cases h
  ·rename_i fn u
   try simp only[u]
   split at h
   ·cases h
   ·rename_i c v
    try simp only[v]
    unfold dP;rw[nL];exact h
 ext:=GU
set_option maxHeartbeats 16000000
def mM(n:Nat):List AV:=List.replicate n (.bool true)
def P8{n j:Nat}(h:j <n):((mM n).map SV.t)[j]?=some (.t (.bool true)):=by unfold mM;rw[List.getElem?_map,List.getElem?_replicate,if_pos h];rfl
def uB{O:List Int}{t:Int}{b:Bool}(h:decide (t∈O)=b):(O.any fun u=>decide (u=t))=b:=by
 rw[<- h]
 cases v:O.any fun u=>decide (u=t)with
 |true=>
  obtain⟨u,y,z⟩:=List.any_eq_true.1 v;obtain rfl:u=t:=of_decide_eq_true z;exact(decide_eq_true y).symm
 |false=>
  refine(decide_eq_false fun y=>?_).symm;rw[List.any_eq_false]at v;exact v t y (by simp)
def JT(h:Hde)(t:Int)(O:List Int):Cl dP 149 [.t (.agg [.int .i64 h.table,.int .i64 h.eM,.int .i64 h.to]),.t (.tp [.int .i64 t]),.t (.tp [.mp (cP O) (mM O.length)])] [] (.t (.bool (decide (h.table=t)&&decide (h.to∈O)))) []:=by
 refine Cl.ap rfl Tryz.func149 rfl rfl rfl ?_;by_cases u:h.table=t
 ·
  rw[decide_eq_true u,Bool.true_and]
  cases hm:decide (h.to∈O)with
  |true=>
   obtain⟨j,hf,v⟩:=CG (uB hm);have hz:=P8 v
   repeat'(first
|((with_reducible apply aa.aF);(case hp=>exact ak))
|(refine aw ?_)
|((with_reducible apply aa.av);(case hW=>exact rfl);(case hx=>first
|((with_reducible apply af.oC);(case hm|hk|ho=>exact rfl);(case hf=>exact hf);(case hz=>exact hz))
|exact ae))
|((with_reducible apply aa.u0);(case hx=>exact ae))
|fail)
   exact⟨.inr rfl,rfl⟩
  |false=>
   have hf:=u6 (uB hm)
   repeat'(first
|((with_reducible apply aa.aF);(case hp=>exact ak))
|(refine aw ?_)
|((with_reducible apply aa.av);(case hW=>exact rfl);(case hx=>first
|((with_reducible apply af.lk);(case hm|hk|ho=>exact rfl);(case hf=>exact hf);(case hz=>exact rfl))
|exact ae))
|((with_reducible apply aa.u0);(case hx=>exact ae))
|fail)
   exact⟨.inr rfl,rfl⟩
 ·
  rw[decide_eq_false u,Bool.false_and];exact ah
def J1{C:List Hde}{p:Hde->Bool}{c1 c2:AV}(hl:C.length<=140737488351232)(hp:∀x∈C,Cl dP 149 [.t (.agg [.int .i64 x.table,.int .i64 x.eM,.int .i64 x.to]),.t c1,.t c2] [] (.t (.bool (p x))) []):Cl dP 181 [.t (.arr (c7 C)),.t (.fn (.func 149) 0 [c1,c2])] [] (.t (.int .i64 (bB p C 0))) []:=by
 have z:=qX C;refine Cl.ap rfl Tryz.func181 rfl rfl rfl ?_;refine aq ?_;refine az.ind (fun q:Nat=>[(8,.t (.int .i64 (q:Int)))]) (fun q=>q<=C.length/\bB p C 0=bB p (C.drop q) q) (fun q=>C.length - q) 0 rfl (by simp) (fun q D=>?_);obtain⟨h1,h2⟩:=D;rw[h2];rcases Nat.lt_or_ge q C.length with h3|h3
 ·
  obtain⟨e,u⟩:=am h3;have G:=qW u;have v:=hp e (List.mem_of_getElem? u);rw[drop_at u,ly];obtain⟨b,y⟩:∃b,p e=b:=⟨_,rfl⟩;rw[y]at v⊢
  cases b with
  |true=>
   exact ah
  |false=>
   exact ah
 ·
  rw[List.drop_of_length_le h3];exact ah
def Io{C:List Hde}{p:Hde->Bool}{c1 c2:AV}(hl:C.length<=140737488351232)(hp:∀x∈C,Cl dP 149 [.t (.agg [.int .i64 x.table,.int .i64 x.eM,.int .i64 x.to]),.t c1,.t c2] [] (.t (.bool (p x))) []):Cl dP 148 [.t (.arr (c7 C)),.t (.fn (.func 149) 0 [c1,c2])] [] (.t (.bool (C.any p))) []:=by
 have u:=J1 hl hp;rw[<- kF p C 0 (by omega)];refine Cl.ap rfl Tryz.func148 rfl rfl rfl ?_;obtain⟨n,v⟩:∃n,bB p C 0=n:=⟨_,rfl⟩;rw[v]at u⊢;exact ah
set_option maxHeartbeats 4000000
def Code.p0:Code->Code
 | .seq a _=>a
 | .block _ b=>b
 | .loop b=>b
 |c=>c
def Code.p1:Code->Code
 | .seq _ b=>b
 |c=>c
noncomputable def Sk:Code:=match Tryz.f104.body with
 |some c=>Code.p0 (Code.p1 (Code.p1 (Code.p0 (Code.p0 (Code.p1 (Code.p0 (Code.p1 (Code.p1 (Code.p1 (Code.p1 (Code.p1 c)))))))))))
 |none=>.skip
abbrev gX(a0 a2 a3 a4 a5 a7:List (List AV))(tb:List Tb)(hd:List Hde):List AV:=[.arr a0,.arr (bC tb),.arr a2,.arr a3,.arr a4,.arr a5,.arr (c7 hd),.arr a7]
def iW(js:List AV)(O:List Int):Fr:=[.box false 172 (js.map .t),.map false (cP O) (dV O.length),.box false 182 [.lm 1]]
def lS(n:Nat)(q:Int):List (Nat×SV):=[(1,.lp 0 0),(7,.lp 2 0),(116,.t (.int .i64 (n:Int))),(117,.t (.int .i64 q))]
abbrev iZ(M:Nat->Prop)(W:World):Ctx:=⟨M,fun _=>False,fun _=>False,W,fun _=>none⟩
section
variable {M:Nat->Prop} {W:World} {js:List AV} {hd:List Hde} {n:Nat} {O:List Int}
def erase_filter{O:List Int}(hn:O.Nodup){j:Nat}{t:Int}(h:O[j]?=some t):O.eraseIdx j=O.filter fun x=>!decide (x=t):=by
 induction O generalizing j with
 |nil=>simp at h
 |cons x O D=>
  obtain⟨h1,h2⟩:=List.nodup_cons.1 hn
  cases j with
  |zero=>
   simp at h;subst h;rw[List.eraseIdx_cons_zero,List.filter_cons];simp only[decide_true,Bool.not_true,Bool.false_eq_true,if_false];exact(List.filter_eq_self.2 fun y z=>by simp;rintro rfl;exact h1 z).symm
  |succ j=>
   have v:O[j]?=some t:=by simpa using h
   have u:x≠t:=by rintro rfl;exact h1 (List.mem_of_getElem? v)
   rw[List.eraseIdx_cons_succ,List.filter_cons,D h2 v];simp[u]
def CF{t:Int}{O:List Int}(h:t∈O):∃j,dW (.int .i64) (.int .i64 t) (cP O) 0=some (some j)/\O[j]?=some t:=by
 have y:(O.any fun u=>decide (u=t))=true:=uB (decide_eq_true h);refine⟨O.findIdx fun u=>decide (u=t),by rw[u4,if_pos y,Nat.zero_add],?_⟩;have v:(O.findIdx fun u=>decide (u=t))<O.length:=List.findIdx_lt_length_of_exists ⟨t,h,by simp⟩;rw[List.getElem?_eq_getElem v];have:=List.findIdx_getElem (w:=v);simpa using this
def Kc(O:List Int)(j:Nat):(cP O).eraseIdx j=cP (O.eraseIdx j):=by unfold cP;rw[Go.ChangeMaps.map_eraseIdx]
def P9{n j:Nat}(h:j <n):(dV n).eraseIdx j=dV (n - 1):=by unfold dV;rw[List.eraseIdx_replicate,if_pos h]
def Jz{j:Nat}{t:Int}(h:O[j]?=some t):(iW js O).set 1 (.map false ((cP O).eraseIdx j) ((dV O.length).eraseIdx j))=iW js (O.eraseIdx j):=by
 have u:=aC h;rw[Kc,P9 u];unfold iW;rw[List.length_eraseIdx_of_lt u];rfl
structure AY (M:Nat->Prop) (W:World) (js:List AV) (hd:List Hde) (n:Nat) (O:List Int) (L:Ls) (bm r clock:Nat) (kp:List (Nat×Value)) (ds:List Deferred) (m:Nat) (a:Act) (w:World):Prop where
 ex:∃(cur seen:List Int) (ents:Array MapEntry) (stamps:Array Nat) (c0:Nat),k_ hd n O seen cur/\ar dB (iZ M W) (iW js cur) L w/\w.heap[bm]?=some (.map ents clock)/\w.heap[r]?=some (.mapIter (some bm) clock stamps c0)/\clock<=c0/\m=(leftOf ents stamps).size/\∀(j:Nat) (e:MapEntry) (t:Int),ents[j]?=some e->cur[j]?=some t->stamps.contains e.born=true->t∈seen
 size:a.tmps.size=Tryz.f104.ntmps
 ml:a.defers=ds
 kept:Kp kp a
 marks:Marks (iZ M W) w ds
end
def Marks.other{κ:Ctx}{w:World}{ds:List Deferred}{x:Nat}{o z:Obj}(h:Marks κ w ds)(hx:w.heap[x]?=some o)(ho:∀l,o≠.deferred l):Marks κ (w.putObj x z) ds:=by
 obtain⟨⟨y,h1,h2,h3⟩,h4⟩:=h;refine⟨⟨y,h1,h2,fun D u=>⟨(h3 D u).1,?_⟩⟩,h4⟩;have v:D≠x:=fun e=>by subst e;rw[(h3 D u).2]at hx;cases hx;exact ho _ rfl
 exact(World.putObj_heap_other v).trans (h3 D u).2
def KT(es:Array MapEntry)(u:Array Nat)(j:Nat):(leftOf (es.eraseIdxIfInBounds j) u).size<=(leftOf es u).size:=by
 have v:∀x:Array MapEntry,(leftOf x u).size=(x.toList.filter fun e=>!u.contains e.born).length:=fun x=>by
  rw[<- Array.length_toList (xs:=leftOf x u)];unfold leftOf;rw[Array.toList_filter]
 rw[v,v,rU];exact((List.eraseIdx_sublist es.toList j).filter _).length_le
def Marks.drewN{κ:Ctx}{w:World}{ds:List Deferred}(h:Marks κ w ds):Marks κ w.drew ds:=h
section
variable {M:Nat->Prop} {W:World} {a0 a2 a3 a4 a5 a7:List (List AV)} {tb:List Tb} {hd:List Hde} {n k len:Nat} {O:List Int} {q:Int}
def JV(e0:hd.length<=140737488351232)(hI:mP hd n k O){a:Act}{w:World}(hA:At dB (iZ M W) Tryz.f104.ntmps (c9 (lS len q)) (iW (gX a0 a2 a3 a4 a5 a7 tb hd) O) a w){dn:Nat}{Q:Exit->Act->World->Prop}
  (hQ:∀O' a' w',mP hd n (k+1) O'->At dB (iZ M W) Tryz.f104.ntmps (c9 (lS len q)) (iW (gX a0 a2 a3 a4 a5 a7 tb hd) O') a' w'->Q .normal a' w'):Sk.wpIn (Fw none) dn Tryz.prog Q a w:=by
 obtain⟨e4,hn,L,hC,hV⟩:=hA;have h7:SR _ L w (.lp 2 0) (a.tmps.getD 7 undef):=hV 7;have h1:SR _ L w (.lp 0 0) (a.tmps.getD 1 undef):=hV 1;have b7:=QT (k:=.i64) (n:=(len:Int)) (hV 116);have cc:=QT (k:=.i64) (n:=q) (hV 117);obtain⟨g7,aT,fS⟩:=lB h7;obtain⟨g1,cj,fz⟩:=lB h1;obtain⟨D,au,y,V,hb,_⟩:=hC.blk 1 _ rfl;obtain⟨u7,be,bi⟩:=tn (P:=Tryz.prog) (t:=182) (x:=.lm 1) hC (by kernel_rfl) h7
 have be:(Instr.loadAt 182 (a.tmps.getD 7 undef)).run Tryz.prog w=.ok (.map (some D)) w:=by
  cases bi with
  |lm _ r hr=>rw[V]at hr;cases hr;exact be
 refine wpIn_block ?_;refine wpIn_seq ?_;refine wpIn_region_lit ?_;refine jh rfl (fJ rfl be) ?_;have bf:(a.put (some 119) (.map (some D))).eval (.tmp 119)=.map (some D):=fx (by rw[hn];decide);refine jh rfl (fJ rfl (w':=w.alloc (.mapIter (some D) y #[] y)) (v:=.pointer (some ⟨w.heap.size,0,none⟩)) (by rw[bf];exact run_range_map w 182 _ _ D au y Tryz.underlying182 hb)) ?_;have a6:(w.alloc (.mapIter (some D) y #[] y)).heap[w.heap.size]?=some (.mapIter (some D) y #[] y):=heap_alloc_new _ _;have G:Below w.heap.size w (w.alloc (.mapIter (some D) y #[] y)):=(Below.refl _ _).alloc (Nat.le_refl _) _;generalize hr:w.heap.size=r at a6 G⊢;have gj:=(Array.getElem?_eq_some_iff.1 hb).1;have dK:D≠r:=by omega
 have e6:W.heap.size<=r:=by have h0:W.heap.size<=w.heap.size:=hC.size;omega
 generalize gv:w.alloc (.mapIter (some D) y #[] y)=X at a6 G⊢;have I:∀(v u:Value),(((a.put (some 119) v).put (some 120) u)).tmps.size=Tryz.f104.ntmps:=fun v u=>by rw[bR,bR,hn]
 have ab:∀(v u:Value),Kp [(1,.pointer (some ⟨g1,0,none⟩)),(7,.pointer (some ⟨g7,0,none⟩)),(116,.int .i64 (len:Int)),(117,.int .i64 q),(120,u)] ((a.put (some 119) v).put (some 120) u):=fun v u p hp=>by
  simp only[List.mem_cons,List.not_mem_nil,or_false]at hp;rcases hp with rfl|rfl|rfl|rfl|rfl
  ·rw[cg (by simp),cg (by simp)];exact fz
  ·rw[cg (by simp),cg (by simp)];exact fS
  ·rw[cg (by simp),cg (by simp)];exact b7
  ·rw[cg (by simp),cg (by simp)];exact cc
  ·exact fx (by rw[bR,hn];decide)
 have bj:AY M W (gX a0 a2 a3 a4 a5 a7 tb hd) hd n O L D r y [(1,.pointer (some ⟨g1,0,none⟩)),(7,.pointer (some ⟨g7,0,none⟩)),(116,.int .i64 (len:Int)),(117,.int .i64 q),(120,.pointer (some ⟨r,0,none⟩))] a.defers (leftOf au #[]).size ((a.put (some 119) (.map (some D))).put (some 120) (.pointer (some ⟨r,0,none⟩))) X:=
  ⟨⟨O,[],au,#[],y,k_.start,hC.later (by rw[hr];exact G),(G.block _ (by omega)).trans hb,a6,Nat.le_refl _,rfl,fun j e t _ _ h=>by simp at h⟩,I _ _,by rw[put_defers,put_defers],ab _ _,e4.below (by rw[hr];exact G)⟩
 show Code.wpIn _ _ _ _ _ _ _
 refine wpIn_block ?_;refine ue (AY M W (gX a0 a2 a3 a4 a5 a7 tb hd) hd n O L D r y [(1,.pointer (some ⟨g1,0,none⟩)),(7,.pointer (some ⟨g7,0,none⟩)),(116,.int .i64 (len:Int)),(117,.int .i64 q),(120,.pointer (some ⟨r,0,none⟩))] a.defers) _ bj ?_;clear bj ab I bi be bf a6 G hV;intro m b Y ⟨⟨z,aG,J,st,c0,hP,aR,bo,dF,et,e3,dY⟩,I,cR,ab,df⟩;obtain⟨s1,s2,s3,s4,ea⟩:=aR.vF (i:=1) rfl V bo;have b3:∀(d:Nat) (v:Value),d <Tryz.f104.ntmps->(b.put (some d) v).eval (.tmp d)=v:=fun d v hd=>fx (by rw[I];exact hd);have ap:b.eval (.tmp 120)=.pointer (some ⟨r,0,none⟩):=ab (120,.pointer (some ⟨r,0,none⟩)) (by simp)
 have back:∀{O':List Int} {a':Act} {w':World},ar dB (iZ M W) (iW (gX a0 a2 a3 a4 a5 a7 tb hd) O') L w'->a'.tmps.size=Tryz.f104.ntmps->Kp [(1,.pointer (some ⟨g1,0,none⟩)),(7,.pointer (some ⟨g7,0,none⟩)),(116,.int .i64 (len:Int)),(117,.int .i64 q),(120,.pointer (some ⟨r,0,none⟩))] a'->Marks (iZ M W) w' a'.defers->At dB (iZ M W) Tryz.f104.ntmps (c9 (lS len q)) (iW (gX a0 a2 a3 a4 a5 a7 tb hd) O') a' w':=fun{O' a' w'} hc h1 h2 h3=>by
  refine⟨h3,h1,L,hc,oE (tm:=fun t=>a'.tmps.getD t undef) _ fun p hp=>?_⟩;unfold lS at hp;simp only[List.mem_cons,List.not_mem_nil,or_false]at hp;rcases hp with rfl|rfl|rfl|rfl
  ·show SR _ _ _ _ (a'.tmps.getD 1 undef);rw[h2 (1,.pointer (some ⟨g1,0,none⟩)) (by simp)];exact .lp _ _ _ cj
  ·show SR _ _ _ _ (a'.tmps.getD 7 undef);rw[h2 (7,.pointer (some ⟨g7,0,none⟩)) (by simp)];exact .lp _ _ _ aT
  ·show SR _ _ _ _ (a'.tmps.getD 116 undef);rw[h2 (116,.int .i64 (len:Int)) (by simp)];exact .t _ _ (.int _ _)
  ·show SR _ _ _ _ (a'.tmps.getD 117 undef);rw[h2 (117,.int .i64 q) (by simp)];exact .t _ _ (.int _ _)
 refine wpIn_seq ?_;refine wpIn_region_lit ?_;rcases run_next_at (P:=Tryz.prog) Y _ r D y c0 st J y dF bo ea.lt et with⟨h0,ag⟩|⟨e,he,w1,aF,ag⟩
 ·
  refine jh rfl (fJ rfl (by rw[ap];exact ag)) ?_;refine jh rfl (fJ rfl (v:=.bool false) (w':=Y) (by rw[b3 121 _ (by decide)];rfl)) ?_;show Code.wpIn _ _ _ _ _ _ _
  refine wpIn_seq ?_;refine wpIn_cond_split (t:=false) (fx (by rw[bR,I];decide)) (fun h=>by cases h) (fun _=>?_);refine wpIn_exit ?_;refine hQ z _ _ (hI.pass hP fun t ht=>?_) (back aR (by rw[bR,bR,I]) ((ab.put (by simp)).put (by simp)) (by rw[put_defers,put_defers,cR];exact df));obtain⟨j,hj⟩:=List.mem_iff_getElem?.1 ht;have aY:j <J.size:=by rw[s1];simpa[cP]using aC hj
  have eM:J[j]?=some J[j]:=Array.getElem?_eq_getElem aY;exact dY j _ t eM hj (KU h0 (by simp))
 ·
  obtain⟨bt,gr⟩:=mem_left he;obtain⟨j,hj⟩:=List.mem_iff_getElem?.1 bt;have hj:J[j]?=some e:=by simpa using hj
  have aY:j <z.length:=by
   have:=(Array.getElem?_eq_some_iff.1 hj).1;rw[s1]at this;simpa[cP]using this
  obtain⟨t,ht⟩:=am aY;have c4:e.key=.int .i64 t:=ub (s3 j _ e (by unfold cP;rw[List.getElem?_map,ht];rfl) hj);have eR:e.val=.bool true:=kG (s4 j _ e (tX aY) hj);have bd:w1.heap[r]?=some (.mapIter (some D) y st c0):=by rcases aF with rfl|rfl <;>exact dF
  have cp:w1.heap[D]?=some (.map J y):=by rcases aF with rfl|rfl <;>exact bo
  have cf:ar dB (iZ M W) (iW (gX a0 a2 a3 a4 a5 a7 tb hd) z) L w1:=by rcases aF with rfl|rfl;exact aR;exact aR.later (Below.drew (Below.refl _ _))
  have dc:Marks (iZ M W) w1 a.defers:=by rcases aF with rfl|rfl <;>exact df
  obtain⟨Z,hZ⟩:∃Z,Go.ChangeMaps.setBlock w1 r (.mapIter (some D) y (st.push e.born) y)=Z:=⟨_,rfl⟩;have av:w1.putObj r (.mapIter (some D) y (st.push e.born) y)=Z:=hZ;have al:ar dB (iZ M W) (iW (gX a0 a2 a3 a4 a5 a7 tb hd) z) L Z:=by rw[<- av];exact cf.lq (Lq.put e6 bd rfl)
  have e2:Marks (iZ M W) Z a.defers:=by rw[<- av];exact dc.other bd (fun l h=>by cases h)
  have bH:Z.heap[r]?=some (.mapIter (some D) y (st.push e.born) y):=by rw[<- av];exact World.putObj_heap_same (Array.getElem?_eq_some_iff.1 bd).1
  have ao:Z.heap[D]?=some (.map J y):=by rw[<- av];exact(World.putObj_heap_other dK).trans cp
  rw[hZ]at ag;clear hZ av cf dc bd cp aF;refine jh rfl (fJ rfl (by rw[ap];exact ag)) ?_;refine jh rfl (fJ rfl (v:=.bool true) (w':=Z) (by rw[b3 121 _ (by decide)];rfl)) ?_;show Code.wpIn _ _ _ _ _ _ _
  refine wpIn_seq ?_;refine wpIn_cond_split (t:=true) (fx (by rw[bR,I];decide)) (fun _=>?_) (fun h=>by cases h);refine wpIn_skip ?_;show Code.wpIn _ _ _ _ _ _ _
  refine wpIn_block ?_;refine wpIn_seq ?_;refine wpIn_region_lit ?_;have dj:(J.toList.map (·.born)).Nodup:=ea.up.imp fun h=>Nat.ne_of_lt h;refine jh rfl (fJ rfl (v:=.tuple #[e.key,e.val]) (w':=Z) ?_) ?_
  ·have bk:((b.put (some 121) (.tuple #[.bool true,e.key,e.val])).put (some 122) (.bool true)).eval (.tmp 120)=.pointer (some ⟨r,0,none⟩):=(cg (by simp)).trans ((cg (by simp)).trans ap);rw[bk];exact run_entry_at Z r D y st J y e bH ao bt dj
  have ei:ar dB ⟨fun _=>True,fun _=>False,fun _=>False,Z,fun _=>none⟩ [] (fun _=>none) Z:=al.pure _ fun _ _=>trivial;have hT:∀b,MA (fun _=>True) [] (fun _=>none) b:=fun b=>⟨trivial,fun⟨i,_,_,h,_⟩=>by cases h⟩;obtain⟨t1,t2,t3,t4,_⟩:=al.vF (i:=1) rfl V ao
  have vm:VR (MA (fun _=>True) [] fun _=>none) Z (.mp (cP z) (mM z.length)) (.map (some D)):=.mp D _ _ J y (Array.getElem?_eq_some_iff.1 ao).1 (hT _) ao t1 (by rw[t2];simp[dV,mM]) (fun j x u U hu=>VR.on (Nat.le_refl _) (fun b _ _=>⟨hT b,rfl⟩) (t3 j x u U hu)) fun j x u U hu=>by
   have ad:=aC U;unfold mM at U ad;rw[List.length_replicate]at ad;rw[List.getElem?_replicate,if_pos ad]at U;cases U;have:=kG (t4 j _ u (tX ad) hu);rw[this];exact .bool true
  have v7:SR (MA (fun _=>True) [] fun _=>none) (fun _=>none) Z (.t (.tp [.mp (cP z) (mM z.length)])) (.pointer (some ⟨g7,0,none⟩)):=by
   obtain⟨u,hu,e8⟩:=xB al (i:=2) (j:=0) (x:=.lm 1) rfl aT rfl
   have bZ:u=.map (some D):=by
    cases e8 with|lm _ r' h=>rw[V]at h;cases h;rfl
   subst bZ;refine .t _ _ (.tp g7 0 _ (fun _=>.map (some D)) (by simp) (al.new 2 _ g7 _ aT (.one rfl) rfl).1 (hT _) (fun j hj=>?_) fun j x U=>?_)
   ·have:j=0:=by simp at hj;omega
    subst this;exact hu
   ·match j,U with
    |0,U=>cases U;exact vm
  have v1:SR (MA (fun _=>True) [] fun _=>none) (fun _=>none) Z (.t (.tp (gX a0 a2 a3 a4 a5 a7 tb hd))) (.pointer (some ⟨g1,0,none⟩)):=
   .t _ _ ((nH al (A:=MA (fun _=>True) [] fun _=>none) (fun b _=>hT b) deep).1 (.lp 0 0) _ _ rfl (fun _ _ _ b _ _=>hT b) (.lp _ _ _ cj))
  refine Eg (i:=1) (kp:=[(1,.pointer (some ⟨g1,0,none⟩)),(7,.pointer (some ⟨g7,0,none⟩)),(116,.int .i64 (len:Int)),(117,.int .i64 q),(120,.pointer (some ⟨r,0,none⟩))]) (ds:=a.defers) (n:=Tryz.f104.ntmps) (K:=fun e r=>e 1=.t (.tp (gX a0 a2 a3 a4 a5 a7 tb hd))/\e 7=.t (.tp [.mp (cP z) (mM z.length)])/\e 10=.lp 0 0/\r=[.box false 3 [.t (.int .i64 t)]]) (env:=c9 [(1,.t (.tp (gX a0 a2 a3 a4 a5 a7 tb hd))),(7,.t (.tp [.mp (cP z) (mM z.length)])),(123,.t (.aN [.int .i64 t,.bool true]))]) (fr:=[]) fh ?_ (by simp) (by kernel_rfl) (by simp) (((ab.put (by simp)).put (by simp)).put (by simp)) (by rw[put_defers,put_defers,put_defers,cR]) (by rw[bR,bR,bR,I]) ei (oE (tm:=fun t=>(((b.put (some 121) (.tuple #[.bool true,e.key,e.val])).put (some 122) (.bool true)).put (some 123) (.tuple #[e.key,e.val])).tmps.getD t undef) _ fun p hp=>?_) fun gd fr1 L1 b1 Z1 ej e1 ey e5 ef bl=>?_
  ·
   refine aq ?_;exact⟨rfl,rfl,rfl,rfl⟩
  ·have k3:=((ab.put (d:=some 121) (v:=.tuple #[.bool true,e.key,e.val]) (by simp)).put (d:=some 122) (v:=.bool true) (by simp)).put (d:=some 123) (v:=.tuple #[e.key,e.val]) (by simp);simp only[List.mem_cons,List.not_mem_nil,or_false]at hp;rcases hp with rfl|rfl|rfl
   ·show SR _ _ _ _ (Array.getD _ 1 undef);rw[k3 (1,.pointer (some ⟨g1,0,none⟩)) (by simp)];exact v1
   ·show SR _ _ _ _ (Array.getD _ 7 undef);rw[k3 (7,.pointer (some ⟨g7,0,none⟩)) (by simp)];exact v7
   ·show SR _ _ _ _ (Array.getD _ 123 undef)
    rw[fx (by rw[bR,bR,I];decide),c4,eR];refine .t _ _ (.aN _ _ rfl fun j x u U hu=>?_)
    match j,U,hu with
    |0,U,hu=>cases U;simp at hu;rw[<- hu];exact .int _ _
    |1,U,hu=>cases U;simp at hu;rw[<- hu];exact .bool _
  obtain⟨y1,y7,fZ,rfl⟩:=ej;show Code.wpIn _ _ _ _ _ _ _
  refine wpIn_seq ?_;refine wpIn_region_lit ?_;have kc:=Io (C:=hd) (p:=fun h=>decide (h.table=t)&&decide (h.to∈z)) e0 (fun h _=>JT h t z);have bS:kY hd z t=!(hd.any fun h=>decide (h.table=t)&&decide (h.to∈z)):=rfl;obtain⟨bb,en⟩:∃bb,(hd.any fun h=>decide (h.table=t)&&decide (h.to∈z))=bb:=⟨_,rfl⟩;rw[en]at kc bS;refine Eg (i:=0) (kp:=[(1,.pointer (some ⟨g1,0,none⟩)),(7,.pointer (some ⟨g7,0,none⟩)),(116,.int .i64 (len:Int)),(117,.int .i64 q),(120,.pointer (some ⟨r,0,none⟩))]) (ds:=a.defers) (n:=Tryz.f104.ntmps) (K:=fun e r=>e 130=.t (.bool (!bb))/\e 10=.lp 0 0/\r=[.box false 3 [.t (.int .i64 t)]]) (env:=c9 [(1,.t (.tp (gX a0 a2 a3 a4 a5 a7 tb hd))),(7,.t (.tp [.mp (cP z) (mM z.length)])),(10,.lp 0 0)]) fh ?_ (by simp) (by kernel_rfl) (by simp) e1 ey e5 ef (oE (tm:=fun t=>b1.tmps.getD t undef) _ fun p hp=>?_) fun gf gg L2 b2 Z2 ek bu cC a1 an cl=>?_
  ·
   refine aq ?_;exact⟨rfl,rfl,rfl⟩
  ·simp only[List.mem_cons,List.not_mem_nil,or_false]at hp;rcases hp with rfl|rfl|rfl
   ·rw[<- y1];exact bl 1
   ·rw[<- y7];exact bl 7
   ·rw[<- fZ];exact bl 10
  obtain⟨eb,gb,rfl⟩:=ek;have aX:Below Z.heap.size Z Z2:=⟨an.os,an.tape,an.output,an.size,fun k hk=>an.kept k hk fun h=>h⟩;have aM:ar dB (iZ M W) (iW (gX a0 a2 a3 a4 a5 a7 tb hd) z) L Z2:=al.later aX;have ax:Z2.heap[D]?=some (.map J y):=(aX.block _ (Array.getElem?_eq_some_iff.1 ao).1).trans ao;have dr:Z2.heap[r]?=some (.mapIter (some D) y (st.push e.born) y):=(aX.block _ (Array.getElem?_eq_some_iff.1 bH).1).trans bH;have dd:Marks (iZ M W) Z2 a.defers:=e2.below aX;have aA:(leftOf J (st.push e.born)).size <m:=by rw[e3];exact left_shrinks J st e he
  have aB:∀(j':Nat) (e':MapEntry) (t':Int),J[j']?=some e'->z[j']?=some t'->(st.push e.born).contains e'.born=true->t'∈t::aG:=by
   intro j' e' t' q1 q2 q3;rw[contains_push,Bool.or_eq_true]at q3;rcases q3 with q3|q3
   ·exact List.mem_cons_of_mem _ (dY j' e' t' q1 q2 q3)
   ·have eL:e'=e:=born_inj dj (by rw[Array.mem_toList_iff];exact Array.mem_of_getElem? q1) bt (by simpa using q3);have c_:e'.key=.int .i64 t':=ub (s3 j' _ e' (by unfold cP;rw[List.getElem?_map,q2];rfl) q1);rw[eL,c4]at c_;cases c_;exact List.mem_cons_self
  have b5:b2.eval (.tmp 130)=.bool (!bb):=kG (by rw[<- eb];exact cl 130);have e7:b2.tmps.getD 7 undef=.pointer (some ⟨g7,0,none⟩):=bu (7,.pointer (some ⟨g7,0,none⟩)) (by simp);have b4:=cl 10;rw[gb]at b4;show Code.wpIn _ _ _ _ _ _ _
  refine wpIn_cond_split b5 (fun er=>?_) (fun eo=>?_)
  ·
   obtain⟨u,e9,fi⟩:=tn (P:=Tryz.prog) (t:=182) (s:=.lp 2 0) (x:=.lm 1) (v:=b2.tmps.getD 7 undef) aM (by kernel_rfl) (by rw[e7];exact .lp _ _ _ aT)
   have bZ:u=.map (some D):=by
    cases fi with|lm _ r' h=>rw[V]at h;cases h;rfl
   subst bZ;obtain⟨u,fl,fm⟩:=tn (P:=Tryz.prog) (t:=3) (x:=.t (.int .i64 t)) an (by kernel_rfl) b4;have ft:u=.int .i64 t:=QT fm;subst ft;obtain⟨jf,hf,c8⟩:=CF (List.mem_of_getElem? ht);have ev:z.Nodup:=hP.sub.nodup hI.xM;refine wpIn_region_lit ?_;refine jh rfl (fJ rfl (v:=.map (some D)) (w':=Z2) e9) ?_;refine jh rfl (fJ rfl (v:=.int .i64 t) (w':=Z2) ?_) ?_
   ·have:(b2.put (some 131) (.map (some D))).eval (.tmp 10)=b2.tmps.getD 10 undef:=cg (by simp);rw[this];exact fl
   refine jh rfl (Jf rfl rfl (w':=fc Z2 D (.map (J.eraseIdxIfInBounds jf) y)) ?_) ?_
   ·have q1:((b2.put (some 131) (.map (some D))).put (some 132) (.int .i64 t)).eval (.tmp 131)=.map (some D):=(cg (by simp)).trans (fx (by rw[a1];decide));have q2:((b2.put (some 131) (.map (some D))).put (some 132) (.int .i64 t)).eval (.tmp 132)=.int .i64 t:=fx (by rw[bR,a1];decide);rw[q1,q2];exact N6 (e:=4) (d:=.int .i64) (ka:=.int .i64 t) (i:=1) (j:=jf) aM (by kernel_rfl) rfl V ax (.int _ _) hf
   have ch:=(aM.erase (i:=1) (j:=jf) rfl V ax).1;rw[Jz c8]at ch;have ct:=(Array.getElem?_eq_some_iff.1 ax).1;show∃n',n' <m/\_
   refine⟨(leftOf (J.eraseIdxIfInBounds jf) (st.push e.born)).size,Nat.lt_of_le_of_lt (KT _ _ _) aA,⟨z.eraseIdx jf,t::aG,J.eraseIdxIfInBounds jf,st.push e.born,y,?_,ch,wm ct,(World.putObj_heap_other (Ne.symm dK)).trans dr,Nat.le_refl _,rfl,?_⟩,by rw[bR,bR,bR,a1],by rw[put_defers,put_defers,put_defers,cC],((bu.put (by simp)).put (by simp)).put (by simp),dd.other ax (fun l h=>by cases h)⟩
   ·rw[erase_filter ev c8];exact hP.drop (by rw[bS];exact er)
   ·intro j' e' t' q1 q2 q3;have q1:=xY q1;have q2:=xZ q2;by_cases hq:j' <jf
    ·rw[if_pos hq]at q1 q2;exact aB _ _ _ q1 q2 q3
    ·rw[if_neg hq]at q1 q2;exact aB _ _ _ q1 q2 q3
  ·
   refine wpIn_skip ?_;show∃n',n' <m/\_
   exact⟨_,aA,⟨z,t::aG,J,st.push e.born,y,hP.gY (by rw[bS];exact eo),aM,ax,dr,Nat.le_refl _,rfl,aB⟩,a1,cC,bu,dd⟩
end
set_option maxRecDepth 100000
set_option maxHeartbeats 16000000
def lL:List Hde->List Int->List Int
 |[],O=>O
 |h::l,O=>lL l (if h.table∈O then O else O++[h.table])
def lM(l:List Hde)(q:Nat):List Int:=lL (l.take q) []
theorem Ec:∀(l r:List Hde) (O:List Int),lL (l++r) O=lL r (lL l O)
 |[],r,O=>rfl
 |h::l,r,O=>Ec l r _
def Mk{l:List Hde}{q:Nat}{h:Hde}(hh:l[q]?=some h):lM l (q+1)=if h.table∈lM l q then lM l q else lM l q++[h.table]:=by
 unfold lM;rw[List.take_add_one,hh,Ec];rfl
theorem Ee:∀(l:List Hde) (O:List Int),O.Nodup->(lL l O).Nodup
 |[],O,h=>h
 |x::l,O,h=>Ee l _ (by
  split
  ·exact h
  ·rename_i y;exact List.nodup_append.2 ⟨h,by simp,fun a v b u=>by simp at u;subst u;rintro rfl;exact y v⟩)
theorem Ed:∀(l:List Hde) (O:List Int) (t:Int),t∈lL l O↔t∈O\/∃h∈l,h.table=t
 |[],O,t=>by simp[lL]
 |x::l,O,t=>by
  unfold lL;rw[Ed l];split
  ·rename_i y;constructor
   ·rintro(h|⟨g,u,v⟩)
    ·exact .inl h
    ·exact .inr ⟨g,by simp[u],v⟩
   ·rintro(h|⟨g,u,v⟩)
    ·exact .inl h
    ·rcases List.mem_cons.1 u with rfl|u
     ·exact .inl (v ▸ y)
     ·exact .inr ⟨g,u,v⟩
  ·constructor
   ·rintro(h|⟨g,u,v⟩)
    ·rcases List.mem_append.1 h with h|h
     ·exact .inl h
     ·simp at h;exact .inr ⟨x,by simp,h.symm⟩
    ·exact .inr ⟨g,by simp[u],v⟩
   ·rintro(h|⟨g,u,v⟩)
    ·exact .inl (by simp[h])
    ·rcases List.mem_cons.1 u with rfl|u
     ·exact .inl (by simp[v])
     ·exact .inr ⟨g,u,v⟩
theorem zq:∀(l:List Hde) (O:List Int),(lL l O).length<=O.length+l.length
 |[],O=>Nat.le_refl _
 |x::l,O=>by
  unfold lL;by_cases u:x.table∈O
  ·rw[if_pos u];have:=zq l O;simp;omega
  ·rw[if_neg u];have:=zq l (O++[x.table]);simp at this⊢;omega
def Ml{m:Md}(hok:m.aG.all (eN m)=true):mP m.aG m.tables.length 0 (lM m.aG m.aG.length):=by
 have y:∀t,t∈lM m.aG m.aG.length↔∃h∈m.aG,h.table=t:=fun t=>by unfold lM;rw[List.take_length,Ed];simp
 refine⟨Ee _ _ List.nodup_nil,fun t G=>?_,fun _=>?_,fun h v z x I=>?_⟩
 ·obtain⟨h,v,rfl⟩:=(y t).1 G;have:=List.all_eq_true.1 hok h v;unfold eN qY at this;simp only[Bool.and_eq_true,decide_eq_true_eq]at this;omega
 ·have:=zq (m.aG.take m.aG.length) [];rw[List.take_length]at this;unfold lM;rw[List.take_length];simpa using this
 ·obtain⟨g,D,u,_⟩:=Ea v z I;exact(y x).2 ⟨g,D,u⟩
def CO{σ:Nat->Option Nat}{ks:List AV}{n:Nat}{b v:Lb}{bs u:Fr}(hb:b=v)(h:bs=u):(b::Lb.map false ks (SV.cC σ (dV n))::bs)=v::Lb.map false ks (dV n)::u:=by rw[AK,rT,hb,h]
def tx(i n:Int):Cl dP 140 [.t (.int .i64 i),.t (.int .i64 n)] [] (.t (.bool (decide (0<=i)&&decide (i <n)))) []:=by
 refine Cl.ap rfl Tryz.func140 rfl rfl rfl ?_;exact ah
def JU{a0 a2 a3 a4 a5 a7:List (List AV)}{m:Md}(hT:m.tables.length<=17592186044416)(hH:m.aG.length<=17592186044416):gR Tryz.prog 104/\∀(κ:Ctx) (w:World) (us:Array Value),ar dB κ [] κ.L w->κ.W=w->us.size=[AV.agg (gX a0 a2 a3 a4 a5 a7 m.tables m.aG)].length->(∀(j:Nat) (x:AV) (u:Value),[AV.agg (gX a0 a2 a3 a4 a5 a7 m.tables m.aG)][j]?=some x->us[j]?=some u->VR (MA κ.M [] κ.L) w x u)->
  Calls Tryz.prog 104 us w fun e w'=>∃v L',e=.returned v/\ar dB κ [] L' w'/\SR (MA κ.M [] L') L' w' (.t (.bool (gh m))) v:=by
 have ax:=qX m.aG;have aA:=fT m.tables;refine JO Tryz.func104 rfl (by decide) (show(1:Nat)<=Tryz.f104.ntmps by decide) (by decide) fun M W hM=>?_;show HW dB (iZ M W) _ dP.P _ (kR [.t (.agg [.arr a0,.arr (bC m.tables),.arr a2,.arr a3,.arr a4,.arr a5,.arr (c7 m.aG),.arr a7])]) [] _
 refine HW.ev (f:=104) fh ?_ (by kernel_rfl);refine aq ?_;refine HW.ev (f:=104) fh ?_ (by kernel_rfl);by_cases ad:m.aG.length<=12
 ·
  have e0:gh m=((m.aG.drop 0).all (eN m)&&(m.aG.drop 0).all fun h=>!b_ m.aG m.tables.length h.to h.table):=by unfold gh;simp[ad]
  obtain⟨Y,hY⟩:∃Y,((m.aG.drop 0).all fun h=>!b_ m.aG m.tables.length h.to h.table)=Y:=⟨_,rfl⟩;rw[e0,hY];refine aq ?_;refine HW.ev (f:=104) fh ?_ (by kernel_rfl);refine aq ?_;refine az.ind (fun q:Nat=>[(20,.t (.int .i64 (q:Int)))]) (fun q=>q<=m.aG.length/\(m.aG.drop 0).all (eN m)=(m.aG.drop q).all (eN m)) (fun q=>m.aG.length - q) 0 rfl ⟨by omega,rfl⟩ (fun q hq=>?_);obtain⟨h1,h2⟩:=hq;rw[h2];rcases Nat.lt_or_ge q m.aG.length with h3|h3
  ·
   obtain⟨h,hh⟩:=am h3;have ao:=qW hh;have I:=iT (eN m) hh;by_cases D:0<=h.table/\h.table <m.tables.length/\0<=h.to/\h.to <m.tables.length/\h.table≠h.to
   ·
    obtain⟨t,ht⟩:=am (xs:=m.tables) (k:=h.table.toNat) (by omega);obtain⟨u,hu⟩:=am (xs:=m.tables) (k:=h.to.toNat) (by omega);have aN:=fB ht;have aR:=fB hu;have aB:=aW t.au;have aM:=aW u.au;have G:=CV D ht hu;obtain⟨a1,a2,a3,a4,a5⟩:=D;have k1:=tx h.table (m.tables.length:Int);have k2:=tx h.to (m.tables.length:Int);have k3:=tx h.eM (t.au.length:Int);rw[decide_eq_true a1,decide_eq_true a2,Bool.true_and]at k1;rw[decide_eq_true a3,decide_eq_true a4,Bool.true_and]at k2;by_cases hB:(0<=h.eM/\h.eM <t.au.length)/\u.au.length=1
    ·
     obtain⟨⟨b1,b2⟩,b3⟩:=hB;rw[decide_eq_true b1,decide_eq_true b2,Bool.true_and]at k3;obtain⟨y,hy⟩:=Du b3;obtain⟨z,hz⟩:=am (xs:=t.au) (k:=h.eM.toNat) (by omega);have aT:(aL u.au)[0]?=some [.int .i64 y]:=bg (by rw[hy];rfl);have aX:=bg hz;have ey:u.au.getD 0 0=y:=by rw[hy];rfl
     rw[ey,fL hz]at G;by_cases hP:t.kind=0/\u.kind=0/\y=z
     ·
      have ab:eN m h=true:=G.2 ⟨hP.1,hP.2.1,⟨b1,b2⟩,b3,hP.2.2⟩;rw[ab,Bool.true_and]at I;obtain⟨p1,p2,p3⟩:=hP;rw[I];exact ah
     ·
      have J:eN m h=false:=by rw[<- Bool.not_eq_true,G];exact fun h'=>hP ⟨h'.1,h'.2.1,h'.2.2.2.2⟩
      rw[I,J,Bool.false_and,Bool.false_and]
      repeat'(first
|(refine a8 ?_)
|((with_reducible apply aa.gA)<;>intro hq)
|((with_reducible apply aa.fz)<;>intro hq)
|(refine aw ?_)
|((with_reducible apply ay.u);(case hfl=>kernel_rfl);(case hx=>exact ae))
|((with_reducible apply aa.av);(case hW=>exact rfl);(case hx=>first
|(exact ai k2)
|(exact ai k3)
|exact ae))
|((with_reducible apply aa.u0);(case hx=>first
|(exact ai k1)
|exact ae))
|fail)
      all_goals first
       |exact fun a w D=>⟨_,_,_,.inr rfl,D,rfl,rfl⟩
       |(exfalso;apply hP;refine⟨?_,?_,?_⟩<;>first|assumption|omega)
    ·
     have J:eN m h=false:=by rw[<- Bool.not_eq_true,G];exact fun h'=>hB ⟨h'.2.2.1,h'.2.2.2.1⟩
     rw[I,J,Bool.false_and,Bool.false_and];obtain⟨b,hb⟩:∃b,(decide (0<=h.eM)&&decide (h.eM <(t.au.length:Int)))=b:=⟨_,rfl⟩;rw[hb]at k3
     cases b with
     |false=>
      repeat'(first
|(refine a8 ?_)
|((with_reducible apply aa.gA)<;>intro hq)
|((with_reducible apply aa.fz)<;>intro hq)
|(refine aw ?_)
|((with_reducible apply ay.u);(case hfl=>kernel_rfl);(case hx=>exact ae))
|((with_reducible apply aa.av);(case hW=>exact rfl);(case hx=>first
|(exact ai k2)
|(exact ai k3)
|exact ae))
|((with_reducible apply aa.u0);(case hx=>first
|(exact ai k1)
|exact ae))
|fail)
      all_goals exact fun a w D=>⟨_,_,_,.inr rfl,D,rfl,rfl⟩
     |true=>
      have b3:u.au.length≠1:=fun e=>hB ⟨by simpa using hb,e⟩
      repeat'(first
|(refine a8 ?_)
|((with_reducible apply aa.gA)<;>intro hq)
|((with_reducible apply aa.fz)<;>intro hq)
|(refine aw ?_)
|((with_reducible apply ay.u);(case hfl=>kernel_rfl);(case hx=>exact ae))
|((with_reducible apply aa.av);(case hW=>exact rfl);(case hx=>first
|(exact ai k2)
|(exact ai k3)
|exact ae))
|((with_reducible apply aa.u0);(case hx=>first
|(exact ai k1)
|exact ae))
|fail)
      all_goals exact fun a w D=>⟨_,_,_,.inr rfl,D,rfl,rfl⟩
   ·
    have J:=CU D;rw[I,J,Bool.false_and,Bool.false_and];have k1:=tx h.table (m.tables.length:Int);have k2:=tx h.to (m.tables.length:Int);obtain⟨b1,V⟩:∃b,(decide (0<=h.table)&&decide (h.table <(m.tables.length:Int)))=b:=⟨_,rfl⟩;obtain⟨b2,Z⟩:∃b,(decide (0<=h.to)&&decide (h.to <(m.tables.length:Int)))=b:=⟨_,rfl⟩;rw[V]at k1;rw[Z]at k2
    cases b1 with
    |false=>
     refine aq ?_
     all_goals exact fun a w D=>⟨_,_,_,.inr rfl,D,rfl,rfl⟩
    |true=>cases b2 with
     |false=>
      refine aq ?_
      all_goals exact fun a w D=>⟨_,_,_,.inr rfl,D,rfl,rfl⟩
     |true=>
      simp only[Bool.and_eq_true,decide_eq_true_eq]at V Z;have he:h.table=h.to:=Classical.byContradiction fun he=>D ⟨V.1,V.2,Z.1,Z.2,he⟩;refine aq ?_
      all_goals exact fun a w D=>⟨_,_,_,.inr rfl,D,rfl,rfl⟩
  ·
   have ab:m.aG.all (eN m)=true:=by rw[List.drop_zero]at h2;rw[h2,gT _ h3]
   rw[gT _ h3,Bool.true_and];refine aq ?_;refine HW.ev (f:=104) fh ?_ (by kernel_rfl);refine aq ?_;refine HW.ev (f:=104) fh ?_ (by kernel_rfl);refine aq ?_;refine az.c8 (fun q:Nat=>[(105,.t (.int .i64 (q:Int)))]) (fun q=>iW [.arr a0,.arr (bC m.tables),.arr a2,.arr a3,.arr a4,.arr a5,.arr (c7 m.aG),.arr a7] (lM m.aG q)) (fun q=>q<=m.aG.length) (fun q=>m.aG.length - q) 0 rfl rfl (by omega) (fun q h1=>?_);rcases Nat.lt_or_ge q m.aG.length with h3|h3
   ·
    obtain⟨h,hh⟩:=am h3;have ao:=qW hh;have U:=Mk hh;obtain⟨O,hO⟩:∃O,lM m.aG q=O:=⟨_,rfl⟩;rw[hO]at U⊢;by_cases hm:h.table∈O
    ·
     rw[if_pos hm]at U;obtain⟨j,hf,hj⟩:=CF hm;have hvs:=P_ (n:=O.length) (j:=j)
     repeat'(first
|((with_reducible apply aa.aF);(case hp=>exact ak))
|(refine aw ?_)
|((with_reducible apply aa.u0);(case hx=>first
|((with_reducible apply af.LR);(case hs=>exact fun _=>rfl);(case hm|ha|hk|hd|hy|hb=>exact rfl);(case hf=>exact hf);(case hvs=>exact hvs);(case hfr=>exact leq))
|exact ae))
|fail)
     exact⟨q+1,rfl,by rw[U];exact CO rfl rfl,by omega,by omega⟩
    ·
     rw[if_neg hm]at U;have hf:=u6 (uB (decide_eq_false hm));have hks:=Kd (N:=O) (s:=h.table);have hvs:=w_ O.length
     repeat'(first
|((with_reducible apply aa.aF);(case hp=>exact ak))
|(refine aw ?_)
|((with_reducible apply aa.u0);(case hx=>first
|((with_reducible apply af.pT);(case hs=>exact fun _=>rfl);(case hm|ha|hk|hd|hy|hb=>exact rfl);(case hf=>exact hf);(case hks=>exact hks);(case hvs=>exact hvs);(case hfr=>exact leq))
|exact ae))
|fail)
     exact⟨q+1,rfl,by rw[U];unfold iW;rw[List.length_append];exact CO rfl rfl,by omega,by omega⟩
   ·
    obtain rfl:q=m.aG.length:=by omega
    refine aq ?_;refine HW.seq ?_;refine HW.ev (f:=104) fh ?_ (by kernel_rfl);refine aq ?_;refine HW.oP (lS m.aG.length (0:Nat)) (fun p hp=>by unfold lS at hp;simp only[List.mem_cons,List.not_mem_nil,or_false]at hp;rcases hp with rfl|rfl|rfl|rfl <;>rfl) ?_;refine HW.block ?_;refine HW.loop (fun k e r=>∃(q:Nat) (O:List Int),k=m.aG.length - q/\q<=m.aG.length/\e=c9 (lS m.aG.length (q:Int))/\r=iW (gX a0 a2 a3 a4 a5 a7 m.tables m.aG) O/\mP m.aG m.tables.length q O) m.aG.length ⟨0,_,by omega,by omega,rfl,rfl,Ml ab⟩ ?_;rintro k e r ⟨q,O,rfl,hq,rfl,rfl,hI⟩;refine HW.ev (f:=104) fh ?_ (by kernel_rfl);rcases Nat.lt_or_ge q m.aG.length with h3|h3
    ·
     refine aq ?_;refine HW.ev (f:=104) fh ?_ (by kernel_rfl);refine aq ?_;refine HW.seq ?_;intro dn a w D;refine JV (len:=m.aG.length) (q:=(q:Int)) (by omega) hI (D.oP (lS m.aG.length (q:Int)) (fun p hp=>by unfold lS at hp;simp only[List.mem_cons,List.not_mem_nil,or_false]at hp;rcases hp with rfl|rfl|rfl|rfl <;>rfl)) fun O' a' w' al ag=>?_;refine⟨_,_,ag,?_⟩;refine HW.one (f:=104) fh ?_ (by kernel_rfl);refine aq ?_;exact fun a w D=>⟨m.aG.length - (q+1),_,_,by omega,⟨q+1,O',rfl,by omega,rfl,rfl,al⟩,D.oP (lS m.aG.length ((q+1:Nat):Int)) (fun p hp=>by unfold lS at hp;simp only[List.mem_cons,List.not_mem_nil,or_false]at hp;rcases hp with rfl|rfl|rfl|rfl <;>rfl)⟩
    ·
     obtain rfl:q=m.aG.length:=by omega
     have an:Y=decide (O.length=0):=by rw[hI.done,<- hY,List.drop_zero]
     subst an;refine aq ?_;refine HW.ev (f:=104) fh ?_ (by kernel_rfl);refine aq ?_;refine fun a w D=>⟨_,_,D,?_⟩;refine HW.one (f:=104) fh ?_ (by kernel_rfl)
     cases O with
     |nil=>
      have ap:(cP ([]:List Int)).length=0:=rfl;refine aq ?_;exact fun a w D=>⟨_,_,_,.inr rfl,D,rfl,rfl⟩
     |cons x O=>
      have ap:(cP (x::O)).length=O.length+1:=by simp[cP]
      rw[show decide ((x::O).length=0)=false from decide_eq_false (by simp)];refine aq ?_;exact fun a w D=>⟨_,_,_,.inr rfl,D,rfl,rfl⟩
 ·
  have e0:gh m=false:=by unfold gh;rw[decide_eq_false ad];rfl
  rw[e0];refine aq ?_;exact fun a w D=>⟨_,_,_,.inr rfl,D,rfl,rfl⟩
theorem De:∀{W:List (List UInt8)} {ks vs:List AV},px W ks vs=true->ks=(W.map fun w=>.str ⟨w.toArray⟩)/\vs=W.map fun _=>.bool true
 |[],[],[],_=>⟨rfl,rfl⟩
 |w::W,.str s::ks,.bool true::vs,h=>by
  unfold px at h;rw[Bool.and_eq_true]at h;obtain⟨h1,h2⟩:=De h.2;have hs:s=⟨w.toArray⟩:=of_decide_eq_true h.1;subst hs h1 h2;exact⟨rfl,rfl⟩
 |[],[],_::_,h=>by cases h
 |[],_::_,_,h=>by cases h
 |_::_,[],_,h=>by cases h
def ra:List ByteArray:=cQ.map bs
def Df(w:List UInt8):(ra.any fun u=>decide (u=bs w))=decide (w∈cQ):=by
 unfold ra;rw[List.any_map]
 cases y:decide (w∈cQ)with
 |true=>
  rw[List.any_eq_true];exact⟨w,of_decide_eq_true y,by simp⟩
 |false=>
  rw[List.any_eq_false];intro x z v;have v:bs x=bs w:=by simpa using v
  obtain rfl:=qA v;exact of_decide_eq_false y z
def KE{j:Nat}(h:j <ra.length):(iC.map SV.t)[j]?=some (.t (.bool true)):=by
 have u:j <cQ.length:=by unfold ra at h;simpa using h
 unfold iC;rw[List.getElem?_map,List.getElem?_map,List.getElem?_eq_getElem u];rfl
def AO{P:Program}{rd:Option Nat}{dn:Nat}{ops:Array Oper}{Q:Exit->Act->World->Prop}{a:Act}{w:World}{o:Oper}{l:List Oper}{j d:Nat}{b:Bool}(hg:o.guard=some (j,!b))(hd:(ops[j]?).bind (·.dst)=some d)(hv:a.tmps.getD d undef=.bool b)(hl:d <a.tmps.size)(h:wpListIn (Fw rd) dn P ops Q l (a.put o.dst undef) w):wpListIn (Fw rd) dn P ops Q (o::l) a w:=by
 have v:Region.wanted o (yielded ops a.tmps)=false:=oY (A:=fun _=>True) (L:=fun _=>none) (w:=w) (env:=c9 [(d,.t (.bool b))]) hg (by unfold cG;rw[hd];cases b <;>simp[c9,qS,un]) fun y u=>by
  rw[hd]at u;cases u;refine⟨?_,hl⟩;rw[hv];simp only[c9,Nat.beq_refl];exact .t _ _ (.bool b)
 unfold wpListIn;rw[v,if_neg (by simp)];exact⟨fun _ _=>trivial,h⟩
def Kh{A:Nat->Prop}{L:Ls}{w:World}{f:Fn}{v:Value}(h:SR A L w (.t (.fn f 0 [])) v):v=.func f #[] #[]:=by
 cases h with
 |t _ _ h=>
  generalize u:AV.fn f 0 []=x at h
  cases h with
  |fn I G y D z J=>
   injection u with h1 h2 h3
   subst h1 h3;have h1:y=#[]:=Array.eq_empty_of_size_eq_zero h2.symm;subst h1;have h2:D=#[]:=Array.eq_empty_of_size_eq_zero (by simpa using z);subst h2;rfl
  |_=>cases u
theorem GV:∀l:List UInt8,l6 l<=l.length
 |[]=>Nat.le_refl _
 |b::r=>by
  have:=GV r;unfold l6;split <;>simp <;>omega
def PE(l:List UInt8):fA l<=2:=by
 unfold fA;split
 ·omega
 ·split
  ·omega
  ·split <;>omega
def PZ{l:List UInt8}{v1 v2:Value}(hl:l.length<=1000000):uq dB Tryz.prog 198 #[v1,v2] (ui [.tp [.str (bs l)],.tp [.mp jF iC]] #[v1,v2]) [oV l] false:=by
 refine⟨⟨_,Tryz.func198,by kernel_rfl,rfl⟩,fun V J Jx A W hJ hX hK bb hY h0 m=>callsIn_of_wp Tryz.func198 rfl trivial ?_ rfl⟩;obtain⟨ag,ab⟩:=hK _ _ _ h0;have aM:(bs l).size=l.length:=eJ l;have hM:∀b,A b->MA A [] (fun _=>none) b:=fun b hb=>⟨hb,fun⟨i,_,_,h,_⟩=>by cases h⟩;have aY:ar dB ⟨A,fun _=>False,fun _=>True,W,fun _=>none⟩ [] (fun _=>none) W:={glob:=ag.glob,gn:=ag.gn,gx:=fun _ h=>h.elim,fresh:=ag.fresh,os:=rfl,tape:=rfl,output:=rfl,size:=Nat.le_refl _,kept:=fun _ _ _=>rfl,lim:=(fun _ _ h=>by cases h),new:=(fun _ _ _ _ h=>by cases h),dis:=(fun _ _ _ _ _ h=>by cases h),hand:=(fun _ _ h=>by cases h),blk:=(fun _ _ h=>by cases h)}
 have hA:At dB ⟨A,fun _=>False,fun _=>True,W,fun _=>none⟩ Tryz.f198.ntmps (c9 [(0,.t (.fn (.yield V) 0 [])),(1,.t (.tp [.str (bs l)])),(2,.t (.tp [.mp jF iC]))]) [] {tmps:=#[.func (.yield V) #[] #[]]++#[v1,v2]++Array.replicate (Tryz.f198.ntmps - (#[Value.func (.yield V) #[] #[]]++#[v1,v2]).size) undef,defers:=[]} W:=by
  refine⟨Marks.nil,by simp,_,aY,oE (tm:=fun t=>Array.getD _ t undef) _ fun p hp=>?_⟩;simp only[List.mem_cons,List.not_mem_nil,or_false]at hp;rcases hp with rfl|rfl|rfl
  ·simp[Array.getD_eq_getD_getElem?,Array.getElem?_append];exact .t _ _ (.fn (.yield V) [] #[] #[] rfl fun j x u hx=>by simp at hx)
  ·simp[Array.getD_eq_getD_getElem?,Array.getElem?_append];exact .t _ _ (VR.on (Nat.le_refl _) (fun b _ hb=>⟨hM b hb,rfl⟩) (ab _ _ ⟨0,rfl,rfl⟩))
  ·simp[Array.getD_eq_getD_getElem?,Array.getElem?_append];exact .t _ _ (VR.on (Nat.le_refl _) (fun b _ hb=>⟨hM b hb,rfl⟩) (ab _ _ ⟨1,rfl,rfl⟩))
 refine(?_:HW dB ⟨A,fun _=>False,fun _=>True,W,fun _=>none⟩ Tryz.f198.ntmps dP.P _ (c9 [(0,.t (.fn (.yield V) 0 [])),(1,.t (.tp [.str (bs l)])),(2,.t (.tp [.mp jF iC]))]) [] _) m _ _ hA;clear hA;have ks:=Lv hl;have hn:=rO false l;obtain⟨n,aA⟩:∃n,aV false l=n:=⟨_,rfl⟩;rw[aA]at ks hn;have bi:(bs l).extract 0 (bs l).size=bs l:=by rw[nS,aM,List.take_length];rfl
 have hz:(0+(n:Int)).toNat=n:=by omega
 have ax:(bs l).extract (0+(n:Int)).toNat (bs l).size=bs (l.drop n):=by rw[hz,nS,aM,List.take_length]
 obtain⟨u,hu⟩:∃u,l.drop n=u:=⟨_,rfl⟩;rw[hu]at ax;have ao:u.length<=1000000:=by rw[<- hu,List.length_drop];omega
 have bu:(bs u).size=u.length:=eJ u;refine HW.ev (f:=198) fh ?_ (by kernel_rfl);refine aq ?_;refine HW.oP [(0,.t (.fn (.yield V) 0 [])),(1,.t (.tp [.str (bs l)])),(2,.t (.tp [.mp jF iC])),(4,.t (.int .i64 0))] (fun p hp=>by simp only[List.mem_cons,List.not_mem_nil,or_false]at hp;rcases hp with rfl|rfl|rfl|rfl <;>rfl) ?_;refine HW.block ?_;refine HW.loop (fun k e r=>k=0/\e=c9 [(0,.t (.fn (.yield V) 0 [])),(1,.t (.tp [.str (bs l)])),(2,.t (.tp [.mp jF iC])),(4,.t (.int .i64 0))]/\r=[]) 0 ⟨rfl,rfl,rfl⟩ ?_;rintro k e r ⟨rfl,rfl,rfl⟩;refine HW.block ?_;refine HW.ev (f:=198) fh ?_ (by kernel_rfl)
 repeat'(first
|(refine aw ?_)
|((with_reducible apply aa.u0);(case hx=>first
|((with_reducible apply af.tQ);(case hst|hx|hl=>exact rfl);(case h0=>omega);(case hls=>first|assumption|omega);(case hv=>exact bi))
|(exact ai ks)
|exact ae))
|fail)
 refine HW.ev (f:=198) fh ?_ (by kernel_rfl)
 repeat'(first
|(refine aw ?_)
|((with_reducible apply aa.u0);(case hx=>first
|((with_reducible apply af.tQ);(case hst|hx|hl=>exact rfl);(case h0=>omega);(case hls=>first|assumption|omega);(case hv=>exact ax))
|exact ae))
|fail)
 refine HW.ev (f:=198) fh ?_ (by kernel_rfl);refine aq ?_;refine HW.bX (f:=198) fh (fun e r=>∃(kd:Int) (c:Nat),gD u=(kd,c)/\c<=2000000/\e 0=.t (.fn (.yield V) 0 [])/\e 5=.lp 0 0/\e 7=.t (.int .i64 (c:Int))/\r=[.box false 235 [.t (.int .i64 kd),.t (.int .i64 0),.t (.int .i64 (0+(n:Int))),.t (.int .i64 0)]]) ?_ (by kernel_rfl) ?_
 ·
  cases u with
  |nil=>
   have b4:bs ([]:List UInt8)=⟨#[]⟩:=rfl;refine aq ?_;exact⟨rfl,0,0,rfl,by omega,rfl,rfl,rfl,rfl⟩
  |cons b r=>
   have b5:¬bs (b::r)=bs []:=fun h=>by have:=qA h;cases this
   have hb:(b::r)[0]?=some b:=rfl;have bo:(b::r).length=r.length+1:=rfl;have k1:=yQ b;have k2:=vB b;have k3:=DA ao
   cases h1:eA b with
   |true=>
    rw[h1]at k1;have kr:=N9 ao;have an:=rI ca (b::r);have y:gD (b::r)=(if(b::r).take (aP ca (b::r))∈cQ then 2 else 1,aP ca (b::r)):=by rw[gD,if_pos h1]
    obtain⟨c,hc⟩:∃c,aP ca (b::r)=c:=⟨_,rfl⟩;rw[hc]at kr an y;have z:(bs (b::r)).extract 0 c=bs ((b::r).take c):=by rw[nS];rfl
    cases hm:decide ((b::r).take c∈cQ)with
    |true=>
     obtain⟨j,hf,hj⟩:=yx (s:=bs ((b::r).take c)) (N:=ra) (by rw[Df];exact hm);have hz:=KE hj;rw[if_pos (of_decide_eq_true hm)]at y
     repeat'(first
|((with_reducible apply aa.bk);(case hp=>exact ak))
|(refine aw ?_)
|((with_reducible apply aa.u0);(case hx=>first
|((with_reducible apply af.gN);(case hx|hi|hst=>exact rfl);(case h0=>omega);(case hb=>assumption))
|((with_reducible apply af.ws);(case hst|hx|hh=>exact rfl);(case hhs=>first|assumption|omega);(case hv=>exact z))
|((with_reducible apply af.oC);(case hm|hk|ho=>exact rfl);(case hf=>exact hf);(case hz=>exact hz))
|(exact ai k1)
|(exact ai kr)
|exact ae))
|fail)
     exact⟨rfl,2,c,y,by omega,rfl,rfl,rfl,rfl⟩
    |false=>
     have hf:=yw (s:=bs ((b::r).take c)) (N:=ra) (by rw[Df];exact hm);rw[if_neg (of_decide_eq_false hm)]at y
     repeat'(first
|((with_reducible apply aa.bk);(case hp=>exact ak))
|(refine aw ?_)
|((with_reducible apply aa.u0);(case hx=>first
|((with_reducible apply af.gN);(case hx|hi|hst=>exact rfl);(case h0=>omega);(case hb=>assumption))
|((with_reducible apply af.ws);(case hst|hx|hh=>exact rfl);(case hhs=>first|assumption|omega);(case hv=>exact z))
|((with_reducible apply af.lk);(case hm|hk|ho=>exact rfl);(case hf=>exact hf);(case hz=>exact rfl))
|(exact ai k1)
|(exact ai kr)
|exact ae))
|fail)
     exact⟨rfl,1,c,y,by omega,rfl,rfl,rfl,rfl⟩
   |false=>
    rw[h1]at k1
    cases h2:bV b with
    |true=>
     rw[h2]at k2;have kr:=N7 ao;have an:=rI bV (b::r);have y:gD (b::r)=(3,aP bV (b::r)):=by rw[gD,if_neg (by simp[h1]),if_pos h2]
     obtain⟨c,hc⟩:∃c,aP bV (b::r)=c:=⟨_,rfl⟩;rw[hc]at kr an y;refine aq ?_;exact⟨rfl,3,c,y,by omega,rfl,rfl,rfl,rfl⟩
    |false=>
     rw[h2]at k2;have aG:=PE (b::r);by_cases h3:0 <fA (b::r)
     ·
      have y:gD (b::r)=(4,fA (b::r)):=by rw[gD,if_neg (by simp[h1]),if_neg (by simp[h2]),if_pos h3]
      obtain⟨c,hc⟩:∃c,fA (b::r)=c:=⟨_,rfl⟩;rw[hc]at k3 aG y h3;refine aq ?_;exact⟨rfl,4,c,y,by omega,rfl,rfl,rfl,rfl⟩
     ·
      have y:gD (b::r)=(5,1+l6 r):=by rw[gD,if_neg (by simp[h1]),if_neg (by simp[h2]),if_neg h3]
      have hw:=GV r;obtain⟨c0,au⟩:∃c,fA (b::r)=c:=⟨_,rfl⟩;rw[au]at k3 aG h3;obtain⟨R,hR⟩:∃R,l6 r=R:=⟨_,rfl⟩;rw[hR]at y hw;refine aq ?_;refine az.ind (fun q:Nat=>[(7,.t (.int .i64 (q:Int)))]) (fun q=>1<=q/\q<=r.length+1/\q+l6 ((b::r).drop q)=1+R) (fun q=>r.length+1 - q) 1 rfl ⟨by omega,by omega,by rw[<- hR];rfl⟩ (fun q hq=>?_);obtain⟨g0,g1,G⟩:=hq;rcases Nat.lt_or_ge q (r.length+1)with g3|g3
      ·
       obtain⟨c,bj⟩:=am (xs:=b::r) (k:=q) (by omega);have hd:=bG bj;rw[hd,l6]at G;have kw:=DC c;have kb:=KP (b:=c) (r:=(b::r).drop (q+1)) (by rw[List.length_cons,List.length_drop];omega);have z:(bs (b::r)).extract q (bs (b::r)).size=bs (c::(b::r).drop (q+1)):=by rw[nS,bu,List.take_length,hd]
       obtain⟨Z1,bd⟩:∃Z,dz c=Z:=⟨_,rfl⟩;obtain⟨Z2,be⟩:∃Z,pe c ((b::r).drop (q+1))=Z:=⟨_,rfl⟩;rw[bd]at kw G;rw[be]at kb G
       cases Z1 with
       |true=>
        simp only[Bool.not_true,Bool.false_and,Bool.false_eq_true,if_false,Nat.add_zero]at G
        repeat'(first
|((with_reducible apply aa.aF);(case hp=>exact ak))
|(refine aw ?_)
|((with_reducible apply aa.av);(case hW=>exact rfl);(case hx=>first
|((with_reducible apply af.gN);(case hx|hi|hst=>exact rfl);(case h0=>omega);(case hb=>assumption))
|(exact ai kw)
|exact ae))
|((with_reducible apply aa.u0);(case hx=>exact ae))
|fail)
        exact⟨rfl,5,q,by rw[y,G],by omega,rfl,rfl,rfl,rfl⟩
       |false=>
        by_cases b3:(c.toNat:Int)=35
        ·
         have D:c.toNat=35:=by omega
         simp only[D,decide_true,Bool.not_true,Bool.false_and,Bool.and_false,Bool.false_eq_true,if_false,Nat.add_zero]at G
         repeat'(first
|(refine a8 ?_)
|(refine aw ?_)
|((with_reducible apply aa.av);(case hW=>exact rfl);(case hx=>first
|((with_reducible apply af.gN);(case hx|hi|hst=>exact rfl);(case h0=>omega);(case hb=>assumption))
|(exact ai kw)
|exact ae))
|((with_reducible apply aa.u0);(case hx=>exact ae))
|fail)
         exact⟨rfl,5,q,by rw[y,G],by omega,rfl,rfl,rfl,rfl⟩
        ·
         have D:¬c.toNat=35:=by omega
         cases Z2 with
         |true=>
          simp only[D,decide_false,Bool.not_true,Bool.and_false,Bool.false_eq_true,if_false,Nat.add_zero]at G
          repeat'(first
|(refine a8 ?_)
|(refine aw ?_)
|((with_reducible apply aa.av);(case hW=>exact rfl);(case hx=>first
|((with_reducible apply af.gN);(case hx|hi|hst=>exact rfl);(case h0=>omega);(case hb=>assumption))
|((with_reducible apply af.tQ);(case hst|hx|hl=>exact rfl);(case h0=>omega);(case hls=>first|assumption|omega);(case hv=>exact z))
|(exact ai kw)
|(exact ai kb)
|exact ae))
|((with_reducible apply aa.u0);(case hx=>exact ae))
|fail)
          exact⟨rfl,5,q,by rw[y,G],by omega,rfl,rfl,rfl,rfl⟩
         |false=>
          simp only[D,decide_false,Bool.not_false,Bool.and_self,if_true]at G
          repeat'(first
|(refine a8 ?_)
|(refine aw ?_)
|((with_reducible apply aa.av);(case hW=>exact rfl);(case hx=>first
|((with_reducible apply af.gN);(case hx|hi|hst=>exact rfl);(case h0=>omega);(case hb=>assumption))
|((with_reducible apply af.tQ);(case hst|hx|hl=>exact rfl);(case h0=>omega);(case hls=>first|assumption|omega);(case hv=>exact z))
|(exact ai kw)
|(exact ai kb)
|exact ae))
|((with_reducible apply aa.u0);(case hx=>exact ae))
|fail)
          exact⟨q+1,rfl,rfl,⟨by omega,by omega,by omega⟩,by omega⟩
      ·
       obtain rfl:q=r.length+1:=by omega
       rw[List.drop_eq_nil_of_le (by rw[bo];exact Nat.le_refl _),l6]at G;refine aq ?_;exact⟨rfl,5,r.length+1,by rw[y,<- G],by omega,rfl,rfl,rfl,rfl⟩
 ·
  rintro e r ⟨kd,c,bH,hc,e0,e5,e7,rfl⟩;refine HW.oP [(0,.t (.fn (.yield V) 0 [])),(5,.lp 0 0),(7,.t (.int .i64 (c:Int)))] (fun p hp=>by simp only[List.mem_cons,List.not_mem_nil,or_false]at hp;rcases hp with rfl|rfl|rfl;exact e0;exact e5;exact e7) ?_;refine HW.ev (f:=198) fh ?_ (by kernel_rfl);refine aq ?_;refine HW.ev (f:=198) fh ?_ (by kernel_rfl);refine aq ?_;intro dn a w hA;obtain⟨⟨_,al⟩,bt,L,hC,hV⟩:=hA;have al:a.defers=[]:=al trivial;refine wpIn_seq ?_;refine wpIn_region_lit ?_;show wpListIn _ _ _ _ _ ([_,_]++[_,_,_,_,_,_,_]) _ _
  refine Ef (i:=0) (kp:=[]) (ds:=[]) (K:=fun e r=>e 84=.t (.fn (.yield V) 0 [])/\e 85=.t (.agg [.int .i64 kd,.int .i64 0,.int .i64 (0+(n:Int)),.int .i64 (0+(n:Int)+c)])) fh ?_ (by simp) (by kernel_rfl) (by simp) (by intro p hp;cases hp) al bt hC hV fun e2 r2 L2 a2 w2 a1 _ bl aB I ap=>?_
  ·
   refine aq ?_;exact⟨rfl,rfl⟩
  obtain⟨b1,b2⟩:=a1;have bf:Below W.heap.size W w2:=⟨I.os,I.tape,I.output,I.size,fun k hk=>I.kept k hk fun h=>h⟩;have hj:=hJ _ _ _ _ h0 bf
  have aT:a2.eval (.tmp 84)=.func (.yield V) #[] #[]:=by
   have:=ap 84;rw[b1]at this;exact Kh this
  have aX:VR A w2 (.agg [.int .i64 kd,.int .i64 0,.int .i64 (0+(n:Int)),.int .i64 (0+(n:Int)+c)]) (a2.eval (.tmp 85)):=by
   have:=ap 85;rw[b2]at this
   cases this with
   |t _ _ h=>exact VR.on (Nat.le_refl _) (fun b _ hm=>⟨hm.1,rfl⟩) h
  have bS:oV l=[.agg [.int .i64 kd,.int .i64 0,.int .i64 (0+(n:Int)),.int .i64 (0+(n:Int)+c)]]:=by
   unfold oV;rw[aA,hu,bH];simp
  rw[bS]at hj;refine AN rfl (QD rfl aT (fun m=>hY _ _ _ _ _ hj (by simp) (fun j x u hx hu=>?_) m) fun en Z hr=>?_)
  ·match j,hx,hu with
   |0,hx,hu=>cases hx;simp at hu;rw[<- hu];exact aX
  ·rcases hr with⟨rfl,A',bm⟩|⟨rfl,bZ⟩
   ·exact absurd bm (bb rfl _ _)
   ·refine⟨_,rfl,?_⟩;have n3:(a2.put (some 86) (.bool false)).tmps.size=Tryz.f198.ntmps:=by rw[bR,aB]
    have aN:(a2.put (some 86) (.bool false)).eval (.tmp 86)=.bool false:=fx (by rw[aB];decide);have d3:(a2.put (some 86) (.bool false)).defers=[]:=by rw[put_defers,bl]
    generalize a2.put (some 86) (.bool false)=a3 at n3 aN d3⊢;refine jh rfl (v:=.bool true) (w':=Z) (by show(execOp _ _).run _ _=_;unfold execOp;simp only[aN];rfl) ?_;have aR:(a3.put (some 87) (.bool true)).eval (.tmp 87)=.bool true:=fx (by rw[n3];decide);have n4:(a3.put (some 87) (.bool true)).tmps.size=Tryz.f198.ntmps:=by rw[bR,n3]
    have d4:(a3.put (some 87) (.bool true)).defers=[]:=by rw[put_defers,d3]
    generalize a3.put (some 87) (.bool true)=a4 at n4 aR d4⊢;refine jh rfl (v:=.bool true) (w':=Z) (by show(execOp _ _).run _ _=_;unfold execOp;simp only[aR];rfl) ?_;have U:(a4.put (some 88) (.bool true)).tmps.getD 88 undef=.bool true:=fx (by rw[n4];decide);have n5:(a4.put (some 88) (.bool true)).tmps.size=Tryz.f198.ntmps:=by rw[bR,n4]
    have d5:(a4.put (some 88) (.bool true)).defers=[]:=by rw[put_defers,d4]
    generalize a4.put (some 88) (.bool true)=a5 at n5 U d5⊢;refine AO (b:=true) rfl rfl U (by rw[n5];decide) ?_;refine AO (b:=true) rfl rfl ((cg (by simp)).trans U) (by rw[bR,n5];decide) ?_;refine AO (b:=true) rfl rfl ((cg (by simp)).trans ((cg (by simp)).trans U)) (by rw[bR,bR,n5];decide) ?_;have ad:(((a5.put (some 89) undef).put (some 90) undef).put (some 91) undef).eval (.tmp 88)=.bool true:=(cg (by simp)).trans ((cg (by simp)).trans ((cg (by simp)).trans U));have n6:(((a5.put (some 89) undef).put (some 90) undef).put (some 91) undef).tmps.size=Tryz.f198.ntmps:=by rw[bR,bR,bR,n5]
    have d6:(((a5.put (some 89) undef).put (some 90) undef).put (some 91) undef).defers=[]:=by rw[put_defers,put_defers,put_defers,d5]
    generalize((a5.put (some 89) undef).put (some 90) undef).put (some 91) undef=a6 at n6 ad d6⊢;refine jh rfl (v:=.bool true) (w':=Z) (by show(execOp _ _).run _ _=_;unfold execOp;simp only[ad];rfl) ?_;show Code.wpIn _ _ _ _ _ _ _
    refine wpIn_cond_split (t:=true) (fx (by rw[n6];decide)) (fun _=>?_) (fun h=>by cases h);refine wpIn_ret ?_;exact⟨by rw[put_defers,d6],_,results_none rfl _ _ _,⟨_,rfl⟩,.inr bZ⟩
def IH{es:List (List AV)}{l:List Int}(h:nZ es=some l):es=aL l:=by
 induction es generalizing l with
 |nil=>unfold nZ at h;cases h;rfl
 |cons c r y=>
  unfold nZ at h;split at h
  ·cases ‹_=[]›
  ·rename_i u;injection u with h1 h2
   subst h1 h2;split at h
   ·rename_i v;cases h;rw[y v];rfl
   ·cases h
  ·cases h
def II{es:List (List AV)}{l:List Tb}(h:QZ es=some l):es=bC l:=by
 induction es generalizing l with
 |nil=>unfold QZ at h;cases h;rfl
 |cons c r z=>
  unfold QZ at h;split at h
  ·cases ‹_=[]›
  ·rename_i u;injection u with h1 h2
   subst h1 h2;split at h
   ·rename_i v y;cases h;rw[z y,IH v];rfl
   ·cases h
  ·cases h
def IG{es:List (List AV)}{l:List Hde}(h:nY es=some l):es=c7 l:=by
 induction es generalizing l with
 |nil=>unfold nY at h;cases h;rfl
 |cons c r y=>
  unfold nY at h;split at h
  ·cases ‹_=[]›
  ·rename_i u;injection u with h1 h2
   subst h1 h2;split at h
   ·rename_i v;cases h;rw[y v];rfl
   ·cases h
  ·cases h
def GQ:Wf aj dB where
 exh:=Cw
 seq:=fun I xs U wh h G Z=>by
  have h:(match Ah I xs with|some r=>some r|none=>Ai I xs)=some (U,wh):=h;split at h
  ·rename_i q D;cases h;unfold Ah at D;split at D
   ·rename_i s ks vs z;split at D
    ·rename_i y;rw[Bool.and_eq_true,Nat.ble_eq]at y;cases D;have z:I=198:=by simpa using z
     obtain⟨V,hv⟩:=De y.1;subst z V hv;have hs:G.size=2:=Z
     have e:G=#[G[0],G[1]]:=by
      apply Array.ext
      ·simp[hs]
      ·intro i h1 h2;have:i=0\/i=1:=by simp at h2;omega
       rcases this with rfl|rfl <;>rfl
     rw[e];have J:s.data.toList.length<=1000000:=by have:=y.2;rwa[<- Lib.size_eq]
     exact PZ (l:=s.data.toList) J
    ·cases D
   ·cases D
  ·cases h
 mixed:=by kernel_rfl
 sS:=D9
 ext:=fun f xs r fr' h=>by
  by_cases z:f=104
  ·subst z;replace h:mo 104 xs=some (r,fr'):=h;unfold mo at h;split at h
   ·cases h
   ·cases h
   ·cases h
   ·split at h
    ·rename_i y;rw[Bool.and_eq_true,Bool.and_eq_true,Nat.ble_eq,Nat.ble_eq]at y;split at h
     ·rename_i tb hd v u;cases h;obtain⟨_,h1,h2⟩:=y;have v:=II v;have u:=IG u;subst v u;rw[fT]at h1;rw[qX]at h2;exact JU (m:=⟨[],tb,[],[],[],[],hd⟩) h1 h2
     ·cases h
    ·cases h
   ·cases h
   ·cases h
   ·cases h
  ·refine GU f xs r fr' ?_;unfold Q_;rw[show Nat.beq f 104=false from Bool.eq_false_iff.2 fun h=>z (Nat.eq_of_beq_eq_true h)];exact h
end Go.Proofs.YtcgdbhlnkificaaGreatDoor
