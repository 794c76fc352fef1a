/- Law 27: what lies outside: the library's contracts. No condition. -/
import Derived.Test.YtjolgbkkocjpgaaGreatDoorTVD
import Derived.Test.YtjolgbkkocjpgaaGreatDoorTCX
import Derived.Test.YtjolgbkkocjpgaaGreatDoorTV
import Derived.Test.YtjolgbkkocjpgaaGreatDoorTX
import Derived.Test.YtjolgbkkocjpgaaGreatDoorWQ
import Derived.Test.YtjolgbkkocjpgaaGreatDoorShelf
import Derived.Test.YtjolgbkkocjpgaaGreatDoorTM
import Derived.Test.YtjolgbkkocjpgaaGreatDoorTNC
import Derived.Test.YtjolgbkkocjpgaaGreatDoorTS
import Derived.Test.YtjolgbkkocjpgaaGreatDoorTLX
import Derived.Test.YtjolgbkkocjpgaaGreatDoorTC
set_option linter.all false
namespace Go.Proofs.YtjolgbkkocjpgaaGreatDoor
open Go.RowKit
set_option maxRecDepth 100000
def n9(w :World):Prop :=Lib.TabIs Tryz.prog w "strings.asciiSpace" .u8 Lib.asciiSpaceTab
def zA :Tryz.prog.globalNamed "strings.asciiSpace" =some 0 :=by kernel_rfl
def Q1{w w':World}(h:n9 w)(he:w'.heap[0]?=w.heap[0]?):n9 w':=by
 unfold n9 Lib.TabIs World.var? at h⊢;rw[zA]at h⊢;simp only[Option.bind_some]at h⊢;rw[he];exact h
def Q2{w:World}(h:n9 w):0 <w.heap.size:=by
 unfold n9 Lib.TabIs World.var? at h;rw[zA]at h;simp only[Option.bind_some]at h;rcases Nat.lt_or_ge 0 w.heap.size with h1|h1
 ·exact h1
 ·rw[Array.getElem?_eq_none h1]at h;cases h
def dK:Glob where
 G:=n9
 n:=0+1
 stays:=fun w w' h u=>Q1 h (u _ (Nat.lt_succ_self _))
def RO{M:Nat->Prop}{w:World}{s:ByteArray}{c:Int}{us:Array Value}(hs:us.size=2)(hv:∀(j:Nat) (x:AV) (u:Value),[AV.str s,AV.int .u8 c][j]?=some x->us[j]?=some u->VR M w x u):us=#[.string s,.int .u8 c]:=by
 have v:=Hz (hv 0 _ us[0] rfl (by rw[Array.getElem?_eq_getElem (by omega)]));have h1:=pk (hv 1 _ us[1] rfl (by rw[Array.getElem?_eq_getElem (by omega)]));apply Array.ext
 ·simp[hs]
 ·intro i h2 h3;have:i=0\/i=1:=by simp at h3;omega
  rcases this with rfl|rfl
  ·simpa using v
  ·simpa using h1
def RP{M:Nat->Prop}{w:World}{x y:Int}{us:Array Value}(hs:us.size=2)(hv:∀(j:Nat) (z:AV) (u:Value),[AV.int .u64 x,AV.int .u64 y][j]?=some z->us[j]?=some u->VR M w z u):us=#[.int .u64 x,.int .u64 y]:=by
 have v:=pk (hv 0 _ us[0] rfl (by rw[Array.getElem?_eq_getElem (by omega)]));have h1:=pk (hv 1 _ us[1] rfl (by rw[Array.getElem?_eq_getElem (by omega)]));apply Array.ext
 ·simp[hs]
 ·intro i h2 h3;have:i=0\/i=1:=by simp at h3;omega
  rcases this with rfl|rfl
  ·simpa using v
  ·simpa using h1
def RM{M:Nat->Prop}{w:World}{us:Array Value}{s:ByteArray}(hs:us.size=1)(hv:∀(j:Nat) (x:AV) (u:Value),[AV.str s][j]?=some x->us[j]?=some u->VR M w x u):us=#[.string s]:=by
 have v:=Hz (hv 0 _ us[0] rfl (by rw[Array.getElem?_eq_getElem (by omega)]));apply Array.ext
 ·simp[hs]
 ·intro i h2 h3;have:i=0:=by simp at h3;omega
  subst this;simpa using v
def L7:Lib.fields tL.data.toList=cZ:=by kernel_rfl
def L6:(tL.data.toList.all fun b=>decide (b.toNat <128))=true:=by kernel_rfl
def HE(f:Nat)(xs:List AV)(r:SV)(fr':Fr)(h:vM f xs=some (r,fr')):gN Tryz.prog f/\∀(κ:Ctx) (w:World) (us:Array Value),aw dK κ [] κ.L w->κ.W=w->us.size=xs.length->(∀(j:Nat) (x:AV) (u:Value),xs[j]?=some x->us[j]?=some u->VR (MA κ.M [] κ.L) w x u)->
  Calls Tryz.prog f us w fun e w'=>∃v L',e=.returned v/\aw dK κ fr' L' w'/\SR (MA κ.M fr' L') L' w' r v:=by
 unfold vM at h;split at h
 ·cases h
 rename_i ag;replace h:mH f xs=some (r,fr'):=h;unfold mH at h;split at h
 ·rename_i s;split at h
  ·rename_i D;rw[Bool.and_eq_true]at D;obtain⟨D,hs⟩:=D;have D:f=212:=by simpa using D
   have hs:s=tL:=of_decide_eq_true hs;subst D hs;cases h;refine⟨⟨_,Tryz.func212,by kernel_rfl,by kernel_rfl⟩,fun κ w us J hκ hs hv=>?_⟩;obtain rfl:=RM hs hv;refine(Tryz.strings_Fields_laid tL w (of_decide_eq_true (by kernel_rfl)) (fun j b hb=>of_decide_eq_true (List.all_eq_true.1 L6 b (List.mem_of_getElem? hb))) J.glob).mono fun e w' ⟨he,I⟩=>?_;rw[L7]at he I;have hb:Below w.heap.size w w':=by rw[I];exact(Below.refl _ _).alloc (Nat.le_refl _) _
   refine⟨_,κ.L,he,J.later hb,.t _ _ ?_⟩;obtain⟨W,hW⟩:∃W,cZ=W:=⟨_,rfl⟩;have aq:W.length<=1000:=by rw[<- hW];decide
   have ab:W≠[]:=by rw[<- hW];decide
   rw[hW]at I⊢;have ad:(W.map fun w=>[AV.str ⟨w.toArray⟩]).length=W.length:=List.length_map _;rw[<- ad];have ai:=RC.lit w (W.map fun l=>Value.string ⟨l.toArray⟩).toArray 9;have ao:w'=w.alloc (.cells (W.map fun l=>Value.string ⟨l.toArray⟩).toArray 9):=I;rw[<- ao]at ai;obtain⟨b,o,an,al,V⟩:=ai (by simpa using List.length_pos_iff.2 ab);cases an;refine VR.arr _ _ _ 1 _ (fun k _=>(W.map fun l=>Value.string ⟨l.toArray⟩).getD k undef) (by intro h0;exact ab (List.map_eq_nil_iff.1 h0)) (by rw[ad];omega) (Nat.le_refl _) al J.EL (fun k cs G=>?_) (fun k j G hj=>?_) (fun k j cs x G hj=>?_)
   ·rw[List.getElem?_map]at G
    cases hx:W[k]? with
    |none=>rw[hx]at G;cases G
    |some y=>rw[hx]at G;cases G;rfl
   ·rw[List.length_map]at G;have Z:j=0:=by omega
    subst Z;have:=V k ((W.map fun l=>Value.string ⟨l.toArray⟩).getD k undef) (by rw[List.getD_eq_getElem?_getD];simp[G]);simpa using this
   ·rw[List.getElem?_map]at G
    cases hx:W[k]? with
    |none=>rw[hx]at G;cases G
    |some y=>
     rw[hx]at G;cases G;have Z:j=0:=by have:=aC hj;simp at this;omega
     subst Z;cases hj;rw[List.getD_eq_getElem?_getD,List.getElem?_map,hx];exact .str _
  ·cases h
 ·rename_i s c;split at h
  ·rename_i D;rw[Bool.and_eq_true]at D;obtain⟨D,U⟩:=D;have D:f=215:=by simpa using D
   have U:=of_decide_eq_true U;subst D;cases h;refine⟨⟨_,Tryz.func215,by kernel_rfl,by kernel_rfl⟩,fun κ w us J hκ hs hv=>?_⟩;obtain rfl:=RO hs hv;exact(Tryz.strings_IndexByte s c w).mono fun e w' ⟨he,I⟩=>⟨_,κ.L,he,by rw[I];exact J,.t _ _ (.int _ _)⟩
  ·cases h
 ·rename_i x y;split at h
  ·rename_i D;rw[Bool.and_eq_true]at D;obtain⟨D,U⟩:=D;have D:f=170:=by simpa using D
   obtain⟨au,av,aB,aD⟩:=of_decide_eq_true U;subst D;cases h;refine⟨⟨_,Tryz.func170,by kernel_rfl,by kernel_rfl⟩,fun κ w us J hκ hs hv=>?_⟩;obtain rfl:=RP hs hv;have ex:((x.toNat:Nat):Int)=x:=by omega
   have ey:((y.toNat:Nat):Int)=y:=by omega
   have U:=Tryz.bits_Mul x.toNat y.toNat (by omega) (by omega) w;rw[ex,ey]at U;refine U.mono fun e w' ⟨he,I⟩=>⟨_,κ.L,he,by rw[I];exact J,.aJ _ _ rfl fun j s z hs hz=>?_⟩
   match j with
   |0=>simp at hs hz;subst hs hz;exact .t _ _ (.int _ _)
   |1=>simp at hs hz;subst hs hz;exact .t _ _ (.int _ _)
   |j+2=>simp at hs
  ·cases h
 ·split at h
  ·rename_i D;rw[Bool.and_eq_true]at D;rw[D.1]at ag;cases ag
  ·cases h
 ·rename_i es;split at h
  ·rename_i D;have D:f=40:=by simpa using D
   subst D;exact I7 dK h
  ·split at h
   ·rename_i D;have D:f=77:=by simpa using D
    subst D;exact CC dK h
   ·split at h
    ·rename_i D;have D:f=18:=by simpa using D
     subst D;exact Jc dK h
    ·cases h
 ·rename_i es k q a;split at h
  ·rename_i D;have D:f=81:=by simpa using D
   subst D;exact I4 dK h
  ·cases h
 ·cases h
def KM:((List.range 220).all fun f=>!wK f ||qO ah f)=true:=by kernel_rfl
def EY(f:Nat)(hf:wK f=true):qO ah f=true:=by
 have u:f <220:=by
  have h:=hf;unfold wK at h;split at h
  ·cases h
  ·simpa using h
 have:=List.all_eq_true.1 KM f (List.mem_range.2 u);rw[hf]at this;simpa using this
theorem n7{g:Cfg}{x:Nat->List AV->Option (SV×Fr)}{f n:Nat}:∀c:Code,dz (g.low x) f n c=dz g f n c
 | .seq a b=>by unfold dz;rw[n7 a,n7 b]
 | .cond _ a b=>by unfold dz;rw[n7 a,n7 b]
 | .block _ b=>by unfold dz;rw[n7 b]
 | .loop b=>by unfold dz;rw[n7 b]
 | .rangeFunc _ ps a b=>by unfold dz;rw[n7 a,n7 b]
 | .region _ _ _=>rfl
 | .skip=>rfl
 | .scope _=>rfl
 | .goto _=>rfl
 | .label ..=>rfl
 | .exit _=>rfl
 | .ret=>rfl
 | .refuse _=>rfl
def Da:eK Tryz.prog dK C_:=fun f u fr r fr' h=>by
 have h:(none:Option (SV×Fr))=some (r,fr'):=h;cases h
def fM:Wf dX dK where
 exh:=Da
 mixed:=by kernel_rfl
 tA:=fun f y=>by
  have h:=EY f y;unfold qO at h⊢;have h2:dX.P=ah.P:=rfl;rw[h2];split at h
  ·cases h
  ·rename_i fn u
   try simp only[u]
   split at h
   ·cases h
   ·rename_i c v
    try simp only[v]
    unfold dX;rw[n7];exact h
 ext:=HE
set_option maxHeartbeats 16000000
def nl(n:Nat):List AV:=List.replicate n (.bool true)
def Ro{n j:Nat}(h:j <n):((nl n).map SV.t)[j]?=some (.t (.bool true)):=by unfold nl;rw[List.getElem?_map,List.getElem?_replicate,if_pos h];rfl
def u4{O:List Int}{t:Int}{b:Bool}(h:decide (t∈O)=b):(O.any fun u=>decide (u=t))=b:=by
 rw[<- h]
 cases v:O.any fun u=>decide (u=t)with
 |true=>
  obtain⟨u,y,z⟩:=List.any_eq_true.1 v;obtain rfl:u=t:=of_decide_eq_true z;exact(decide_eq_true y).symm
 |false=>
  refine(decide_eq_false fun y=>?_).symm;rw[List.any_eq_false]at v;exact v t y (by simp)
def K8(h:Hde)(t:Int)(O:List Int):Cl dX 151 [.t (.agg [.int .i64 h.table,.int .i64 h.fa,.int .i64 h.to]),.t (.tp [.int .i64 t]),.t (.tp [.mp (cY O) (nl O.length)])] [] (.t (.bool (decide (h.table=t)&&decide (h.to∈O)))) []:=by
 refine Cl.aq rfl Tryz.func151 rfl rfl rfl ?_;by_cases u:h.table=t
 ·
  rw[decide_eq_true u,Bool.true_and]
  cases hm:decide (h.to∈O)with
  |true=>
   obtain⟨j,hf,v⟩:=Dg (u4 hm);have hz:=Ro v
   repeat'(first
|((with_reducible apply aa.aR);(case hp=>exact aA))
|(refine ar ?_)
|((with_reducible apply aa.aB);(case hW=>exact rfl);(case hx=>first
|((with_reducible apply ac.oQ);(case hm|hk|ho=>exact rfl);(case hf=>exact hf);(case hz=>exact hz))
|exact af))
|((with_reducible apply aa.u0);(case hx=>exact af))
|fail)
   exact⟨.inr rfl,rfl⟩
  |false=>
   have hf:=vQ (u4 hm)
   repeat'(first
|((with_reducible apply aa.aR);(case hp=>exact aA))
|(refine ar ?_)
|((with_reducible apply aa.aB);(case hW=>exact rfl);(case hx=>first
|((with_reducible apply ac.lk);(case hm|hk|ho=>exact rfl);(case hf=>exact hf);(case hz=>exact rfl))
|exact af))
|((with_reducible apply aa.u0);(case hx=>exact af))
|fail)
   exact⟨.inr rfl,rfl⟩
 ·
  rw[decide_eq_false u,Bool.false_and];exact ae
def Lh{C:List Hde}{p:Hde->Bool}{c1 c2:AV}(hl:C.length<=140737488351232)(hp:∀x∈C,Cl dX 151 [.t (.agg [.int .i64 x.table,.int .i64 x.fa,.int .i64 x.to]),.t c1,.t c2] [] (.t (.bool (p x))) []):Cl dX 178 [.t (.arr (cu C)),.t (.fn (.func 151) 0 [c1,c2])] [] (.t (.int .i64 (bj p C 0))) []:=by
 have z:=rA C;refine Cl.aq rfl Tryz.func178 rfl rfl rfl ?_;refine ak ?_;refine ax.ind (fun q:Nat=>[(8,.t (.int .i64 (q:Int)))]) (fun q=>q<=C.length/\bj p C 0=bj p (C.drop q) q) (fun q=>C.length - q) 0 rfl (by simp) (fun q D=>?_);obtain⟨h1,h2⟩:=D;rw[h2];rcases Nat.lt_or_ge q C.length with h3|h3
 ·
  obtain⟨e,u⟩:=aj h3;have G:=rz u;have v:=hp e (List.mem_of_getElem? u);rw[drop_at u,iK];obtain⟨b,y⟩:∃b,p e=b:=⟨_,rfl⟩;rw[y]at v⊢
  cases b with
  |true=>
   exact ae
  |false=>
   exact ae
 ·
  rw[List.drop_of_length_le h3];exact ae
def Jq{C:List Hde}{p:Hde->Bool}{c1 c2:AV}(hl:C.length<=140737488351232)(hp:∀x∈C,Cl dX 151 [.t (.agg [.int .i64 x.table,.int .i64 x.fa,.int .i64 x.to]),.t c1,.t c2] [] (.t (.bool (p x))) []):Cl dX 150 [.t (.arr (cu C)),.t (.fn (.func 151) 0 [c1,c2])] [] (.t (.bool (C.any p))) []:=by
 have u:=Lh hl hp;rw[<- ik p C 0 (by omega)];refine Cl.aq rfl Tryz.func150 rfl rfl rfl ?_;obtain⟨n,v⟩:∃n,bj p C 0=n:=⟨_,rfl⟩;rw[v]at u⊢;exact ae
set_option maxHeartbeats 4000000
def Code.p0:Code->Code
 | .seq a _=>a
 | .block _ b=>b
 | .loop b=>b
 |c=>c
def Code.p1:Code->Code
 | .seq _ b=>b
 |c=>c
noncomputable def NQ:Code:=match Tryz.f98.body with
 |some c=>Code.p0 (Code.p1 (Code.p1 (Code.p0 (Code.p0 (Code.p1 (Code.p0 (Code.p1 (Code.p1 (Code.p1 (Code.p1 (Code.p1 c)))))))))))
 |none=>.skip
abbrev il(a0 a2 a3 a4 a5 a7:List (List AV))(tb:List Tb)(hd:List Hde):List AV:=[.arr a0,.arr (bq tb),.arr a2,.arr a3,.arr a4,.arr a5,.arr (cu hd),.arr a7]
def je(js:List AV)(O:List Int):Fr:=[.box false 152 (js.map .t),.map false (cY O) (eh O.length),.box false 186 [.lm 1]]
def lY(n:Nat)(q:Int):List (Nat×SV):=[(1,.lp 0 0),(7,.lp 2 0),(116,.t (.int .i64 (n:Int))),(117,.t (.int .i64 q))]
abbrev jj(M:Nat->Prop)(W:World):Ctx:=⟨M,fun _=>False,fun _=>False,W,fun _=>none⟩
section
variable {M:Nat->Prop} {W:World} {js:List AV} {hd:List Hde} {n:Nat} {O:List Int}
def erase_filter{O:List Int}(hn:O.Nodup){j:Nat}{t:Int}(h:O[j]?=some t):O.eraseIdx j=O.filter fun x=>!decide (x=t):=by
 induction O generalizing j with
 |nil=>simp at h
 |cons x O D=>
  obtain⟨h1,h2⟩:=List.nodup_cons.1 hn
  cases j with
  |zero=>
   simp at h;subst h;rw[List.eraseIdx_cons_zero,List.filter_cons];simp only[decide_true,Bool.not_true,Bool.false_eq_true,if_false];exact(List.filter_eq_self.2 fun y z=>by simp;rintro rfl;exact h1 z).symm
  |succ j=>
   have v:O[j]?=some t:=by simpa using h
   have u:x≠t:=by rintro rfl;exact h1 (List.mem_of_getElem? v)
   rw[List.eraseIdx_cons_succ,List.filter_cons,D h2 v];simp[u]
def Df{t:Int}{O:List Int}(h:t∈O):∃j,eB (.int .i64) (.int .i64 t) (cY O) 0=some (some j)/\O[j]?=some t:=by
 have y:(O.any fun u=>decide (u=t))=true:=u4 (decide_eq_true h);refine⟨O.findIdx fun u=>decide (u=t),by rw[vO,if_pos y,Nat.zero_add],?_⟩;have v:(O.findIdx fun u=>decide (u=t))<O.length:=List.findIdx_lt_length_of_exists ⟨t,h,by simp⟩;rw[List.getElem?_eq_getElem v];have:=List.findIdx_getElem (w:=v);simpa using this
def LA(O:List Int)(j:Nat):(cY O).eraseIdx j=cY (O.eraseIdx j):=by unfold cY;rw[Go.ChangeMaps.map_eraseIdx]
def Rp{n j:Nat}(h:j <n):(eh n).eraseIdx j=eh (n - 1):=by unfold eh;rw[List.eraseIdx_replicate,if_pos h]
def KV{j:Nat}{t:Int}(h:O[j]?=some t):(je js O).set 1 (.map false ((cY O).eraseIdx j) ((eh O.length).eraseIdx j))=je js (O.eraseIdx j):=by
 have u:=aC h;rw[LA,Rp u];unfold je;rw[List.length_eraseIdx_of_lt u];rfl
structure BL (M:Nat->Prop) (W:World) (js:List AV) (hd:List Hde) (n:Nat) (O:List Int) (L:Ls) (bm r clock:Nat) (kp:List (Nat×Value)) (ds:List Deferred) (m:Nat) (a:Act) (w:World):Prop where
 ex:∃(cur seen:List Int) (ents:Array MapEntry) (stamps:Array Nat) (c0:Nat),lj hd n O seen cur/\aw dK (jj M W) (je js cur) L w/\w.heap[bm]?=some (.map ents clock)/\w.heap[r]?=some (.mapIter (some bm) clock stamps c0)/\clock<=c0/\m=(leftOf ents stamps).size/\∀(j:Nat) (e:MapEntry) (t:Int),ents[j]?=some e->cur[j]?=some t->stamps.contains e.born=true->t∈seen
 size:a.tmps.size=Tryz.f98.ntmps
 mD:a.defers=ds
 kept:Kp kp a
 marks:Marks (jj M W) w ds
end
def Marks.other{κ:Ctx}{w:World}{ds:List Deferred}{x:Nat}{o z:Obj}(h:Marks κ w ds)(hx:w.heap[x]?=some o)(ho:∀l,o≠.deferred l):Marks κ (w.putObj x z) ds:=by
 obtain⟨⟨y,h1,h2,h3⟩,h4⟩:=h;refine⟨⟨y,h1,h2,fun D u=>⟨(h3 D u).1,?_⟩⟩,h4⟩;have v:D≠x:=fun e=>by subst e;rw[(h3 D u).2]at hx;cases hx;exact ho _ rfl
 exact(World.putObj_heap_other v).trans (h3 D u).2
def Ml(es:Array MapEntry)(u:Array Nat)(j:Nat):(leftOf (es.eraseIdxIfInBounds j) u).size<=(leftOf es u).size:=by
 have v:∀x:Array MapEntry,(leftOf x u).size=(x.toList.filter fun e=>!u.contains e.born).length:=fun x=>by
  rw[<- Array.length_toList (xs:=leftOf x u)];unfold leftOf;rw[Array.toList_filter]
 rw[v,v,sy];exact((List.eraseIdx_sublist es.toList j).filter _).length_le
def Marks.drewN{κ:Ctx}{w:World}{ds:List Deferred}(h:Marks κ w ds):Marks κ w.drew ds:=h
section
variable {M:Nat->Prop} {W:World} {a0 a2 a3 a4 a5 a7:List (List AV)} {tb:List Tb} {hd:List Hde} {n k len:Nat} {O:List Int} {q:Int}
def K_(e6:hd.length<=140737488351232)(hI:np hd n k O){a:Act}{w:World}(hA:At dK (jj M W) Tryz.f98.ntmps (di (lY len q)) (je (il a0 a2 a3 a4 a5 a7 tb hd) O) a w){dn:Nat}{Q:Exit->Act->World->Prop}
  (hQ:∀O' a' w',np hd n (k+1) O'->At dK (jj M W) Tryz.f98.ntmps (di (lY len q)) (je (il a0 a2 a3 a4 a5 a7 tb hd) O') a' w'->Q .normal a' w'):NQ.wpIn (Fw none) dn Tryz.prog Q a w:=by
 obtain⟨fl,hn,L,hC,hV⟩:=hA;have h7:SR _ L w (.lp 2 0) (a.tmps.getD 7 undef):=hV 7;have h1:SR _ L w (.lp 0 0) (a.tmps.getD 1 undef):=hV 1;have ch:=fA (k:=.i64) (n:=(len:Int)) (hV 116);have cl:=fA (k:=.i64) (n:=q) (hV 117);obtain⟨g7,a1,gO⟩:=lI h7;obtain⟨g1,cA,gG⟩:=lI h1;obtain⟨D,aq,y,V,hb,_⟩:=hC.blk 1 _ rfl;obtain⟨u7,bh,bl⟩:=tV (P:=Tryz.prog) (t:=186) (x:=.lm 1) hC (by kernel_rfl) h7
 have bh:(Instr.loadAt 186 (a.tmps.getD 7 undef)).run Tryz.prog w=.ok (.map (some D)) w:=by
  cases bl with
  |lm _ r hr=>rw[V]at hr;cases hr;exact bh
 refine wpIn_block ?_;refine wpIn_seq ?_;refine wpIn_region_lit ?_;refine jr rfl (fO rfl bh) ?_;have bi:(a.put (some 119) (.map (some D))).eval (.tmp 119)=.map (some D):=fE (by rw[hn];decide);refine jr rfl (fO rfl (w':=w.alloc (.mapIter (some D) y #[] y)) (v:=.pointer (some ⟨w.heap.size,0,none⟩)) (by rw[bi];exact run_range_map w 186 _ _ D aq y Tryz.underlying186 hb)) ?_;have be:(w.alloc (.mapIter (some D) y #[] y)).heap[w.heap.size]?=some (.mapIter (some D) y #[] y):=heap_alloc_new _ _;have G:Below w.heap.size w (w.alloc (.mapIter (some D) y #[] y)):=(Below.refl _ _).alloc (Nat.le_refl _) _;generalize hr:w.heap.size=r at be G⊢;have hF:=(Array.getElem?_eq_some_iff.1 hb).1;have ef:D≠r:=by omega
 have ft:W.heap.size<=r:=by have h0:W.heap.size<=w.heap.size:=hC.size;omega
 generalize hH:w.alloc (.mapIter (some D) y #[] y)=X at be G⊢;have I:∀(v u:Value),(((a.put (some 119) v).put (some 120) u)).tmps.size=Tryz.f98.ntmps:=fun v u=>by rw[bY,bY,hn]
 have ab:∀(v u:Value),Kp [(1,.pointer (some ⟨g1,0,none⟩)),(7,.pointer (some ⟨g7,0,none⟩)),(116,.int .i64 (len:Int)),(117,.int .i64 q),(120,u)] ((a.put (some 119) v).put (some 120) u):=fun v u p hp=>by
  simp only[List.mem_cons,List.not_mem_nil,or_false]at hp;rcases hp with rfl|rfl|rfl|rfl|rfl
  ·rw[ce (by simp),ce (by simp)];exact gG
  ·rw[ce (by simp),ce (by simp)];exact gO
  ·rw[ce (by simp),ce (by simp)];exact ch
  ·rw[ce (by simp),ce (by simp)];exact cl
  ·exact fE (by rw[bY,hn];decide)
 have bw:BL M W (il a0 a2 a3 a4 a5 a7 tb hd) hd n O L D r y [(1,.pointer (some ⟨g1,0,none⟩)),(7,.pointer (some ⟨g7,0,none⟩)),(116,.int .i64 (len:Int)),(117,.int .i64 q),(120,.pointer (some ⟨r,0,none⟩))] a.defers (leftOf aq #[]).size ((a.put (some 119) (.map (some D))).put (some 120) (.pointer (some ⟨r,0,none⟩))) X:=
  ⟨⟨O,[],aq,#[],y,lj.start,hC.later (by rw[hr];exact G),(G.block _ (by omega)).trans hb,be,Nat.le_refl _,rfl,fun j e t _ _ h=>by simp at h⟩,I _ _,by rw[put_defers,put_defers],ab _ _,fl.below (by rw[hr];exact G)⟩
 show Code.wpIn _ _ _ _ _ _ _
 refine wpIn_block ?_;refine yd (BL M W (il a0 a2 a3 a4 a5 a7 tb hd) hd n O L D r y [(1,.pointer (some ⟨g1,0,none⟩)),(7,.pointer (some ⟨g7,0,none⟩)),(116,.int .i64 (len:Int)),(117,.int .i64 q),(120,.pointer (some ⟨r,0,none⟩))] a.defers) _ bw ?_;clear bw ab I bl bh bi be G hV;intro m b Y ⟨⟨z,aR,J,st,c0,hP,aX,bT,ee,e0,fj,ej⟩,I,c4,ab,dr⟩;obtain⟨s1,s2,s3,s4,ek⟩:=aX.wv (i:=1) rfl V bT;have cc:∀(d:Nat) (v:Value),d <Tryz.f98.ntmps->(b.put (some d) v).eval (.tmp d)=v:=fun d v hd=>fE (by rw[I];exact hd);have ao:b.eval (.tmp 120)=.pointer (some ⟨r,0,none⟩):=ab (120,.pointer (some ⟨r,0,none⟩)) (by simp)
 have back:∀{O':List Int} {a':Act} {w':World},aw dK (jj M W) (je (il a0 a2 a3 a4 a5 a7 tb hd) O') L w'->a'.tmps.size=Tryz.f98.ntmps->Kp [(1,.pointer (some ⟨g1,0,none⟩)),(7,.pointer (some ⟨g7,0,none⟩)),(116,.int .i64 (len:Int)),(117,.int .i64 q),(120,.pointer (some ⟨r,0,none⟩))] a'->Marks (jj M W) w' a'.defers->At dK (jj M W) Tryz.f98.ntmps (di (lY len q)) (je (il a0 a2 a3 a4 a5 a7 tb hd) O') a' w':=fun{O' a' w'} hc h1 h2 h3=>by
  refine⟨h3,h1,L,hc,oT (tm:=fun t=>a'.tmps.getD t undef) _ fun p hp=>?_⟩;unfold lY at hp;simp only[List.mem_cons,List.not_mem_nil,or_false]at hp;rcases hp with rfl|rfl|rfl|rfl
  ·show SR _ _ _ _ (a'.tmps.getD 1 undef);rw[h2 (1,.pointer (some ⟨g1,0,none⟩)) (by simp)];exact .lp _ _ _ cA
  ·show SR _ _ _ _ (a'.tmps.getD 7 undef);rw[h2 (7,.pointer (some ⟨g7,0,none⟩)) (by simp)];exact .lp _ _ _ a1
  ·show SR _ _ _ _ (a'.tmps.getD 116 undef);rw[h2 (116,.int .i64 (len:Int)) (by simp)];exact .t _ _ (.int _ _)
  ·show SR _ _ _ _ (a'.tmps.getD 117 undef);rw[h2 (117,.int .i64 q) (by simp)];exact .t _ _ (.int _ _)
 refine wpIn_seq ?_;refine wpIn_region_lit ?_;rcases run_next_at (P:=Tryz.prog) Y _ r D y c0 st J y ee bT ek.lt e0 with⟨h0,ag⟩|⟨e,he,w1,aG,ag⟩
 ·
  refine jr rfl (fO rfl (by rw[ao];exact ag)) ?_;refine jr rfl (fO rfl (v:=.bool false) (w':=Y) (by rw[cc 121 _ (by decide)];rfl)) ?_;show Code.wpIn _ _ _ _ _ _ _
  refine wpIn_seq ?_;refine wpIn_cond_split (t:=false) (fE (by rw[bY,I];decide)) (fun h=>by cases h) (fun _=>?_);refine wpIn_exit ?_;refine hQ z _ _ (hI.pass hP fun t ht=>?_) (back aX (by rw[bY,bY,I]) ((ab.put (by simp)).put (by simp)) (by rw[put_defers,put_defers,c4];exact dr));obtain⟨j,hj⟩:=List.mem_iff_getElem?.1 ht;have a8:j <J.size:=by rw[s1];simpa[cY]using aC hj
  have e4:J[j]?=some J[j]:=Array.getElem?_eq_getElem a8;exact ej j _ t e4 hj (Mm h0 (by simp))
 ·
  obtain⟨bU,hG⟩:=mem_left he;obtain⟨j,hj⟩:=List.mem_iff_getElem?.1 bU;have hj:J[j]?=some e:=by simpa using hj
  have a8:j <z.length:=by
   have:=(Array.getElem?_eq_some_iff.1 hj).1;rw[s1]at this;simpa[cY]using this
  obtain⟨t,ht⟩:=aj a8;have da:e.key=.int .i64 t:=pk (s3 j _ e (by unfold cY;rw[List.getElem?_map,ht];rfl) hj);have e5:e.val=.bool true:=kK (s4 j _ e (uH a8) hj);have bf:w1.heap[r]?=some (.mapIter (some D) y st c0):=by rcases aG with rfl|rfl <;>exact ee
  have cL:w1.heap[D]?=some (.map J y):=by rcases aG with rfl|rfl <;>exact bT
  have cp:aw dK (jj M W) (je (il a0 a2 a3 a4 a5 a7 tb hd) z) L w1:=by rcases aG with rfl|rfl;exact aX;exact aX.later (Below.drew (Below.refl _ _))
  have dj:Marks (jj M W) w1 a.defers:=by rcases aG with rfl|rfl <;>exact dr
  obtain⟨Z,hZ⟩:∃Z,Go.ChangeMaps.setBlock w1 r (.mapIter (some D) y (st.push e.born) y)=Z:=⟨_,rfl⟩;have au:w1.putObj r (.mapIter (some D) y (st.push e.born) y)=Z:=hZ;have ai:aw dK (jj M W) (je (il a0 a2 a3 a4 a5 a7 tb hd) z) L Z:=by rw[<- au];exact cp.lq (Lq.put ft bf rfl)
  have fi:Marks (jj M W) Z a.defers:=by rw[<- au];exact dj.other bf (fun l h=>by cases h)
  have b3:Z.heap[r]?=some (.mapIter (some D) y (st.push e.born) y):=by rw[<- au];exact World.putObj_heap_same (Array.getElem?_eq_some_iff.1 bf).1
  have an:Z.heap[D]?=some (.map J y):=by rw[<- au];exact(World.putObj_heap_other ef).trans cL
  rw[hZ]at ag;clear hZ au cp dj bf cL aG;refine jr rfl (fO rfl (by rw[ao];exact ag)) ?_;refine jr rfl (fO rfl (v:=.bool true) (w':=Z) (by rw[cc 121 _ (by decide)];rfl)) ?_;show Code.wpIn _ _ _ _ _ _ _
  refine wpIn_seq ?_;refine wpIn_cond_split (t:=true) (fE (by rw[bY,I];decide)) (fun _=>?_) (fun h=>by cases h);refine wpIn_skip ?_;show Code.wpIn _ _ _ _ _ _ _
  refine wpIn_block ?_;refine wpIn_seq ?_;refine wpIn_region_lit ?_;have eb:(J.toList.map (·.born)).Nodup:=ek.up.imp fun h=>Nat.ne_of_lt h;refine jr rfl (fO rfl (v:=.tuple #[e.key,e.val]) (w':=Z) ?_) ?_
  ·have bx:((b.put (some 121) (.tuple #[.bool true,e.key,e.val])).put (some 122) (.bool true)).eval (.tmp 120)=.pointer (some ⟨r,0,none⟩):=(ce (by simp)).trans ((ce (by simp)).trans ao);rw[bx];exact run_entry_at Z r D y st J y e b3 an bU eb
  have ew:aw dK ⟨fun _=>True,fun _=>False,fun _=>False,Z,fun _=>none⟩ [] (fun _=>none) Z:=ai.pure _ fun _ _=>trivial;have hT:∀b,MA (fun _=>True) [] (fun _=>none) b:=fun b=>⟨trivial,fun⟨i,_,_,h,_⟩=>by cases h⟩;obtain⟨t1,t2,t3,t4,_⟩:=ai.wv (i:=1) rfl V an
  have vm:VR (MA (fun _=>True) [] fun _=>none) Z (.mp (cY z) (nl z.length)) (.map (some D)):=.mp D _ _ J y (Array.getElem?_eq_some_iff.1 an).1 (hT _) an t1 (by rw[t2];simp[eh,nl]) (fun j x u U hu=>VR.on (Nat.le_refl _) (fun b _ _=>⟨hT b,rfl⟩) (t3 j x u U hu)) fun j x u U hu=>by
   have ad:=aC U;unfold nl at U ad;rw[List.length_replicate]at ad;rw[List.getElem?_replicate,if_pos ad]at U;cases U;have:=kK (t4 j _ u (uH ad) hu);rw[this];exact .bool true
  have v7:SR (MA (fun _=>True) [] fun _=>none) (fun _=>none) Z (.t (.tp [.mp (cY z) (nl z.length)])) (.pointer (some ⟨g7,0,none⟩)):=by
   obtain⟨u,hu,fZ⟩:=yD ai (i:=2) (j:=0) (x:=.lm 1) rfl a1 rfl
   have b5:u=.map (some D):=by
    cases fZ with|lm _ r' h=>rw[V]at h;cases h;rfl
   subst b5;refine .t _ _ (.tp g7 0 _ (fun _=>.map (some D)) (by simp) (ai.new 2 _ g7 _ a1 (.one rfl) rfl).1 (hT _) (fun j hj=>?_) fun j x U=>?_)
   ·have:j=0:=by simp at hj;omega
    subst this;exact hu
   ·match j,U with
    |0,U=>cases U;exact vm
  have v1:SR (MA (fun _=>True) [] fun _=>none) (fun _=>none) Z (.t (.tp (il a0 a2 a3 a4 a5 a7 tb hd))) (.pointer (some ⟨g1,0,none⟩)):=
   .t _ _ ((nW ai (A:=MA (fun _=>True) [] fun _=>none) (fun b _=>hT b) deep).1 (.lp 0 0) _ _ rfl (fun _ _ _ b _ _=>hT b) (.lp _ _ _ cA))
  refine E9 (i:=1) (kp:=[(1,.pointer (some ⟨g1,0,none⟩)),(7,.pointer (some ⟨g7,0,none⟩)),(116,.int .i64 (len:Int)),(117,.int .i64 q),(120,.pointer (some ⟨r,0,none⟩))]) (ds:=a.defers) (n:=Tryz.f98.ntmps) (K:=fun e r=>e 1=.t (.tp (il a0 a2 a3 a4 a5 a7 tb hd))/\e 7=.t (.tp [.mp (cY z) (nl z.length)])/\e 10=.lp 0 0/\r=[.box false 3 [.t (.int .i64 t)]]) (env:=di [(1,.t (.tp (il a0 a2 a3 a4 a5 a7 tb hd))),(7,.t (.tp [.mp (cY z) (nl z.length)])),(123,.t (.aJ [.int .i64 t,.bool true]))]) (fr:=[]) fM ?_ (by simp) (by kernel_rfl) (by simp) (((ab.put (by simp)).put (by simp)).put (by simp)) (by rw[put_defers,put_defers,put_defers,c4]) (by rw[bY,bY,bY,I]) ew (oT (tm:=fun t=>(((b.put (some 121) (.tuple #[.bool true,e.key,e.val])).put (some 122) (.bool true)).put (some 123) (.tuple #[e.key,e.val])).tmps.getD t undef) _ fun p hp=>?_) fun hB fr1 L1 b1 Z1 ey fa e2 fm ev bz=>?_
  ·
   refine ak ?_;exact⟨rfl,rfl,rfl,rfl⟩
  ·have k3:=((ab.put (d:=some 121) (v:=.tuple #[.bool true,e.key,e.val]) (by simp)).put (d:=some 122) (v:=.bool true) (by simp)).put (d:=some 123) (v:=.tuple #[e.key,e.val]) (by simp);simp only[List.mem_cons,List.not_mem_nil,or_false]at hp;rcases hp with rfl|rfl|rfl
   ·show SR _ _ _ _ (Array.getD _ 1 undef);rw[k3 (1,.pointer (some ⟨g1,0,none⟩)) (by simp)];exact v1
   ·show SR _ _ _ _ (Array.getD _ 7 undef);rw[k3 (7,.pointer (some ⟨g7,0,none⟩)) (by simp)];exact v7
   ·show SR _ _ _ _ (Array.getD _ 123 undef)
    rw[fE (by rw[bY,bY,I];decide),da,e5];refine .t _ _ (.aJ _ _ rfl fun j x u U hu=>?_)
    match j,U,hu with
    |0,U,hu=>cases U;simp at hu;rw[<- hu];exact .int _ _
    |1,U,hu=>cases U;simp at hu;rw[<- hu];exact .bool _
  obtain⟨y1,y7,gT,rfl⟩:=ey;show Code.wpIn _ _ _ _ _ _ _
  refine wpIn_seq ?_;refine wpIn_region_lit ?_;have kc:=Jq (C:=hd) (p:=fun h=>decide (h.table=t)&&decide (h.to∈z)) e6 (fun h _=>K8 h t z);have b4:k_ hd z t=!(hd.any fun h=>decide (h.table=t)&&decide (h.to∈z)):=rfl;obtain⟨bb,eL⟩:∃bb,(hd.any fun h=>decide (h.table=t)&&decide (h.to∈z))=bb:=⟨_,rfl⟩;rw[eL]at kc b4;refine E9 (i:=0) (kp:=[(1,.pointer (some ⟨g1,0,none⟩)),(7,.pointer (some ⟨g7,0,none⟩)),(116,.int .i64 (len:Int)),(117,.int .i64 q),(120,.pointer (some ⟨r,0,none⟩))]) (ds:=a.defers) (n:=Tryz.f98.ntmps) (K:=fun e r=>e 130=.t (.bool (!bb))/\e 10=.lp 0 0/\r=[.box false 3 [.t (.int .i64 t)]]) (env:=di [(1,.t (.tp (il a0 a2 a3 a4 a5 a7 tb hd))),(7,.t (.tp [.mp (cY z) (nl z.length)])),(10,.lp 0 0)]) fM ?_ (by simp) (by kernel_rfl) (by simp) fa e2 fm ev (oT (tm:=fun t=>b1.tmps.getD t undef) _ fun p hp=>?_) fun hD hE L2 b2 Z2 eE b0 cQ bd al cI=>?_
  ·
   refine ak ?_;exact⟨rfl,rfl,rfl⟩
  ·simp only[List.mem_cons,List.not_mem_nil,or_false]at hp;rcases hp with rfl|rfl|rfl
   ·rw[<- y1];exact bz 1
   ·rw[<- y7];exact bz 7
   ·rw[<- gT];exact bz 10
  obtain⟨eo,gV,rfl⟩:=eE;have a6:Below Z.heap.size Z Z2:=⟨al.os,al.tape,al.output,al.size,fun k hk=>al.kept k hk fun h=>h⟩;have aV:aw dK (jj M W) (je (il a0 a2 a3 a4 a5 a7 tb hd) z) L Z2:=ai.later a6;have av:Z2.heap[D]?=some (.map J y):=(a6.block _ (Array.getElem?_eq_some_iff.1 an).1).trans an;have ec:Z2.heap[r]?=some (.mapIter (some D) y (st.push e.born) y):=(a6.block _ (Array.getElem?_eq_some_iff.1 b3).1).trans b3;have dm:Marks (jj M W) Z2 a.defers:=fi.below a6;have aB:(leftOf J (st.push e.born)).size <m:=by rw[fj];exact left_shrinks J st e he
  have aD:∀(j':Nat) (e':MapEntry) (t':Int),J[j']?=some e'->z[j']?=some t'->(st.push e.born).contains e'.born=true->t'∈t::aR:=by
   intro j' e' t' q1 q2 q3;rw[contains_push,Bool.or_eq_true]at q3;rcases q3 with q3|q3
   ·exact List.mem_cons_of_mem _ (ej j' e' t' q1 q2 q3)
   ·have e3:e'=e:=born_inj eb (by rw[Array.mem_toList_iff];exact Array.mem_of_getElem? q1) bU (by simpa using q3);have df:e'.key=.int .i64 t':=pk (s3 j' _ e' (by unfold cY;rw[List.getElem?_map,q2];rfl) q1);rw[e3,da]at df;cases df;exact List.mem_cons_self
  have cg:b2.eval (.tmp 130)=.bool (!bb):=kK (by rw[<- eo];exact cI 130);have e7:b2.tmps.getD 7 undef=.pointer (some ⟨g7,0,none⟩):=b0 (7,.pointer (some ⟨g7,0,none⟩)) (by simp);have cf:=cI 10;rw[gV]at cf;show Code.wpIn _ _ _ _ _ _ _
  refine wpIn_cond_split cg (fun eR=>?_) (fun eN=>?_)
  ·
   obtain⟨u,gd,gf⟩:=tV (P:=Tryz.prog) (t:=186) (s:=.lp 2 0) (x:=.lm 1) (v:=b2.tmps.getD 7 undef) aV (by kernel_rfl) (by rw[e7];exact .lp _ _ _ a1)
   have b5:u=.map (some D):=by
    cases gf with|lm _ r' h=>rw[V]at h;cases h;rfl
   subst b5;obtain⟨u,gg,gj⟩:=tV (P:=Tryz.prog) (t:=3) (x:=.t (.int .i64 t)) al (by kernel_rfl) cf;have gm:u=.int .i64 t:=fA gj;subst gm;obtain⟨jf,hf,dd⟩:=Df (List.mem_of_getElem? ht);have e1:z.Nodup:=hP.sub.nodup hI.yP;refine wpIn_region_lit ?_;refine jr rfl (fO rfl (v:=.map (some D)) (w':=Z2) gd) ?_;refine jr rfl (fO rfl (v:=.int .i64 t) (w':=Z2) ?_) ?_
   ·have:(b2.put (some 131) (.map (some D))).eval (.tmp 10)=b2.tmps.getD 10 undef:=ce (by simp);rw[this];exact gg
   refine jr rfl (Kx rfl rfl (w':=fH Z2 D (.map (J.eraseIdxIfInBounds jf) y)) ?_) ?_
   ·have q1:((b2.put (some 131) (.map (some D))).put (some 132) (.int .i64 t)).eval (.tmp 131)=.map (some D):=(ce (by simp)).trans (fE (by rw[bd];decide));have q2:((b2.put (some 131) (.map (some D))).put (some 132) (.int .i64 t)).eval (.tmp 132)=.int .i64 t:=fE (by rw[bY,bd];decide);rw[q1,q2];exact PD (e:=4) (d:=.int .i64) (ka:=.int .i64 t) (i:=1) (j:=jf) aV (by kernel_rfl) rfl V av (.int _ _) hf
   have ct:=(aV.erase (i:=1) (j:=jf) rfl V av).1;rw[KV dd]at ct;have cM:=(Array.getElem?_eq_some_iff.1 av).1;show∃n',n' <m/\_
   refine⟨(leftOf (J.eraseIdxIfInBounds jf) (st.push e.born)).size,Nat.lt_of_le_of_lt (Ml _ _ _) aB,⟨z.eraseIdx jf,t::aR,J.eraseIdxIfInBounds jf,st.push e.born,y,?_,ct,xg cM,(World.putObj_heap_other (Ne.symm ef)).trans ec,Nat.le_refl _,rfl,?_⟩,by rw[bY,bY,bY,bd],by rw[put_defers,put_defers,put_defers,cQ],((b0.put (by simp)).put (by simp)).put (by simp),dm.other av (fun l h=>by cases h)⟩
   ·rw[erase_filter e1 dd];exact hP.drop (by rw[b4];exact eR)
   ·intro j' e' t' q1 q2 q3;have q1:=zb q1;have q2:=zc q2;by_cases hq:j' <jf
    ·rw[if_pos hq]at q1 q2;exact aD _ _ _ q1 q2 q3
    ·rw[if_neg hq]at q1 q2;exact aD _ _ _ q1 q2 q3
  ·
   refine wpIn_skip ?_;show∃n',n' <m/\_
   exact⟨_,aB,⟨z,t::aR,J,st.push e.born,y,hP.im (by rw[b4];exact eN),aV,av,ec,Nat.le_refl _,rfl,aD⟩,bd,cQ,b0,dm⟩
end
set_option maxRecDepth 100000
set_option maxHeartbeats 16000000
def lQ:List Hde->List Int->List Int
 |[],O=>O
 |h::l,O=>lQ l (if h.table∈O then O else O++[h.table])
def lR(l:List Hde)(q:Nat):List Int:=lQ (l.take q) []
theorem E5:∀(l r:List Hde) (O:List Int),lQ (l++r) O=lQ r (lQ l O)
 |[],r,O=>rfl
 |h::l,r,O=>E5 l r _
def NE{l:List Hde}{q:Nat}{h:Hde}(hh:l[q]?=some h):lR l (q+1)=if h.table∈lR l q then lR l q else lR l q++[h.table]:=by
 unfold lR;rw[List.take_add_one,hh,E5];rfl
theorem E7:∀(l:List Hde) (O:List Int),O.Nodup->(lQ l O).Nodup
 |[],O,h=>h
 |x::l,O,h=>E7 l _ (by
  split
  ·exact h
  ·rename_i y;exact List.nodup_append.2 ⟨h,by simp,fun a v b u=>by simp at u;subst u;rintro rfl;exact y v⟩)
theorem E6:∀(l:List Hde) (O:List Int) (t:Int),t∈lQ l O↔t∈O\/∃h∈l,h.table=t
 |[],O,t=>by simp[lQ]
 |x::l,O,t=>by
  unfold lQ;rw[E6 l];split
  ·rename_i y;constructor
   ·rintro(h|⟨g,u,v⟩)
    ·exact .inl h
    ·exact .inr ⟨g,by simp[u],v⟩
   ·rintro(h|⟨g,u,v⟩)
    ·exact .inl h
    ·rcases List.mem_cons.1 u with rfl|u
     ·exact .inl (v ▸ y)
     ·exact .inr ⟨g,u,v⟩
  ·constructor
   ·rintro(h|⟨g,u,v⟩)
    ·rcases List.mem_append.1 h with h|h
     ·exact .inl h
     ·simp at h;exact .inr ⟨x,by simp,h.symm⟩
    ·exact .inr ⟨g,by simp[u],v⟩
   ·rintro(h|⟨g,u,v⟩)
    ·exact .inl (by simp[h])
    ·rcases List.mem_cons.1 u with rfl|u
     ·exact .inl (by simp[v])
     ·exact .inr ⟨g,u,v⟩
theorem Ao:∀(l:List Hde) (O:List Int),(lQ l O).length<=O.length+l.length
 |[],O=>Nat.le_refl _
 |x::l,O=>by
  unfold lQ;by_cases u:x.table∈O
  ·rw[if_pos u];have:=Ao l O;simp;omega
  ·rw[if_neg u];have:=Ao l (O++[x.table]);simp at this⊢;omega
def NF{m:Md}(hok:m.aG.all (fe m)=true):np m.aG m.tables.length 0 (lR m.aG m.aG.length):=by
 have y:∀t,t∈lR m.aG m.aG.length↔∃h∈m.aG,h.table=t:=fun t=>by unfold lR;rw[List.take_length,E6];simp
 refine⟨E7 _ _ List.nodup_nil,fun t G=>?_,fun _=>?_,fun h v z x I=>?_⟩
 ·obtain⟨h,v,rfl⟩:=(y t).1 G;have:=List.all_eq_true.1 hok h v;unfold fe rC at this;simp only[Bool.and_eq_true,decide_eq_true_eq]at this;omega
 ·have:=Ao (m.aG.take m.aG.length) [];rw[List.take_length]at this;unfold lR;rw[List.take_length];simpa using this
 ·obtain⟨g,D,u,_⟩:=E0 v z I;exact(y x).2 ⟨g,D,u⟩
def Do{σ:Nat->Option Nat}{ks:List AV}{n:Nat}{b v:Lb}{bs u:Fr}(hb:b=v)(h:bs=u):(b::Lb.map false ks (SV.cM σ (eh n))::bs)=v::Lb.map false ks (eh n)::u:=by rw[BC,sx,hb,h]
def tZ(i n:Int):Cl dX 142 [.t (.int .i64 i),.t (.int .i64 n)] [] (.t (.bool (decide (0<=i)&&decide (i <n)))) []:=by
 refine Cl.aq rfl Tryz.func142 rfl rfl rfl ?_;exact ae
def K9{a0 a2 a3 a4 a5 a7:List (List AV)}{m:Md}(hT:m.tables.length<=17592186044416)(hH:m.aG.length<=17592186044416):gN Tryz.prog 98/\∀(κ:Ctx) (w:World) (us:Array Value),aw dK κ [] κ.L w->κ.W=w->us.size=[AV.agg (il a0 a2 a3 a4 a5 a7 m.tables m.aG)].length->(∀(j:Nat) (x:AV) (u:Value),[AV.agg (il a0 a2 a3 a4 a5 a7 m.tables m.aG)][j]?=some x->us[j]?=some u->VR (MA κ.M [] κ.L) w x u)->
  Calls Tryz.prog 98 us w fun e w'=>∃v L',e=.returned v/\aw dK κ [] L' w'/\SR (MA κ.M [] L') L' w' (.t (.bool (gC m))) v:=by
 have aq:=rA m.aG;have au:=fJ m.tables;refine K5 Tryz.func98 rfl (by decide) (show(1:Nat)<=Tryz.f98.ntmps by decide) (by decide) fun M W hM=>?_;show HW dK (jj M W) _ dX.P _ (kY [.t (.agg [.arr a0,.arr (bq m.tables),.arr a2,.arr a3,.arr a4,.arr a5,.arr (cu m.aG),.arr a7])]) [] _
 refine HW.ev (f:=98) fM ?_ (by kernel_rfl);refine ak ?_;refine HW.ev (f:=98) fM ?_ (by kernel_rfl);by_cases ad:m.aG.length<=12
 ·
  have e0:gC m=((m.aG.drop 0).all (fe m)&&(m.aG.drop 0).all fun h=>!ci m.aG m.tables.length h.to h.table):=by unfold gC;simp[ad]
  obtain⟨Y,hY⟩:∃Y,((m.aG.drop 0).all fun h=>!ci m.aG m.tables.length h.to h.table)=Y:=⟨_,rfl⟩;rw[e0,hY];refine ak ?_;refine HW.ev (f:=98) fM ?_ (by kernel_rfl);refine ak ?_;refine ax.ind (fun q:Nat=>[(20,.t (.int .i64 (q:Int)))]) (fun q=>q<=m.aG.length/\(m.aG.drop 0).all (fe m)=(m.aG.drop q).all (fe m)) (fun q=>m.aG.length - q) 0 rfl ⟨by omega,rfl⟩ (fun q hq=>?_);obtain⟨h1,h2⟩:=hq;rw[h2];rcases Nat.lt_or_ge q m.aG.length with h3|h3
  ·
   obtain⟨h,hh⟩:=aj h3;have an:=rz hh;have I:=i_ (fe m) hh;by_cases D:0<=h.table/\h.table <m.tables.length/\0<=h.to/\h.to <m.tables.length/\h.table≠h.to
   ·
    obtain⟨t,ht⟩:=aj (xs:=m.tables) (k:=h.table.toNat) (by omega);obtain⟨u,hu⟩:=aj (xs:=m.tables) (k:=h.to.toNat) (by omega);have aV:=fo ht;have aX:=fo hu;have aD:=aO t.av;have aJ:=aO u.av;have G:=DD D ht hu;obtain⟨a1,a2,a3,a4,a5⟩:=D;have k1:=tZ h.table (m.tables.length:Int);have k2:=tZ h.to (m.tables.length:Int);have k3:=tZ h.fa (t.av.length:Int);rw[decide_eq_true a1,decide_eq_true a2,Bool.true_and]at k1;rw[decide_eq_true a3,decide_eq_true a4,Bool.true_and]at k2;by_cases hB:(0<=h.fa/\h.fa <t.av.length)/\u.av.length=1
    ·
     obtain⟨⟨b1,b2⟩,b3⟩:=hB;rw[decide_eq_true b1,decide_eq_true b2,Bool.true_and]at k3;obtain⟨y,hy⟩:=D8 b3;obtain⟨z,hz⟩:=aj (xs:=t.av) (k:=h.fa.toNat) (by omega);have a6:(aE u.av)[0]?=some [.int .i64 y]:=aW (by rw[hy];rfl);have a8:=aW hz;have ey:u.av.getD 0 0=y:=by rw[hy];rfl
     rw[ey,fb hz]at G;by_cases hP:t.kind=0/\u.kind=0/\y=z
     ·
      have ab:fe m h=true:=G.2 ⟨hP.1,hP.2.1,⟨b1,b2⟩,b3,hP.2.2⟩;rw[ab,Bool.true_and]at I;obtain⟨p1,p2,p3⟩:=hP;rw[I];exact ae
     ·
      have J:fe m h=false:=by rw[<- Bool.not_eq_true,G];exact fun h'=>hP ⟨h'.1,h'.2.1,h'.2.2.2.2⟩
      rw[I,J,Bool.false_and,Bool.false_and]
      repeat'(first
|(refine aY ?_)
|((with_reducible apply aa.gm)<;>intro hq)
|((with_reducible apply aa.fj)<;>intro hq)
|(refine ar ?_)
|((with_reducible apply az.u);(case hfl=>kernel_rfl);(case hx=>exact af))
|((with_reducible apply aa.aB);(case hW=>exact rfl);(case hx=>first
|(exact ap k2)
|(exact ap k3)
|exact af))
|((with_reducible apply aa.u0);(case hx=>first
|(exact ap k1)
|exact af))
|fail)
      all_goals first
       |exact fun a w D=>⟨_,_,_,.inr rfl,D,rfl,rfl⟩
       |(exfalso;apply hP;refine⟨?_,?_,?_⟩<;>first|assumption|omega)
    ·
     have J:fe m h=false:=by rw[<- Bool.not_eq_true,G];exact fun h'=>hB ⟨h'.2.2.1,h'.2.2.2.1⟩
     rw[I,J,Bool.false_and,Bool.false_and];obtain⟨b,hb⟩:∃b,(decide (0<=h.fa)&&decide (h.fa <(t.av.length:Int)))=b:=⟨_,rfl⟩;rw[hb]at k3
     cases b with
     |false=>
      repeat'(first
|(refine aY ?_)
|((with_reducible apply aa.gm)<;>intro hq)
|((with_reducible apply aa.fj)<;>intro hq)
|(refine ar ?_)
|((with_reducible apply az.u);(case hfl=>kernel_rfl);(case hx=>exact af))
|((with_reducible apply aa.aB);(case hW=>exact rfl);(case hx=>first
|(exact ap k2)
|(exact ap k3)
|exact af))
|((with_reducible apply aa.u0);(case hx=>first
|(exact ap k1)
|exact af))
|fail)
      all_goals exact fun a w D=>⟨_,_,_,.inr rfl,D,rfl,rfl⟩
     |true=>
      have b3:u.av.length≠1:=fun e=>hB ⟨by simpa using hb,e⟩
      repeat'(first
|(refine aY ?_)
|((with_reducible apply aa.gm)<;>intro hq)
|((with_reducible apply aa.fj)<;>intro hq)
|(refine ar ?_)
|((with_reducible apply az.u);(case hfl=>kernel_rfl);(case hx=>exact af))
|((with_reducible apply aa.aB);(case hW=>exact rfl);(case hx=>first
|(exact ap k2)
|(exact ap k3)
|exact af))
|((with_reducible apply aa.u0);(case hx=>first
|(exact ap k1)
|exact af))
|fail)
      all_goals exact fun a w D=>⟨_,_,_,.inr rfl,D,rfl,rfl⟩
   ·
    have J:=DC D;rw[I,J,Bool.false_and,Bool.false_and];have k1:=tZ h.table (m.tables.length:Int);have k2:=tZ h.to (m.tables.length:Int);obtain⟨b1,V⟩:∃b,(decide (0<=h.table)&&decide (h.table <(m.tables.length:Int)))=b:=⟨_,rfl⟩;obtain⟨b2,Z⟩:∃b,(decide (0<=h.to)&&decide (h.to <(m.tables.length:Int)))=b:=⟨_,rfl⟩;rw[V]at k1;rw[Z]at k2
    cases b1 with
    |false=>
     refine ak ?_
     all_goals exact fun a w D=>⟨_,_,_,.inr rfl,D,rfl,rfl⟩
    |true=>cases b2 with
     |false=>
      refine ak ?_
      all_goals exact fun a w D=>⟨_,_,_,.inr rfl,D,rfl,rfl⟩
     |true=>
      simp only[Bool.and_eq_true,decide_eq_true_eq]at V Z;have he:h.table=h.to:=Classical.byContradiction fun he=>D ⟨V.1,V.2,Z.1,Z.2,he⟩;refine ak ?_
      all_goals exact fun a w D=>⟨_,_,_,.inr rfl,D,rfl,rfl⟩
  ·
   have ab:m.aG.all (fe m)=true:=by rw[List.drop_zero]at h2;rw[h2,g_ _ h3]
   rw[g_ _ h3,Bool.true_and];refine ak ?_;refine HW.ev (f:=98) fM ?_ (by kernel_rfl);refine ak ?_;refine HW.ev (f:=98) fM ?_ (by kernel_rfl);refine ak ?_;refine ax.cA (fun q:Nat=>[(105,.t (.int .i64 (q:Int)))]) (fun q=>je [.arr a0,.arr (bq m.tables),.arr a2,.arr a3,.arr a4,.arr a5,.arr (cu m.aG),.arr a7] (lR m.aG q)) (fun q=>q<=m.aG.length) (fun q=>m.aG.length - q) 0 rfl rfl (by omega) (fun q h1=>?_);rcases Nat.lt_or_ge q m.aG.length with h3|h3
   ·
    obtain⟨h,hh⟩:=aj h3;have an:=rz hh;have U:=NE hh;obtain⟨O,hO⟩:∃O,lR m.aG q=O:=⟨_,rfl⟩;rw[hO]at U⊢;by_cases hm:h.table∈O
    ·
     rw[if_pos hm]at U;obtain⟨j,hf,hj⟩:=Df hm;have hvs:=Rq (n:=O.length) (j:=j)
     repeat'(first
|((with_reducible apply aa.aR);(case hp=>exact aA))
|(refine ar ?_)
|((with_reducible apply aa.u0);(case hx=>first
|((with_reducible apply ac.M8);(case hs=>exact fun _=>rfl);(case hm|ha|hk|hd|hy|hb=>exact rfl);(case hf=>exact hf);(case hvs=>exact hvs);(case hfr=>exact leq))
|exact af))
|fail)
     exact⟨q+1,rfl,by rw[U];exact Do rfl rfl,by omega,by omega⟩
    ·
     rw[if_neg hm]at U;have hf:=vQ (u4 (decide_eq_false hm));have hks:=LB (N:=O) (s:=h.table);have hvs:=x_ O.length
     repeat'(first
|((with_reducible apply aa.aR);(case hp=>exact aA))
|(refine ar ?_)
|((with_reducible apply aa.u0);(case hx=>first
|((with_reducible apply ac.qs);(case hs=>exact fun _=>rfl);(case hm|ha|hk|hd|hy|hb=>exact rfl);(case hf=>exact hf);(case hks=>exact hks);(case hvs=>exact hvs);(case hfr=>exact leq))
|exact af))
|fail)
     exact⟨q+1,rfl,by rw[U];unfold je;rw[List.length_append];exact Do rfl rfl,by omega,by omega⟩
   ·
    obtain rfl:q=m.aG.length:=by omega
    refine ak ?_;refine HW.seq ?_;refine HW.ev (f:=98) fM ?_ (by kernel_rfl);refine ak ?_;refine HW.o8 (lY m.aG.length (0:Nat)) (fun p hp=>by unfold lY at hp;simp only[List.mem_cons,List.not_mem_nil,or_false]at hp;rcases hp with rfl|rfl|rfl|rfl <;>rfl) ?_;refine HW.block ?_;refine HW.loop (fun k e r=>∃(q:Nat) (O:List Int),k=m.aG.length - q/\q<=m.aG.length/\e=di (lY m.aG.length (q:Int))/\r=je (il a0 a2 a3 a4 a5 a7 m.tables m.aG) O/\np m.aG m.tables.length q O) m.aG.length ⟨0,_,by omega,by omega,rfl,rfl,NF ab⟩ ?_;rintro k e r ⟨q,O,rfl,hq,rfl,rfl,hI⟩;refine HW.ev (f:=98) fM ?_ (by kernel_rfl);rcases Nat.lt_or_ge q m.aG.length with h3|h3
    ·
     refine ak ?_;refine HW.ev (f:=98) fM ?_ (by kernel_rfl);refine ak ?_;refine HW.seq ?_;intro dn a w D;refine K_ (len:=m.aG.length) (q:=(q:Int)) (by omega) hI (D.o8 (lY m.aG.length (q:Int)) (fun p hp=>by unfold lY at hp;simp only[List.mem_cons,List.not_mem_nil,or_false]at hp;rcases hp with rfl|rfl|rfl|rfl <;>rfl)) fun O' a' w' ai ag=>?_;refine⟨_,_,ag,?_⟩;refine HW.one (f:=98) fM ?_ (by kernel_rfl);refine ak ?_;exact fun a w D=>⟨m.aG.length - (q+1),_,_,by omega,⟨q+1,O',rfl,by omega,rfl,rfl,ai⟩,D.o8 (lY m.aG.length ((q+1:Nat):Int)) (fun p hp=>by unfold lY at hp;simp only[List.mem_cons,List.not_mem_nil,or_false]at hp;rcases hp with rfl|rfl|rfl|rfl <;>rfl)⟩
    ·
     obtain rfl:q=m.aG.length:=by omega
     have al:Y=decide (O.length=0):=by rw[hI.done,<- hY,List.drop_zero]
     subst al;refine ak ?_;refine HW.ev (f:=98) fM ?_ (by kernel_rfl);refine ak ?_;refine fun a w D=>⟨_,_,D,?_⟩;refine HW.one (f:=98) fM ?_ (by kernel_rfl)
     cases O with
     |nil=>
      have ao:(cY ([]:List Int)).length=0:=rfl;refine ak ?_;exact fun a w D=>⟨_,_,_,.inr rfl,D,rfl,rfl⟩
     |cons x O=>
      have ao:(cY (x::O)).length=O.length+1:=by simp[cY]
      rw[show decide ((x::O).length=0)=false from decide_eq_false (by simp)];refine ak ?_;exact fun a w D=>⟨_,_,_,.inr rfl,D,rfl,rfl⟩
 ·
  have e0:gC m=false:=by unfold gC;rw[decide_eq_false ad];rfl
  rw[e0];refine ak ?_;exact fun a w D=>⟨_,_,_,.inr rfl,D,rfl,rfl⟩
theorem DV:∀{W:List (List UInt8)} {ks vs:List AV},p9 W ks vs=true->ks=(W.map fun w=>.str ⟨w.toArray⟩)/\vs=W.map fun _=>.bool true
 |[],[],[],_=>⟨rfl,rfl⟩
 |w::W,.str s::ks,.bool true::vs,h=>by
  unfold p9 at h;rw[Bool.and_eq_true]at h;obtain⟨h1,h2⟩:=DV h.2;have hs:s=⟨w.toArray⟩:=of_decide_eq_true h.1;subst hs h1 h2;exact⟨rfl,rfl⟩
 |[],[],_::_,h=>by cases h
 |[],_::_,_,h=>by cases h
 |_::_,[],_,h=>by cases h
def rK:List ByteArray:=cZ.map bs
def DW(w:List UInt8):(rK.any fun u=>decide (u=bs w))=decide (w∈cZ):=by
 unfold rK;rw[List.any_map]
 cases y:decide (w∈cZ)with
 |true=>
  rw[List.any_eq_true];exact⟨w,of_decide_eq_true y,by simp⟩
 |false=>
  rw[List.any_eq_false];intro x z v;have v:bs x=bs w:=by simpa using v
  obtain rfl:=q8 v;exact of_decide_eq_false y z
def L5{j:Nat}(h:j <rK.length):(iM.map SV.t)[j]?=some (.t (.bool true)):=by
 have u:j <cZ.length:=by unfold rK at h;simpa using h
 unfold iM;rw[List.getElem?_map,List.getElem?_map,List.getElem?_eq_getElem u];rfl
def BF{P:Program}{rd:Option Nat}{dn:Nat}{ops:Array Oper}{Q:Exit->Act->World->Prop}{a:Act}{w:World}{o:Oper}{l:List Oper}{j d:Nat}{b:Bool}(hg:o.guard=some (j,!b))(hd:(ops[j]?).bind (·.dst)=some d)(hv:a.tmps.getD d undef=.bool b)(hl:d <a.tmps.size)(h:wpListIn (Fw rd) dn P ops Q l (a.put o.dst undef) w):wpListIn (Fw rd) dn P ops Q (o::l) a w:=by
 have v:Region.wanted o (yielded ops a.tmps)=false:=pm (A:=fun _=>True) (L:=fun _=>none) (w:=w) (env:=di [(d,.t (.bool b))]) hg (by unfold cP;rw[hd];cases b <;>simp[di,ru,un]) fun y u=>by
  rw[hd]at u;cases u;refine⟨?_,hl⟩;rw[hv];simp only[di,Nat.beq_refl];exact .t _ _ (.bool b)
 unfold wpListIn;rw[v,if_neg (by simp)];exact⟨fun _ _=>trivial,h⟩
def LG{A:Nat->Prop}{L:Ls}{w:World}{f:Fn}{v:Value}(h:SR A L w (.t (.fn f 0 [])) v):v=.func f #[] #[]:=by
 cases h with
 |t _ _ h=>
  generalize u:AV.fn f 0 []=x at h
  cases h with
  |fn I G y D z J=>
   injection u with h1 h2 h3
   subst h1 h3;have h1:y=#[]:=Array.eq_empty_of_size_eq_zero h2.symm;subst h1;have h2:D=#[]:=Array.eq_empty_of_size_eq_zero (by simpa using z);subst h2;rfl
  |_=>cases u
theorem HF:∀l:List UInt8,mh l<=l.length
 |[]=>Nat.le_refl _
 |b::r=>by
  have:=HF r;unfold mh;split <;>simp <;>omega
def QW(l:List UInt8):fQ l<=2:=by
 unfold fQ;split
 ·omega
 ·split
  ·omega
  ·split <;>omega
def Rf{l:List UInt8}{v1 v2:Value}(hl:l.length<=1000000):uU dK Tryz.prog 198 #[v1,v2] (uQ [.tp [.str (bs l)],.tp [.mp jK iM]] #[v1,v2]) [ph l] false:=by
 refine⟨⟨_,Tryz.func198,by kernel_rfl,rfl⟩,fun V J Jx A W hJ hX hK be hY h0 m=>callsIn_of_wp Tryz.func198 rfl trivial ?_ rfl⟩;obtain⟨ag,ab⟩:=hK _ _ _ h0;have aJ:(bs l).size=l.length:=e9 l;have hM:∀b,A b->MA A [] (fun _=>none) b:=fun b hb=>⟨hb,fun⟨i,_,_,h,_⟩=>by cases h⟩;have bb:aw dK ⟨A,fun _=>False,fun _=>True,W,fun _=>none⟩ [] (fun _=>none) W:={glob:=ag.glob,gn:=ag.gn,gx:=fun _ h=>h.elim,fresh:=ag.fresh,os:=rfl,tape:=rfl,output:=rfl,size:=Nat.le_refl _,kept:=fun _ _ _=>rfl,lim:=(fun _ _ h=>by cases h),new:=(fun _ _ _ _ h=>by cases h),dis:=(fun _ _ _ _ _ h=>by cases h),hand:=(fun _ _ h=>by cases h),blk:=(fun _ _ h=>by cases h)}
 have hA:At dK ⟨A,fun _=>False,fun _=>True,W,fun _=>none⟩ Tryz.f198.ntmps (di [(0,.t (.fn (.yield V) 0 [])),(1,.t (.tp [.str (bs l)])),(2,.t (.tp [.mp jK iM]))]) [] {tmps:=#[.func (.yield V) #[] #[]]++#[v1,v2]++Array.replicate (Tryz.f198.ntmps - (#[Value.func (.yield V) #[] #[]]++#[v1,v2]).size) undef,defers:=[]} W:=by
  refine⟨Marks.nil,by simp,_,bb,oT (tm:=fun t=>Array.getD _ t undef) _ fun p hp=>?_⟩;simp only[List.mem_cons,List.not_mem_nil,or_false]at hp;rcases hp with rfl|rfl|rfl
  ·simp[Array.getD_eq_getD_getElem?,Array.getElem?_append];exact .t _ _ (.fn (.yield V) [] #[] #[] rfl fun j x u hx=>by simp at hx)
  ·simp[Array.getD_eq_getD_getElem?,Array.getElem?_append];exact .t _ _ (VR.on (Nat.le_refl _) (fun b _ hb=>⟨hM b hb,rfl⟩) (ab _ _ ⟨0,rfl,rfl⟩))
  ·simp[Array.getD_eq_getD_getElem?,Array.getElem?_append];exact .t _ _ (VR.on (Nat.le_refl _) (fun b _ hb=>⟨hM b hb,rfl⟩) (ab _ _ ⟨1,rfl,rfl⟩))
 refine(?_:HW dK ⟨A,fun _=>False,fun _=>True,W,fun _=>none⟩ Tryz.f198.ntmps dX.P _ (di [(0,.t (.fn (.yield V) 0 [])),(1,.t (.tp [.str (bs l)])),(2,.t (.tp [.mp jK iM]))]) [] _) m _ _ hA;clear hA;have ks:=MO hl;have hn:=sq false l;obtain⟨n,av⟩:∃n,aZ false l=n:=⟨_,rfl⟩;rw[av]at ks hn;have bl:(bs l).extract 0 (bs l).size=bs l:=by rw[ol,aJ,List.take_length];rfl
 have hz:(0+(n:Int)).toNat=n:=by omega
 have au:(bs l).extract (0+(n:Int)).toNat (bs l).size=bs (l.drop n):=by rw[hz,ol,aJ,List.take_length]
 obtain⟨u,hu⟩:∃u,l.drop n=u:=⟨_,rfl⟩;rw[hu]at au;have an:u.length<=1000000:=by rw[<- hu,List.length_drop];omega
 have bU:(bs u).size=u.length:=e9 u;refine HW.ev (f:=198) fM ?_ (by kernel_rfl);refine ak ?_;refine HW.o8 [(0,.t (.fn (.yield V) 0 [])),(1,.t (.tp [.str (bs l)])),(2,.t (.tp [.mp jK iM])),(4,.t (.int .i64 0))] (fun p hp=>by simp only[List.mem_cons,List.not_mem_nil,or_false]at hp;rcases hp with rfl|rfl|rfl|rfl <;>rfl) ?_;refine HW.block ?_;refine HW.loop (fun k e r=>k=0/\e=di [(0,.t (.fn (.yield V) 0 [])),(1,.t (.tp [.str (bs l)])),(2,.t (.tp [.mp jK iM])),(4,.t (.int .i64 0))]/\r=[]) 0 ⟨rfl,rfl,rfl⟩ ?_;rintro k e r ⟨rfl,rfl,rfl⟩;refine HW.block ?_;refine HW.ev (f:=198) fM ?_ (by kernel_rfl)
 repeat'(first
|(refine ar ?_)
|((with_reducible apply aa.u0);(case hx=>first
|((with_reducible apply ac.ux);(case hst|hx|hl=>exact rfl);(case h0=>omega);(case hls=>first|assumption|omega);(case hv=>exact bl))
|(exact ap ks)
|exact af))
|fail)
 refine HW.ev (f:=198) fM ?_ (by kernel_rfl)
 repeat'(first
|(refine ar ?_)
|((with_reducible apply aa.u0);(case hx=>first
|((with_reducible apply ac.ux);(case hst|hx|hl=>exact rfl);(case h0=>omega);(case hls=>first|assumption|omega);(case hv=>exact au))
|exact af))
|fail)
 refine HW.ev (f:=198) fM ?_ (by kernel_rfl);refine ak ?_;refine HW.cd (f:=198) fM (fun e r=>∃(kd:Int) (c:Nat),gJ u=(kd,c)/\c<=2000000/\e 0=.t (.fn (.yield V) 0 [])/\e 5=.lp 0 0/\e 7=.t (.int .i64 (c:Int))/\r=[.box false 218 [.t (.int .i64 kd),.t (.int .i64 0),.t (.int .i64 (0+(n:Int))),.t (.int .i64 0)]]) ?_ (by kernel_rfl) ?_
 ·
  cases u with
  |nil=>
   have cc:bs ([]:List UInt8)=⟨#[]⟩:=rfl;refine ak ?_;exact⟨rfl,0,0,rfl,by omega,rfl,rfl,rfl,rfl⟩
  |cons b r=>
   have cf:¬bs (b::r)=bs []:=fun h=>by have:=q8 h;cases this
   have hb:(b::r)[0]?=some b:=rfl;have bz:(b::r).length=r.length+1:=rfl;have k1:=zR b;have k2:=wm b;have k3:=Ed an
   cases h1:eO b with
   |true=>
    rw[h1]at k1;have kr:=PG an;have al:=sb cj (b::r);have y:gJ (b::r)=(if(b::r).take (aQ cj (b::r))∈cZ then 2 else 1,aQ cj (b::r)):=by rw[gJ,if_pos h1]
    obtain⟨c,hc⟩:∃c,aQ cj (b::r)=c:=⟨_,rfl⟩;rw[hc]at kr al y;have z:(bs (b::r)).extract 0 c=bs ((b::r).take c):=by rw[ol];rfl
    cases hm:decide ((b::r).take c∈cZ)with
    |true=>
     obtain⟨j,hf,hj⟩:=zz (s:=bs ((b::r).take c)) (N:=rK) (by rw[DW];exact hm);have hz:=L5 hj;rw[if_pos (of_decide_eq_true hm)]at y
     repeat'(first
|((with_reducible apply aa.cQ);(case hp=>exact aA))
|(refine ar ?_)
|((with_reducible apply aa.u0);(case hx=>first
|((with_reducible apply ac.gV);(case hx|hi|hst=>exact rfl);(case h0=>omega);(case hb=>assumption))
|((with_reducible apply ac.xl);(case hst|hx|hh=>exact rfl);(case hhs=>first|assumption|omega);(case hv=>exact z))
|((with_reducible apply ac.oQ);(case hm|hk|ho=>exact rfl);(case hf=>exact hf);(case hz=>exact hz))
|(exact ap k1)
|(exact ap kr)
|exact af))
|fail)
     exact⟨rfl,2,c,y,by omega,rfl,rfl,rfl,rfl⟩
    |false=>
     have hf:=zy (s:=bs ((b::r).take c)) (N:=rK) (by rw[DW];exact hm);rw[if_neg (of_decide_eq_false hm)]at y
     repeat'(first
|((with_reducible apply aa.cQ);(case hp=>exact aA))
|(refine ar ?_)
|((with_reducible apply aa.u0);(case hx=>first
|((with_reducible apply ac.gV);(case hx|hi|hst=>exact rfl);(case h0=>omega);(case hb=>assumption))
|((with_reducible apply ac.xl);(case hst|hx|hh=>exact rfl);(case hhs=>first|assumption|omega);(case hv=>exact z))
|((with_reducible apply ac.lk);(case hm|hk|ho=>exact rfl);(case hf=>exact hf);(case hz=>exact rfl))
|(exact ap k1)
|(exact ap kr)
|exact af))
|fail)
     exact⟨rfl,1,c,y,by omega,rfl,rfl,rfl,rfl⟩
   |false=>
    rw[h1]at k1
    cases h2:b_ b with
    |true=>
     rw[h2]at k2;have kr:=PE an;have al:=sb b_ (b::r);have y:gJ (b::r)=(3,aQ b_ (b::r)):=by rw[gJ,if_neg (by simp[h1]),if_pos h2]
     obtain⟨c,hc⟩:∃c,aQ b_ (b::r)=c:=⟨_,rfl⟩;rw[hc]at kr al y;refine ak ?_;exact⟨rfl,3,c,y,by omega,rfl,rfl,rfl,rfl⟩
    |false=>
     rw[h2]at k2;have aG:=QW (b::r);by_cases h3:0 <fQ (b::r)
     ·
      have y:gJ (b::r)=(4,fQ (b::r)):=by rw[gJ,if_neg (by simp[h1]),if_neg (by simp[h2]),if_pos h3]
      obtain⟨c,hc⟩:∃c,fQ (b::r)=c:=⟨_,rfl⟩;rw[hc]at k3 aG y h3;refine ak ?_;exact⟨rfl,4,c,y,by omega,rfl,rfl,rfl,rfl⟩
     ·
      have y:gJ (b::r)=(5,1+mh r):=by rw[gJ,if_neg (by simp[h1]),if_neg (by simp[h2]),if_neg h3]
      have hw:=HF r;obtain⟨c0,aq⟩:∃c,fQ (b::r)=c:=⟨_,rfl⟩;rw[aq]at k3 aG h3;obtain⟨R,hR⟩:∃R,mh r=R:=⟨_,rfl⟩;rw[hR]at y hw;refine ak ?_;refine ax.ind (fun q:Nat=>[(7,.t (.int .i64 (q:Int)))]) (fun q=>1<=q/\q<=r.length+1/\q+mh ((b::r).drop q)=1+R) (fun q=>r.length+1 - q) 1 rfl ⟨by omega,by omega,by rw[<- hR];rfl⟩ (fun q hq=>?_);obtain⟨g0,g1,G⟩:=hq;rcases Nat.lt_or_ge q (r.length+1)with g3|g3
      ·
       obtain⟨c,bm⟩:=aj (xs:=b::r) (k:=q) (by omega);have hd:=bK bm;rw[hd,mh]at G;have kw:=Eg c;have kb:=Mh (b:=c) (r:=(b::r).drop (q+1)) (by rw[List.length_cons,List.length_drop];omega);have z:(bs (b::r)).extract q (bs (b::r)).size=bs (c::(b::r).drop (q+1)):=by rw[ol,bU,List.take_length,hd]
       obtain⟨Z1,bf⟩:∃Z,dI c=Z:=⟨_,rfl⟩;obtain⟨Z2,bh⟩:∃Z,pH c ((b::r).drop (q+1))=Z:=⟨_,rfl⟩;rw[bf]at kw G;rw[bh]at kb G
       cases Z1 with
       |true=>
        simp only[Bool.not_true,Bool.false_and,Bool.false_eq_true,if_false,Nat.add_zero]at G
        repeat'(first
|((with_reducible apply aa.aR);(case hp=>exact aA))
|(refine ar ?_)
|((with_reducible apply aa.aB);(case hW=>exact rfl);(case hx=>first
|((with_reducible apply ac.gV);(case hx|hi|hst=>exact rfl);(case h0=>omega);(case hb=>assumption))
|(exact ap kw)
|exact af))
|((with_reducible apply aa.u0);(case hx=>exact af))
|fail)
        exact⟨rfl,5,q,by rw[y,G],by omega,rfl,rfl,rfl,rfl⟩
       |false=>
        by_cases b5:(c.toNat:Int)=35
        ·
         have D:c.toNat=35:=by omega
         simp only[D,decide_true,Bool.not_true,Bool.false_and,Bool.and_false,Bool.false_eq_true,if_false,Nat.add_zero]at G
         repeat'(first
|(refine aY ?_)
|(refine ar ?_)
|((with_reducible apply aa.aB);(case hW=>exact rfl);(case hx=>first
|((with_reducible apply ac.gV);(case hx|hi|hst=>exact rfl);(case h0=>omega);(case hb=>assumption))
|(exact ap kw)
|exact af))
|((with_reducible apply aa.u0);(case hx=>exact af))
|fail)
         exact⟨rfl,5,q,by rw[y,G],by omega,rfl,rfl,rfl,rfl⟩
        ·
         have D:¬c.toNat=35:=by omega
         cases Z2 with
         |true=>
          simp only[D,decide_false,Bool.not_true,Bool.and_false,Bool.false_eq_true,if_false,Nat.add_zero]at G
          repeat'(first
|(refine aY ?_)
|(refine ar ?_)
|((with_reducible apply aa.aB);(case hW=>exact rfl);(case hx=>first
|((with_reducible apply ac.gV);(case hx|hi|hst=>exact rfl);(case h0=>omega);(case hb=>assumption))
|((with_reducible apply ac.ux);(case hst|hx|hl=>exact rfl);(case h0=>omega);(case hls=>first|assumption|omega);(case hv=>exact z))
|(exact ap kw)
|(exact ap kb)
|exact af))
|((with_reducible apply aa.u0);(case hx=>exact af))
|fail)
          exact⟨rfl,5,q,by rw[y,G],by omega,rfl,rfl,rfl,rfl⟩
         |false=>
          simp only[D,decide_false,Bool.not_false,Bool.and_self,if_true]at G
          repeat'(first
|(refine aY ?_)
|(refine ar ?_)
|((with_reducible apply aa.aB);(case hW=>exact rfl);(case hx=>first
|((with_reducible apply ac.gV);(case hx|hi|hst=>exact rfl);(case h0=>omega);(case hb=>assumption))
|((with_reducible apply ac.ux);(case hst|hx|hl=>exact rfl);(case h0=>omega);(case hls=>first|assumption|omega);(case hv=>exact z))
|(exact ap kw)
|(exact ap kb)
|exact af))
|((with_reducible apply aa.u0);(case hx=>exact af))
|fail)
          exact⟨q+1,rfl,rfl,⟨by omega,by omega,by omega⟩,by omega⟩
      ·
       obtain rfl:q=r.length+1:=by omega
       rw[List.drop_eq_nil_of_le (by rw[bz];exact Nat.le_refl _),mh]at G;refine ak ?_;exact⟨rfl,5,r.length+1,by rw[y,<- G],by omega,rfl,rfl,rfl,rfl⟩
 ·
  rintro e r ⟨kd,c,b0,hc,e0,e5,e7,rfl⟩;refine HW.o8 [(0,.t (.fn (.yield V) 0 [])),(5,.lp 0 0),(7,.t (.int .i64 (c:Int)))] (fun p hp=>by simp only[List.mem_cons,List.not_mem_nil,or_false]at hp;rcases hp with rfl|rfl|rfl;exact e0;exact e5;exact e7) ?_;refine HW.ev (f:=198) fM ?_ (by kernel_rfl);refine ak ?_;refine HW.ev (f:=198) fM ?_ (by kernel_rfl);refine ak ?_;intro dn a w hA;obtain⟨⟨_,ai⟩,bT,L,hC,hV⟩:=hA;have ai:a.defers=[]:=ai trivial;refine wpIn_seq ?_;refine wpIn_region_lit ?_;show wpListIn _ _ _ _ _ ([_,_]++[_,_,_,_,_,_,_]) _ _
  refine E8 (i:=0) (kp:=[]) (ds:=[]) (K:=fun e r=>e 84=.t (.fn (.yield V) 0 [])/\e 85=.t (.agg [.int .i64 kd,.int .i64 0,.int .i64 (0+(n:Int)),.int .i64 (0+(n:Int)+c)])) fM ?_ (by simp) (by kernel_rfl) (by simp) (by intro p hp;cases hp) ai bT hC hV fun e2 r2 L2 a2 w2 bd _ bw aD I ao=>?_
  ·
   refine ak ?_;exact⟨rfl,rfl⟩
  obtain⟨b3,b4⟩:=bd;have bi:Below W.heap.size W w2:=⟨I.os,I.tape,I.output,I.size,fun k hk=>I.kept k hk fun h=>h⟩;have hj:=hJ _ _ _ _ h0 bi
  have a1:a2.eval (.tmp 84)=.func (.yield V) #[] #[]:=by
   have:=ao 84;rw[b3]at this;exact LG this
  have a8:VR A w2 (.agg [.int .i64 kd,.int .i64 0,.int .i64 (0+(n:Int)),.int .i64 (0+(n:Int)+c)]) (a2.eval (.tmp 85)):=by
   have:=ao 85;rw[b4]at this
   cases this with
   |t _ _ h=>exact VR.on (Nat.le_refl _) (fun b _ hm=>⟨hm.1,rfl⟩) h
  have b1:ph l=[.agg [.int .i64 kd,.int .i64 0,.int .i64 (0+(n:Int)),.int .i64 (0+(n:Int)+c)]]:=by
   unfold ph;rw[av,hu,b0];simp
  rw[b1]at hj;refine ye rfl (R8 rfl a1 (fun m=>hY _ _ _ _ _ hj (by simp) (fun j x u hx hu=>?_) m) fun en Z hr=>?_)
  ·match j,hx,hu with
   |0,hx,hu=>cases hx;simp at hu;rw[<- hu];exact a8
  ·rcases hr with⟨rfl,A',bx⟩|⟨rfl,b2⟩
   ·exact absurd bx (be rfl _ _)
   ·refine⟨_,rfl,?_⟩;have n3:(a2.put (some 86) (.bool false)).tmps.size=Tryz.f198.ntmps:=by rw[bY,aD]
    have aV:(a2.put (some 86) (.bool false)).eval (.tmp 86)=.bool false:=fE (by rw[aD];decide);have d3:(a2.put (some 86) (.bool false)).defers=[]:=by rw[put_defers,bw]
    generalize a2.put (some 86) (.bool false)=a3 at n3 aV d3⊢;refine jr rfl (v:=.bool true) (w':=Z) (by show(execOp _ _).run _ _=_;unfold execOp;simp only[aV];rfl) ?_;have aX:(a3.put (some 87) (.bool true)).eval (.tmp 87)=.bool true:=fE (by rw[n3];decide);have n4:(a3.put (some 87) (.bool true)).tmps.size=Tryz.f198.ntmps:=by rw[bY,n3]
    have d4:(a3.put (some 87) (.bool true)).defers=[]:=by rw[put_defers,d3]
    generalize a3.put (some 87) (.bool true)=a4 at n4 aX d4⊢;refine jr rfl (v:=.bool true) (w':=Z) (by show(execOp _ _).run _ _=_;unfold execOp;simp only[aX];rfl) ?_;have U:(a4.put (some 88) (.bool true)).tmps.getD 88 undef=.bool true:=fE (by rw[n4];decide);have n5:(a4.put (some 88) (.bool true)).tmps.size=Tryz.f198.ntmps:=by rw[bY,n4]
    have d5:(a4.put (some 88) (.bool true)).defers=[]:=by rw[put_defers,d4]
    generalize a4.put (some 88) (.bool true)=a5 at n5 U d5⊢;refine BF (b:=true) rfl rfl U (by rw[n5];decide) ?_;refine BF (b:=true) rfl rfl ((ce (by simp)).trans U) (by rw[bY,n5];decide) ?_;refine BF (b:=true) rfl rfl ((ce (by simp)).trans ((ce (by simp)).trans U)) (by rw[bY,bY,n5];decide) ?_;have ad:(((a5.put (some 89) undef).put (some 90) undef).put (some 91) undef).eval (.tmp 88)=.bool true:=(ce (by simp)).trans ((ce (by simp)).trans ((ce (by simp)).trans U));have n6:(((a5.put (some 89) undef).put (some 90) undef).put (some 91) undef).tmps.size=Tryz.f198.ntmps:=by rw[bY,bY,bY,n5]
    have d6:(((a5.put (some 89) undef).put (some 90) undef).put (some 91) undef).defers=[]:=by rw[put_defers,put_defers,put_defers,d5]
    generalize((a5.put (some 89) undef).put (some 90) undef).put (some 91) undef=a6 at n6 ad d6⊢;refine jr rfl (v:=.bool true) (w':=Z) (by show(execOp _ _).run _ _=_;unfold execOp;simp only[ad];rfl) ?_;show Code.wpIn _ _ _ _ _ _ _
    refine wpIn_cond_split (t:=true) (fE (by rw[n6];decide)) (fun _=>?_) (fun h=>by cases h);refine wpIn_ret ?_;exact⟨by rw[put_defers,d6],_,results_none rfl _ _ _,⟨_,rfl⟩,.inr b2⟩
def JW{es:List (List AV)}{l:List Int}(h:oA es=some l):es=aE l:=by
 induction es generalizing l with
 |nil=>unfold oA at h;cases h;rfl
 |cons c r y=>
  unfold oA at h;split at h
  ·cases ‹_=[]›
  ·rename_i u;injection u with h1 h2
   subst h1 h2;split at h
   ·rename_i v;cases h;rw[y v];rfl
   ·cases h
  ·cases h
def JX{es:List (List AV)}{l:List Tb}(h:oB es=some l):es=bq l:=by
 induction es generalizing l with
 |nil=>unfold oB at h;cases h;rfl
 |cons c r z=>
  unfold oB at h;split at h
  ·cases ‹_=[]›
  ·rename_i u;injection u with h1 h2
   subst h1 h2;split at h
   ·rename_i v y;cases h;rw[z y,JW v];rfl
   ·cases h
  ·cases h
def JV{es:List (List AV)}{l:List Hde}(h:oz es=some l):es=cu l:=by
 induction es generalizing l with
 |nil=>unfold oz at h;cases h;rfl
 |cons c r y=>
  unfold oz at h;split at h
  ·cases ‹_=[]›
  ·rename_i u;injection u with h1 h2
   subst h1 h2;split at h
   ·rename_i v;cases h;rw[y v];rfl
   ·cases h
  ·cases h
def RS:Wf ah dK where
 exh:=Da
 seq:=fun I xs U wh h G Z=>by
  have h:(match A8 I xs with|some r=>some r|none=>A9 I xs)=some (U,wh):=h;split at h
  ·rename_i q D;cases h;unfold A8 at D;split at D
   ·rename_i s ks vs z;split at D
    ·rename_i y;rw[Bool.and_eq_true,Nat.ble_eq]at y;cases D;have z:I=198:=by simpa using z
     obtain⟨V,hv⟩:=DV y.1;subst z V hv;have hs:G.size=2:=Z
     have e:G=#[G[0],G[1]]:=by
      apply Array.ext
      ·simp[hs]
      ·intro i h1 h2;have:i=0\/i=1:=by simp at h2;omega
       rcases this with rfl|rfl <;>rfl
     rw[e];have J:s.data.toList.length<=1000000:=by have:=y.2;rwa[<- Lib.size_eq]
     exact Rf (l:=s.data.toList) J
    ·cases D
   ·cases D
  ·cases h
 mixed:=by kernel_rfl
 tA:=EY
 ext:=fun f xs r fr' h=>by
  by_cases z:f=98
  ·subst z;replace h:mH 98 xs=some (r,fr'):=h;unfold mH at h;split at h
   ·cases h
   ·cases h
   ·cases h
   ·split at h
    ·rename_i y;rw[Bool.and_eq_true,Bool.and_eq_true,Nat.ble_eq,Nat.ble_eq]at y;split at h
     ·rename_i tb hd v u;cases h;obtain⟨_,h1,h2⟩:=y;have v:=JX v;have u:=JV u;subst v u;rw[fJ]at h1;rw[rA]at h2;exact K9 (m:=⟨[],tb,[],[],[],[],hd⟩) h1 h2
     ·cases h
    ·cases h
   ·cases h
   ·cases h
   ·cases h
  ·refine HE f xs r fr' ?_;unfold vM;rw[show Nat.beq f 98=false from Bool.eq_false_iff.2 fun h=>z (Nat.eq_of_beq_eq_true h)];exact h
end Go.Proofs.YtjolgbkkocjpgaaGreatDoor
