/- Law 39: copies of lists: of numbers,of events,of lists of numbers (whose memory is all new). No condition. -/
import Derived.Test.YtjolgbkkocjpgaaGreatDoorTVW
import Derived.Test.YtjolgbkkocjpgaaGreatDoorTX
import Derived.Test.YtjolgbkkocjpgaaGreatDoorBase
import Derived.Test.YtjolgbkkocjpgaaGreatDoorWQ
set_option linter.defProp false
set_option linter.unusedSimpArgs false
set_option linter.unusedVariables false
set_option linter.unusedSectionVars false
namespace Go.Proofs.YtjolgbkkocjpgaaGreatDoor
open Go.RowKit
set_option maxRecDepth 100000
set_option maxHeartbeats 8000000
def Dz:Glob where
 G:=fun _=>True
 n:=0
 stays:=fun _ _ _ _=>trivial
def KW(c:Nat)(w:World):Calls Tryz.prog 77 #[.slice none 0 c] w (fun e w'=>e=.returned (.slice none 0 0)/\w'=w):=by
 go_enter Tryz.func77,Tryz.ntmps77
 have u:(binOp BinOp.eql 22 (Value.slice none 0 c) (Value.slice none 0 0)).run Tryz.prog w=.ok (.bool true) w:=by kernel_rfl
 go_wp2
 go_ret
 exact⟨rfl,rfl⟩
noncomputable def sF:Cfg:={P:=Tryz.prog,ok:=fun f=>Nat.beq f 77,ext:=fun _ _=>none,lv:=fun _ _=>none,own:=fun _ _=>[],eff:=fun _ _=>[],hand:=fun _ _=>false}
def DA(γ:Glob):Wf sF γ where
 mixed:=(by kernel_rfl:(Tryz.prog).follows .mixedOrders=true)
 rZ:=fun f u=>by
  have u:Nat.beq f 77=true:=u;have u:f=77:=by simpa using u
  subst u;show oI sF _=true
  kernel_rfl
 ext:=fun _ _ _ _ h=>by cases h
def KX:Cl sF 77 [.nn []] [] (.ls 0) [.row false false 1 []]:=⟨4,by kernel_rfl⟩
def KY{e:List AV}{es:List (List AV)}(h:eu 1 (e::es)=true)(hl:(e::es).length*8<=140737488351232):Cl sF 77 [.t (.arr (e::es))] [] (.ls 0) [.row false false 1 (e::es)]:=by
 have y:ca (([]:List (List AV)).length+(e::es).length) 8=true:=by
  simp only[List.length_cons]at hl;simp[ca];omega
 have z:dY sF.P 22=some (3,1,8):=by kernel_rfl
 refine Cl.ao rfl Tryz.func77 rfl rfl rfl ?_
 repeat'(first
|(with_reducible first|apply ac.seq|apply ac.block)
|((with_reducible apply ac.text);(try case hm=>exact rfl))
|((with_reducible apply ac.drawn);(case hm=>exact rfl))
|((with_reducible apply ac.nE);(case hm=>exact rfl))
|((with_reducible apply ac.oK);(case hm|he=>exact rfl))
|(with_reducible first|apply aa.oL|apply aa.qb|apply aa.r6|apply ac.skip|apply ac.exit|apply ac.ret|apply az|apply cR|apply aV|apply bk|apply bq|apply cS)
|((with_reducible apply ya);(case hj=>exact rfl))
|((with_reducible apply ac.aA);(case hc=>exact rfl))
|((with_reducible apply ac.aH);(case hc=>exact rfl))
|((with_reducible apply aa.aE);(case hp=>exact aj))
|((with_reducible apply aa.bC);(case hp=>exact aj))
|((with_reducible apply aa.bc)<;>intro v)
|((with_reducible apply aa.gN);(case hp=>exact aj))
|((with_reducible apply aa.dS);(case hp=>exact aj))
|((with_reducible apply aa.fP)<;>intro v)
|((with_reducible apply aa.cd);(case hp=>exact aj))
|((with_reducible apply aa.cA);(case hp=>exact aj))
|((with_reducible apply aa.bg)<;>intro v)
|((with_reducible apply aa.fQ);(case hp=>exact aj))
|((with_reducible apply aa.fB);(case hp=>exact aj))
|((with_reducible apply aa.fg)<;>intro v)
|(with_reducible first|apply aa.ap|apply aa.bj|apply aa.nil)
|((with_reducible apply aa.gf);(case hW=>exact rfl))
|(with_reducible first|apply aB.oL|apply aB.qb|apply aB.r6)
|((with_reducible apply aB.aE);(case hp=>exact aj))
|((with_reducible apply aB.bC);(case hp=>exact aj))
|((with_reducible apply aB.bc)<;>intro v)
|((with_reducible apply aB.gN);(case hp=>exact aj))
|((with_reducible apply aB.dS);(case hp=>exact aj))
|((with_reducible apply aB.fP)<;>intro v)
|((with_reducible apply aB.cd);(case hp=>exact aj))
|((with_reducible apply aB.cA);(case hp=>exact aj))
|((with_reducible apply aB.bg)<;>intro v)
|((with_reducible apply aB.fQ);(case hp=>exact aj))
|((with_reducible apply aB.fB);(case hp=>exact aj))
|((with_reducible apply aB.fg)<;>intro v)
|((with_reducible apply aB.oM);(case hck=>kernel_rfl))
|((with_reducible apply aB.BV);(case hck=>kernel_rfl))
|(with_reducible first|apply aB.ap|apply aB.bj|apply aB.nil)
|((with_reducible apply aB.gf);(case hfl=>kernel_rfl);(case hW=>exact rfl))
|((with_reducible apply aa.gt);(case hW=>exact rfl);(case hx=>((with_reducible apply ae.eP);(case hs=>exact fun _=>rfl);(case ha|ht=>exact rfl);(case hr=>first|(with_reducible exact eH)|(with_reducible exact z)|(with_reducible exact eI)|(with_reducible exact rw3)|(with_reducible exact rw4)|exact rfl);(case hx|hy|hn|hb=>exact rfl);(case hok=>exact h);(case hlen=>exact y);(case hv=>exact List.nil_append _);(case hk=>exact eQ);(case hf=>exact leq))))
|((with_reducible apply aa.u);(case hx=>((with_reducible apply ae.eP);(case hs=>exact fun _=>rfl);(case ha|ht=>exact rfl);(case hr=>first|(with_reducible exact eH)|(with_reducible exact z)|(with_reducible exact eI)|(with_reducible exact rw3)|(with_reducible exact rw4)|exact rfl);(case hx|hy|hn|hb=>exact rfl);(case hok=>exact h);(case hlen=>exact y);(case hv=>exact List.nil_append _);(case hk=>exact eQ);(case hf=>exact leq))))
|((with_reducible apply aB.gt);(case hfl=>kernel_rfl);(case hW=>exact rfl);(case hx=>exact ah))
|((with_reducible apply aB.u);(case hfl=>kernel_rfl);(case hx=>exact ah))
|((with_reducible apply aa.aD);(case hW=>exact rfl);(case hx=>exact ah))
|((with_reducible apply aa.u0);(case hx=>exact ah))
|((with_reducible apply aa.u);(case hx=>exact ae.r fun _=>rfl))
|((with_reducible apply aa.gt);(case hW=>exact rfl);(case hx=>exact ae.r fun _=>rfl))
|fail)
 exact⟨.inr rfl,rfl⟩
def DB{es:List (List AV)}{r:SV}{fr':Fr}(γ:Glob)(h:jX 1 8 es=some (r,fr')):gh Tryz.prog 77/\∀(κ:Ctx) (w:World) (us:Array Value),av γ κ [] κ.L w->κ.W=w->us.size=1->(∀(j:Nat) (x:AV) (u:Value),[AV.arr es][j]?=some x->us[j]?=some u->VR (MA κ.M [] κ.L) w x u)->
  Calls Tryz.prog 77 us w fun e w'=>∃v L',e=.returned v/\av γ κ fr' L' w'/\SR (MA κ.M fr' L') L' w' r v:=by
 have U:gh Tryz.prog 77:=⟨_,Tryz.func77,by kernel_rfl,by kernel_rfl⟩;unfold jX at h;split at h
 rotate_left
 ·cases h
 rename_i I;rw[Bool.and_eq_true,Nat.ble_eq]at I;cases h;refine⟨U,fun κ w us D hκ hs hv=>?_⟩
 cases es with
 |nil=>
  have h0:=hv 0 _ us[0] rfl (by rw[Array.getElem?_eq_getElem (by omega)])
  have z:us=#[us[0]]:=by
   apply Array.ext
   ·simp[hs]
   ·intro i h2 h3;have:i=0:=by simp at h3;omega
    subst this;rfl
  rw[z];generalize us[0]=u0 at h0
  cases h0 with
  |bO A c=>
   cases A with
   |none=>exact(KW c w).mono fun e w' ⟨he,hw⟩=>by
            subst hw;obtain⟨G,_⟩:=D.push (Below.refl _ _) (.row false false 1 []) (.slice none 0 0) (fun b hb=>by cases hb) fun hT=>⟨0,_,[],bY,.inl ⟨rfl,rfl,none,rfl⟩,by rw[List.length_nil];omega,fun k cs J=>by simp at J,fun k j cs x J _=>by simp at J⟩;exact⟨_,_,he,G,.ls _ _ bY rfl⟩
   |some p=>
    obtain⟨n,V⟩:=KX;refine((sound (DA γ) n).1 _ _ _ _ _ V).2 κ w #[.slice (some p) 0 c] D hκ rfl fun j x u y z=>?_
    match j with
    |0=>
     simp at y z;subst y z;exact .nn [] p c (.bO _ _)
    |j+1=>simp at y
  |arr b o c sz es us Z=>exact absurd rfl Z
 |cons e es=>
  obtain⟨n,V⟩:=KY I.1 I.2;refine((sound (DA γ) n).1 _ _ _ _ _ V).2 κ w us D hκ hs fun j x u y z=>?_
  match j with
  |0=>
   have hx:x=.t (.arr (e::es)):=by simpa using y.symm
   subst hx;exact .t _ _ (hv 0 _ u rfl z)
  |j+1=>simp at y
def KZ(c:Nat)(w:World):Calls Tryz.prog 18 #[.slice none 0 c] w (fun e w'=>e=.returned (.slice none 0 0)/\w'=w):=by
 go_enter Tryz.func18,Tryz.ntmps18
 have u:(binOp BinOp.eql 60 (Value.slice none 0 c) (Value.slice none 0 0)).run Tryz.prog w=.ok (.bool true) w:=by kernel_rfl
 go_wp2
 go_ret
 exact⟨rfl,rfl⟩
noncomputable def sG:Cfg:={P:=Tryz.prog,ok:=fun f=>Nat.beq f 18,ext:=fun _ _=>none,lv:=fun _ _=>none,own:=fun _ _=>[],eff:=fun _ _=>[],hand:=fun _ _=>false}
def DC(γ:Glob):Wf sG γ where
 mixed:=(by kernel_rfl:(Tryz.prog).follows .mixedOrders=true)
 rZ:=fun f u=>by
  have u:Nat.beq f 18=true:=u;have u:f=18:=by simpa using u
  subst u;show oI sG _=true
  kernel_rfl
 ext:=fun _ _ _ _ h=>by cases h
def K0:Cl sG 18 [.nn []] [] (.ls 0) [.row false false 13 []]:=⟨4,by kernel_rfl⟩
def K1{e:List AV}{es:List (List AV)}(h:eu 13 (e::es)=true)(hl:(e::es).length*120<=140737488351232):Cl sG 18 [.t (.arr (e::es))] [] (.ls 0) [.row false false 13 (e::es)]:=by
 have y:ca (([]:List (List AV)).length+(e::es).length) 120=true:=by
  simp only[List.length_cons]at hl;simp[ca];omega
 have z:dY sG.P 60=some (57,13,120):=by kernel_rfl
 refine Cl.ao rfl Tryz.func18 rfl rfl rfl ?_
 repeat'(first
|(with_reducible first|apply ac.seq|apply ac.block)
|((with_reducible apply ac.text);(try case hm=>exact rfl))
|((with_reducible apply ac.drawn);(case hm=>exact rfl))
|((with_reducible apply ac.nE);(case hm=>exact rfl))
|((with_reducible apply ac.oK);(case hm|he=>exact rfl))
|(with_reducible first|apply aa.oL|apply aa.qb|apply aa.r6|apply ac.skip|apply ac.exit|apply ac.ret|apply az|apply cR|apply aV|apply bk|apply bq|apply cS)
|((with_reducible apply ya);(case hj=>exact rfl))
|((with_reducible apply ac.aA);(case hc=>exact rfl))
|((with_reducible apply ac.aH);(case hc=>exact rfl))
|((with_reducible apply aa.aE);(case hp=>exact aj))
|((with_reducible apply aa.bC);(case hp=>exact aj))
|((with_reducible apply aa.bc)<;>intro v)
|((with_reducible apply aa.gN);(case hp=>exact aj))
|((with_reducible apply aa.dS);(case hp=>exact aj))
|((with_reducible apply aa.fP)<;>intro v)
|((with_reducible apply aa.cd);(case hp=>exact aj))
|((with_reducible apply aa.cA);(case hp=>exact aj))
|((with_reducible apply aa.bg)<;>intro v)
|((with_reducible apply aa.fQ);(case hp=>exact aj))
|((with_reducible apply aa.fB);(case hp=>exact aj))
|((with_reducible apply aa.fg)<;>intro v)
|(with_reducible first|apply aa.ap|apply aa.bj|apply aa.nil)
|((with_reducible apply aa.gf);(case hW=>exact rfl))
|(with_reducible first|apply aB.oL|apply aB.qb|apply aB.r6)
|((with_reducible apply aB.aE);(case hp=>exact aj))
|((with_reducible apply aB.bC);(case hp=>exact aj))
|((with_reducible apply aB.bc)<;>intro v)
|((with_reducible apply aB.gN);(case hp=>exact aj))
|((with_reducible apply aB.dS);(case hp=>exact aj))
|((with_reducible apply aB.fP)<;>intro v)
|((with_reducible apply aB.cd);(case hp=>exact aj))
|((with_reducible apply aB.cA);(case hp=>exact aj))
|((with_reducible apply aB.bg)<;>intro v)
|((with_reducible apply aB.fQ);(case hp=>exact aj))
|((with_reducible apply aB.fB);(case hp=>exact aj))
|((with_reducible apply aB.fg)<;>intro v)
|((with_reducible apply aB.oM);(case hck=>kernel_rfl))
|((with_reducible apply aB.BV);(case hck=>kernel_rfl))
|(with_reducible first|apply aB.ap|apply aB.bj|apply aB.nil)
|((with_reducible apply aB.gf);(case hfl=>kernel_rfl);(case hW=>exact rfl))
|((with_reducible apply aa.gt);(case hW=>exact rfl);(case hx=>((with_reducible apply ae.eP);(case hs=>exact fun _=>rfl);(case ha|ht=>exact rfl);(case hr=>first|(with_reducible exact eH)|(with_reducible exact z)|(with_reducible exact eI)|(with_reducible exact rw3)|(with_reducible exact rw4)|exact rfl);(case hx|hy|hn|hb=>exact rfl);(case hok=>exact h);(case hlen=>exact y);(case hv=>exact List.nil_append _);(case hk=>exact eQ);(case hf=>exact leq))))
|((with_reducible apply aa.u);(case hx=>((with_reducible apply ae.eP);(case hs=>exact fun _=>rfl);(case ha|ht=>exact rfl);(case hr=>first|(with_reducible exact eH)|(with_reducible exact z)|(with_reducible exact eI)|(with_reducible exact rw3)|(with_reducible exact rw4)|exact rfl);(case hx|hy|hn|hb=>exact rfl);(case hok=>exact h);(case hlen=>exact y);(case hv=>exact List.nil_append _);(case hk=>exact eQ);(case hf=>exact leq))))
|((with_reducible apply aB.gt);(case hfl=>kernel_rfl);(case hW=>exact rfl);(case hx=>exact ah))
|((with_reducible apply aB.u);(case hfl=>kernel_rfl);(case hx=>exact ah))
|((with_reducible apply aa.aD);(case hW=>exact rfl);(case hx=>exact ah))
|((with_reducible apply aa.u0);(case hx=>exact ah))
|((with_reducible apply aa.u);(case hx=>exact ae.r fun _=>rfl))
|((with_reducible apply aa.gt);(case hW=>exact rfl);(case hx=>exact ae.r fun _=>rfl))
|fail)
 exact⟨.inr rfl,rfl⟩
def K2{es:List (List AV)}{r:SV}{fr':Fr}(γ:Glob)(h:jX 13 120 es=some (r,fr')):gh Tryz.prog 18/\∀(κ:Ctx) (w:World) (us:Array Value),av γ κ [] κ.L w->κ.W=w->us.size=1->(∀(j:Nat) (x:AV) (u:Value),[AV.arr es][j]?=some x->us[j]?=some u->VR (MA κ.M [] κ.L) w x u)->
  Calls Tryz.prog 18 us w fun e w'=>∃v L',e=.returned v/\av γ κ fr' L' w'/\SR (MA κ.M fr' L') L' w' r v:=by
 have U:gh Tryz.prog 18:=⟨_,Tryz.func18,by kernel_rfl,by kernel_rfl⟩;unfold jX at h;split at h
 rotate_left
 ·cases h
 rename_i I;rw[Bool.and_eq_true,Nat.ble_eq]at I;cases h;refine⟨U,fun κ w us D hκ hs hv=>?_⟩
 cases es with
 |nil=>
  have h0:=hv 0 _ us[0] rfl (by rw[Array.getElem?_eq_getElem (by omega)])
  have z:us=#[us[0]]:=by
   apply Array.ext
   ·simp[hs]
   ·intro i h2 h3;have:i=0:=by simp at h3;omega
    subst this;rfl
  rw[z];generalize us[0]=u0 at h0
  cases h0 with
  |bO A c=>
   cases A with
   |none=>exact(KZ c w).mono fun e w' ⟨he,hw⟩=>by
            subst hw;obtain⟨G,_⟩:=D.push (Below.refl _ _) (.row false false 13 []) (.slice none 0 0) (fun b hb=>by cases hb) fun hT=>⟨0,_,[],bY,.inl ⟨rfl,rfl,none,rfl⟩,by rw[List.length_nil];omega,fun k cs J=>by simp at J,fun k j cs x J _=>by simp at J⟩;exact⟨_,_,he,G,.ls _ _ bY rfl⟩
   |some p=>
    obtain⟨n,V⟩:=K0;refine((sound (DC γ) n).1 _ _ _ _ _ V).2 κ w #[.slice (some p) 0 c] D hκ rfl fun j x u y z=>?_
    match j with
    |0=>
     simp at y z;subst y z;exact .nn [] p c (.bO _ _)
    |j+1=>simp at y
  |arr b o c sz es us Z=>exact absurd rfl Z
 |cons e es=>
  obtain⟨n,V⟩:=K1 I.1 I.2;refine((sound (DC γ) n).1 _ _ _ _ _ V).2 κ w us D hκ hs fun j x u y z=>?_
  match j with
  |0=>
   have hx:x=.t (.arr (e::es)):=by simpa using y.symm
   subst hx;exact .t _ _ (hv 0 _ u rfl z)
  |j+1=>simp at y
def K3{M:Nat->Prop}{xs:List Int}{w:World}{v:Value}(hv:VR M w (ax xs) v)(hl:xs.length<=1000000):Calls Tryz.prog 77 #[v] w fun e w'=>∃u t,e=.returned u/\Below w.heap.size w w'/\OV w' (ax xs) u t/\∀b,Bk t b->w.heap.size<=b:=by
 have D:av Dz ⟨fun _=>True,fun _=>False,fun _=>False,w,fun _=>none⟩ [] (fun _=>none) w:={
  glob:=trivial
  gn:=Nat.zero_le _
  gx:=fun b h=>h.elim
  fresh:=fun _ _=>trivial
  os:=rfl
  tape:=rfl
  output:=rfl
  size:=Nat.le_refl _
  kept:=fun _ _ _=>rfl
  lim:=fun i v h=>by cases h
  new:=fun i v b lb h=>by cases h
  dis:=fun i j v v' b h=>by cases h
  hand:=fun j v h=>by cases h
  blk:=fun i lb h=>by cases h}
 have G:jX 1 8 (aG xs)=some (.ls 0,[.row false false 1 (aG xs)]):=by
  unfold jX;have h1:eu 1 (aG xs)=true:=by simp[eu,aG,mr]
  have h2:Nat.ble ((aG xs).length*8) 140737488351232=true:=by rw[aQ,Nat.ble_eq];omega
  rw[h1,h2];rfl
 refine((DB Dz G).2 _ w #[v] D rfl rfl fun j x u J hu=>?_).mono fun e w' ⟨v',L',he,z,hS⟩=>?_
 ·match j with
  |0=>
   simp at J hu;subst J hu;exact VR.on (Nat.le_refl _) (fun b _ _=>⟨⟨trivial,fun⟨i,_,_,h,_⟩=>by cases h⟩,rfl⟩) hv
  |j+1=>simp at J
 ·obtain⟨hL,_⟩:=jb hS;obtain⟨T,us,hR,y,_,ab,I⟩:=eN z rfl hL;rw[aQ]at hR y
  obtain⟨t,V,Z⟩:=I9 (w0:=w) hR y (fun k n U=>by
   obtain⟨u,e1,e2⟩:=I k 0 [.int .i64 n] (.int .i64 n) (by simp[aG,U]) rfl;cases e2
   simpa using e1) fun b hb=>by
    rcases(z.new 0 _ b _ hL (.one hb) rfl).2.2.1 with h|h
    ·exact h
    ·exact h.elim
  exact⟨v',t,he,⟨z.os,z.tape,z.output,z.size,fun k U=>z.kept k U id⟩,V,Z⟩
def DD(l:List (List Int))(w0:World)(z:Value)(k:Nat)(a:Act)(w:World):Prop:=Below w0.heap.size w0 w/\k<=l.length/\∃v T y u,Sl 19 [(3,v),(6,z),(7,.int .i64 l.length),(8,.int .i64 k)] a/\jj w0 w ((l.take k).map ax) v T y u
def K4{M:Nat->Prop}{l:List (List Int)}{w0:World}{G:Value}(hv:VR M w0 (eZ l) G)(hl:l.length<=1000000)(hx:∀c∈l,c.length<=1000000):Calls Tryz.prog 40 #[G] w0 fun e w'=>∃v t,e=.returned v/\Below w0.heap.size w0 w'/\OV w' (eZ l) v t/\∀b,Bk t b->w0.heap.size<=b:=by
 have ao:Tryz.prog.underlying 38=some (.slice 22):=by kernel_rfl
 obtain⟨q0,c0,ap⟩:=rn hv;have ag:(aO l).length=l.length:=by simp[aO]
 rw[ag]at ap;refine Ct Tryz.func40 rfl ?_
 have D:Sl 19 [(0,G)] {tmps:=#[G]++Array.replicate 18 undef,defers:=[]}:=⟨rfl,rfl,fun p hp=>by
  obtain rfl:p=(0,G):=by simpa using hp
  rfl⟩
 show Code.wpIn _ _ _ _ _ {tmps:=#[G]++Array.replicate 18 undef,defers:=[]} _
 generalize({tmps:=#[G]++Array.replicate 18 undef,defers:=[]}:Act)=a at D⊢;refine wpIn_seq ?_;refine wpIn_region_lit ?_;refine cC D rfl rfl (by decide) (v:=.slice none 0 0) (nJ rfl rfl) fun a D=>?_;show Code.wpIn _ _ _ _ _ _ _
 refine wpIn_seq ?_;refine wpIn_region_lit ?_;refine cC D rfl rfl (by decide) (v:=.slice none 0 0) (nJ rfl rfl) fun a D=>?_;show Code.wpIn _ _ _ _ _ _ _
 refine wpIn_seq ?_;refine wpIn_seq ?_;refine wpIn_region_lit ?_;refine cC D rfl rfl (by decide) (v:=G) (fD rfl (D.at (by simp[bM]))) fun a D=>?_;refine cC D rfl rfl (by decide) (v:=.int .i64 l.length) (I_ rfl ao (by rw[D.at (v:=G) (by simp[bM]),ap])) fun a D=>?_;refine cC D rfl rfl (by decide) (v:=.int .i64 0) (fD rfl rfl) fun a D=>?_;show Code.wpIn _ _ _ _ _ _ _
 refine wpIn_block ?_;have J:∃k,DD l w0 G k a w0:=⟨0,Below.refl _ _,Nat.zero_le _,.slice none 0 0,0,[],[],D.sub (by simp[bM]),jj.nil _ _ none⟩;clear D;refine uE (fun m a w=>∃k,m=l.length - k/\DD l w0 G k a w) _ ⟨_,rfl,J.choose_spec⟩ ?_;clear J;intro m a w ⟨k,hm,hB,a1,v,T,us,ts,D,hN⟩;refine wpIn_seq ?_;refine wpIn_region_lit ?_;obtain⟨b,hb⟩:∃b,decide ((k:Int)<(l.length:Int))=b:=⟨_,rfl⟩;refine cC D rfl rfl (by decide) (v:=.bool b) (Ja rfl (D.at (by simp)) (D.at (by simp)) hb) fun a D=>?_;show Code.wpIn _ _ _ _ _ _ _
 refine wpIn_seq ?_
 cases b with
 |false=>
  refine wpIn_cond_split (t:=false) (D.at (v:=.bool false) (by simp[bM])) (fun h=>by cases h) (fun _=>?_);refine wpIn_exit ?_;have hk:k=l.length:=by have:=of_decide_eq_false hb;omega
  subst hk;show Code.wpIn _ _ _ _ _ _ _
  refine wpIn_seq ?_;refine wpIn_region_lit ?_;refine cC D rfl rfl (by decide) (v:=v) (fD rfl (D.at (by simp[bM]))) fun a D=>?_;refine cC D rfl rfl (by decide) (v:=v) (nJ rfl (D.at (by simp[bM]))) fun a D=>?_;show Code.wpIn _ _ _ _ _ _ _
  refine wpIn_ret ?_;obtain⟨t,an,aL⟩:=hN.ov;rw[List.take_length,List.map_map]at an;refine⟨.inr rfl,D.df,v,?_,v,t,rfl,hB,an,aL⟩;have e2:a.tmps.getD 2 undef=v:=D.at (t:=2) (v:=v) (by simp[bM]);rw[Array.getD_eq_getD_getElem?]at e2;simp[results,Tryz.f40,e2,pure,Sem.run]
 |true=>
  refine wpIn_cond_split (t:=true) (D.at (v:=.bool true) (by simp[bM])) (fun _=>?_) (fun h=>by cases h);refine wpIn_skip ?_;show Code.wpIn _ _ _ _ _ _ _
  refine wpIn_seq ?_;refine wpIn_block ?_;refine wpIn_seq ?_;refine wpIn_region_lit ?_;have hk:k <l.length:=by have:=of_decide_eq_true hb;omega
  obtain⟨c,hc⟩:=am hk;have V:(aO l)[k]?=some [ax c]:=jv hc
  obtain⟨b0,o0,c1,u,au,ab,aS⟩:∃b0 o0 c1 u,G=.slice (some ⟨b0,o0,none⟩) l.length c1/\w.cell? ⟨b0,o0+k,none⟩=some u/\VR (fun _=>True) w (ax c) u:=by
   unfold eZ at hv;generalize hE:aO l=E at hv V ag
   cases hv with
   |bO=>simp at V
   |arr b o c' sz _ us hne hlen hcap hbl hM hsz ad hrr=>
    have aI:1=sz:=hsz k _ V;subst aI;have h1:=ad k 0 (by omega) (by omega);refine⟨b,o,c',us k 0,by rw[ag],?_,VR.on hB.size (fun b' aE _=>⟨trivial,hB.block b' aE⟩) (hrr k 0 _ _ V rfl)⟩;rw[hB.cell hbl,<- h1];simp
  refine cC D rfl rfl (by decide) (v:=.pointer (some ⟨b0,o0+k,none⟩)) (o_ rfl (D.at (v:=G) (by simp[bM])) (D.at (v:=.int .i64 k) (by simp[bM])) (by
   rw[au];have:=mn (P:=Tryz.prog) (w:=w) (t:=38) (e:=22) (sz:=1) (b:=b0) (o:=o0) (n:=l.length) (c:=c1) (k:=.i64) (m:=(k:Int)) (by kernel_rfl) (by omega) (by simpa using hk);simpa using this)) fun a D=>?_
  refine cC D rfl rfl (by decide) (v:=u) (r_ rfl (D.at (v:=.pointer (some ⟨b0,o0+k,none⟩)) (by simp[bM])) (lJ (n:=1) (by kernel_rfl) ab)) fun a D=>?_;refine cC D rfl rfl (by decide) (v:=u) (nJ rfl (D.at (by simp[bM]))) fun a D=>?_;show Code.wpIn _ _ _ _ _ _ _
  refine wpIn_region_lit ?_;refine cC D rfl rfl (by decide) (v:=v) (fD rfl (D.at (by simp[bM]))) fun a D=>?_;refine cC D rfl rfl (by decide) (v:=u) (fD rfl (D.at (by simp[bM]))) fun a D=>?_;have ad:c.length<=1000000:=hx c (List.mem_of_getElem? hc);refine Jc D rfl rfl (by decide) rfl (D.at (v:=u) (by simp[bM])) (R:=fun z w'=>∃t,Below w.heap.size w w'/\OV w' (ax c) z t/\∀b,Bk t b->w.heap.size<=b) ⟨_,Tryz.func77,by kernel_rfl,by kernel_rfl⟩ ((K3 aS ad).mono fun e w' ⟨z,t,h1,h2,h3,h4⟩=>⟨z,h1,t,h2,h3,h4⟩) fun a z U ⟨t,h1,h2,h3⟩ D=>?_;have I:((l.take k).map ax).length=k:=by rw[List.length_map,List.length_take];omega
  refine cC D rfl rfl (by decide) (v:=.slice (some ⟨U.heap.size,0,none⟩) 1 1) (w':=U.alloc (.cells #[z] 22)) (Jd rfl (by kernel_rfl:dY Tryz.prog 38=some (22,1,24)) (D.at (by simp[bM])) h2.plain) fun a D=>?_;have h4:Below U.heap.size U (U.alloc (.cells #[z] 22)):=(Below.refl _ _).alloc (Nat.le_refl _) _;generalize aw:U.alloc (.cells #[z] 22)=w2 at h4⊢
  have Z:mE w2 (some ⟨U.heap.size,0,none⟩) [z]:=fun _=>⟨U.heap.size,0,rfl,by rw[<- aw];exact(Array.getElem?_eq_some_iff.1 (heap_alloc_new _ _)).1,fun j y hj=>by
   obtain rfl:j=0:=by have:=aF hj;simpa using this
   cases hj;rw[<- aw];have:=heap_alloc_new U (.cells #[z] 22);unfold World.cell?;rw[this];rfl⟩
  have ay:cj w2 T 1 v k us:=by
   have:=(hN.row.below h1).below (h4.mono (Nat.le_refl _));rw[I]at this;exact this
  obtain⟨v',w3,T',aD,aA,al,aH⟩:=pY (P:=Tryz.prog) (m:=1) (c:=1) (by kernel_rfl:dY Tryz.prog 38=some (22,1,24)) ay Z rfl (fun u hu=>by rw[List.mem_singleton.1 hu];exact h2.plain) (by omega) (by omega);refine cC D rfl rfl (by decide) (v:=v') (w':=w3) (yk rfl (D.at (v:=v) (by simp[bM])) (D.at (v:=.slice (some ⟨U.heap.size,0,none⟩) 1 1) (by simp[bM])) aD) fun a D=>?_;refine cC D rfl rfl (by decide) (v:=v') (nJ rfl (D.at (by simp[bM]))) fun a D=>?_;show Code.wpIn _ _ _ _ _ _ _
  refine wpIn_region_lit ?_;refine cC D rfl rfl (by decide) (v:=.int .i64 ((k+1:Nat):Int)) (Jb (n:=1) rfl (D.at (v:=.int .i64 k) (by simp[bM])) rfl (by omega) (by omega)) fun a D=>?_;refine cC D rfl rfl (by decide) (v:=.int .i64 ((k+1:Nat):Int)) (fD rfl (D.at (by simp[bM]))) fun a D=>?_;have ak:=hN.je (x:=ax c) (by have:=hB.size;omega) h1 h2 h3 h4 (by rw[I];exact aA) (by rw[I];omega) al aH;have aR:(l.take k).map ax++[ax c]=(l.take (k+1)).map ax:=by rw[List.take_add_one,hc,List.map_append];rfl
  rw[aR]at ak;refine⟨l.length - (k+1),by omega,k+1,rfl,?_,by omega,v',T',_,_,D.sub (by simp[bM]),ak⟩;have hw:=hB.size;have a6:=h1.size;have a_:=h4.size;exact((hB.trans (h1.mono hw)).trans (h4.mono (by omega))).grown al (by omega) fun b hb=>hN.qg b hb
def K5{P:Program}{a:Act}{w:World}{t u:Nat}{x y:Operand}{o:Oper}{m n:Int}(ho:o.op=.binOp .add t x y u)(hx:a.eval x=.int .i64 m)(hy:a.eval y=.int .i64 n):(execOp a.eval o).run P w=.ok (.value (.int .i64 (IntKind.i64.wrap (m+n)))) w:=by
 obtain⟨v,h1,h2⟩:=yj (P:=P) (w:=w) (z:=.int .i64 (IntKind.i64.wrap (m+n))) ho hx hy rfl;cases h2;exact h1
def DE{w:World}{T:TypeId}{sz n:Nat}{v:Value}{us:List Value}(h:cj w T sz v n us)(hn:0 <n):∃g c,v=.slice (some ⟨g,0,none⟩) n (c+1)/\g <w.heap.size/\w.ownsRow 0 T sz (.slice (some ⟨g,0,none⟩) n (c+1)) n us:=by
 have u:=h.own hn;rcases u.2 with⟨_,G⟩|⟨g,cap,y,e,_,z,D,_⟩
 ·omega
 ·obtain⟨c,rfl⟩:∃c,cap=c+1:=⟨cap - 1,by omega⟩;refine⟨g,c,e,(Array.getElem?_eq_some_iff.1 z).1,by rw[<- e];exact u⟩
def K6{M:Nat->Prop}{w:World}{es:List (List AV)}{v:Value}(h:VR M w (.arr es) v):di v=true:=by cases h <;>rfl
def DF{A:Nat->Prop}{w:World}{T g c n:Nat}{us:List Value}{es:List AV}(h:w.ownsRow 0 T 1 (.slice (some ⟨g,0,none⟩) n (c+1)) n us)(hn:es.length=n)(hl:n<=140737488351232)(hA:A g)(hr:∀(k:Nat) (x:AV) (u:Value),es[k]?=some x->us[k]?=some u->VR A w x u):VR A w (.arr (es.map fun x=>[x])) (.slice (some ⟨g,0,none⟩) n (c+1)):=by
 rcases h.2 with⟨e,_⟩|⟨g',cap,Z,e,_,hg,I,ab,ad,ag⟩
 ·cases e
 cases e;have ak:=h.1
 cases es with
 |nil=>
  subst hn;exact .bO _ _
 |cons J es=>
  have v:((J::es).map fun x=>[x]).length=n:=by rw[List.length_map];exact hn
  have:=VR.arr (M:=A) (w:=w) g 0 (c+1) 1 ((J::es).map fun x=>[x]) (fun k _=>us.getD k undef) (by simp) (by rw[v];exact hl) (by rw[v];exact I) (Array.getElem?_eq_some_iff.1 hg).1 hA (fun k V z=>by
    obtain⟨y,_,rfl⟩:=nj z;rfl) (fun k j z G=>by
    obtain rfl:j=0:=by omega
    rw[v]at z;obtain⟨u,D⟩:=am (xs:=us) (k:=k) (by omega);have:=pQ h D;rw[List.getD_eq_getElem?_getD,D];simpa using this) (fun k j V x z G=>by
    obtain⟨y,U,rfl⟩:=nj z;obtain rfl:j=0:=by have:=aF G;simpa using this
    cases G;obtain⟨u,D⟩:=am (xs:=us) (k:=k) (by have:=aF U;omega);rw[List.getD_eq_getElem?_getD,D];exact hr k _ u U D)
  rw[v]at this;exact this
def K7{M:Nat->Prop}{l:List (List Int)}{w0:World}{v0:Value}(hv:VR M w0 (eZ l) v0)(hl:l.length<=1000000)(hx:∀c∈l,c.length<=1000000){k r:Nat}{c:List Int}{n a:Int}(hc:l[k]?=some c)(hn:c[r]?=some n):Calls Tryz.prog 81 #[v0,.int .i64 k,.int .i64 r,.int .i64 a] w0 fun e w'=>∃v,e=.returned v/\Below w0.heap.size w0 w'/\VR (fun b=>M b\/w0.heap.size<=b) w' (eZ (l.set k (c.set r (IntKind.i64.wrap (n+a))))) v:=by
 have bO:Tryz.prog.follows .mixedOrders=true:=by kernel_rfl
 have dr:dY Tryz.prog 38=some (22,1,24):=by kernel_rfl
 have dj:dY Tryz.prog 22=some (3,1,8):=by kernel_rfl
 have eE:(aO l).length=l.length:=by simp[aO]
 have aI:=aF hc;have dd:=aF hn;have ft:=hx c (List.mem_of_getElem? hc)
 obtain⟨q0,c0,aA,bN,aH,ap,e4⟩:=oC (sz:=1) (by omega) hv (fun j cs D=>by
  unfold aO at D;rw[List.getElem?_map]at D
  cases h:l[j]? with
  |none=>rw[h]at D;cases D
  |some y=>rw[h]at D;cases D;rfl)
 rw[eE]at bN ap;rw[Nat.mul_one]at ap
 have bj:∀j y,l[j]?=some y->∃u,aA[j]?=some u/\VR M w0 (ax y) u:=fun j y D=>by
  obtain⟨u,h1,h2⟩:=e4 j 0 [ax y] (ax y) (jv D) rfl;exact⟨u,by simpa using h1,h2⟩
 have e3:∀u∈aA,di u=true:=fun u V=>by
  obtain⟨j,D,rfl⟩:=List.mem_iff_getElem.1 V;obtain⟨y,hy⟩:=am (xs:=l) (k:=j) (by omega);obtain⟨u',e1,e2⟩:=bj j y hy;rw[List.getElem?_eq_getElem D]at e1;cases e1;exact K6 e2
 obtain⟨b0,o0,c4,bd,an⟩:=aH (by omega);refine Ct Tryz.func81 rfl ?_
 have z:=Sl.start (us:=#[v0,.int .i64 k,.int .i64 r,.int .i64 a]) (n:=38) (m:=34) (kp:=[(0,v0),(1,.int .i64 k),(2,.int .i64 r),(3,.int .i64 a)]) rfl (fun p hp=>by
  simp only[List.mem_cons,List.not_mem_nil,or_false]at hp;rcases hp with rfl|rfl|rfl|rfl <;>rfl)
 show Code.wpIn _ _ _ _ _ {tmps:=#[v0,.int .i64 k,.int .i64 r,.int .i64 a]++Array.replicate 34 undef,defers:=[]} _
 generalize({tmps:=#[v0,.int .i64 k,.int .i64 r,.int .i64 a]++Array.replicate 34 undef,defers:=[]}:Act)=A at z⊢;refine wpIn_seq ?_;refine wpIn_region_lit ?_;refine cC z rfl rfl (by decide) (v:=.slice none 0 0) (nJ rfl rfl) fun A z=>?_;show Code.wpIn _ _ _ _ _ _ _
 refine wpIn_seq ?_;refine wpIn_region_lit ?_;have ab:Below w0.heap.size w0 (w0.alloc (.cells #[] 22)):=(Below.refl _ _).alloc (Nat.le_refl _) _;refine cC z rfl rfl (by decide) (v:=.slice (some ⟨w0.heap.size,0,none⟩) 0 0) (w':=w0.alloc (.cells #[] 22)) (Cu rfl dr) fun A z=>?_;generalize w0.alloc (.cells #[] 22)=w1 at ab⊢;refine cC z rfl rfl (by decide) (v:=v0) (fD rfl (z.at (by simp[bM]))) fun A z=>?_;have cc:mE w1 q0 aA:=fun h=>⟨b0,o0,c4,Nat.lt_of_lt_of_le bd ab.size,fun j u D=>(ab.cell bd).trans (an j u D)⟩;obtain⟨v1,w2,T1,aL,bZ,ch,b2⟩:=pY (P:=Tryz.prog) (ty:=38) (T:=0) (n:=0) (us:=[]) (m:=l.length) (c:=c0) dr (v:=.slice (some ⟨w0.heap.size,0,none⟩) 0 0) (.inl ⟨rfl,rfl,_,rfl⟩) cc (by rw[ap,Nat.mul_one]) e3 (by omega) (by omega);refine cC z rfl rfl (by decide) (v:=v1) (w':=w2) (yk rfl (z.at (v:=.slice (some ⟨w0.heap.size,0,none⟩) 0 0) (by simp[bM])) (z.at (v:=v0) (by simp[bM])) (by rw[bN];exact aL)) fun A z=>?_;refine cC z rfl rfl (by decide) (v:=v1) (nJ rfl (z.at (by simp[bM]))) fun A z=>?_;show Code.wpIn _ _ _ _ _ _ _
 obtain⟨U,I,rfl,fg,a6⟩:=DE bZ (by omega);rw[Nat.zero_add,List.nil_append]at a6;have fl:=ab.size;have aS:Below w0.heap.size w0 w2:=ab.grown ch (by omega) (fun k hk=>by cases hk)
 have eP:w0.heap.size<=U:=by
  rcases b2 with e|e|e
  ·cases e
  ·cases e;omega
  ·cases e
 clear bZ aL b2 ch;refine wpIn_seq ?_;refine wpIn_region_lit ?_;refine cC z rfl rfl (by decide) (v:=.slice (some ⟨U,0,none⟩) l.length (I+1)) (fD rfl (z.at (by simp[bM]))) fun A z=>?_;refine cC z rfl rfl (by decide) (v:=.int .i64 k) (fD rfl (z.at (by simp[bM]))) fun A z=>?_;refine cC z rfl rfl (by decide) (v:=.slice (some ⟨w2.heap.size,0,none⟩) 0 0) (w':=w2.alloc (.cells #[] 3)) (Cu rfl dj) fun A z=>?_;have aD:Below w2.heap.size w2 (w2.alloc (.cells #[] 3)):=(Below.refl _ _).alloc (Nat.le_refl _) _;generalize w2.alloc (.cells #[] 3)=w3 at aD⊢;have d_:=aS.size;have fm:=aD.size;have al:Below w0.heap.size w0 w3:=aS.trans (aD.mono d_);have cF:=th a6 aD;refine cC z rfl rfl (by decide) (v:=v0) (fD rfl (z.at (by simp[bM]))) fun A z=>?_;refine cC z rfl rfl (by decide) (v:=.int .i64 k) (fD rfl (z.at (by simp[bM]))) fun A z=>?_;obtain⟨u0,e7,dS⟩:=bj k c hc;have ey:w3.cell? ⟨b0,o0+k,none⟩=some u0:=(al.cell bd).trans (an k u0 e7)
 refine cC z rfl rfl (by decide) (v:=.pointer (some ⟨b0,o0+k,none⟩)) (o_ rfl (z.at (v:=v0) (by simp[bM])) (z.at (v:=.int .i64 k) (by simp[bM])) (by
  rw[bN,c4];have:=mn (P:=Tryz.prog) (w:=w3) (t:=38) (e:=22) (sz:=1) (b:=b0) (o:=o0) (n:=l.length) (c:=c0) (k:=.i64) (m:=(k:Int)) (by kernel_rfl) (by omega) (by simpa using aI);simpa using this)) fun A z=>?_
 refine cC z rfl rfl (by decide) (v:=u0) (r_ rfl (z.at (v:=.pointer (some ⟨b0,o0+k,none⟩)) (by simp[bM])) (lJ (n:=1) (by kernel_rfl) ey)) fun A z=>?_
 -- the inner list,copied
 obtain⟨q5,c5,bc,bb,ek,aw,ev⟩:=oC (sz:=1) (by omega) (VR.on al.size (fun b hb hM=>⟨hM,al.block b hb⟩) dS) (fun j cs D=>by
  unfold aG at D;rw[List.getElem?_map]at D
  cases h:c[j]? with
  |none=>rw[h]at D;cases D
  |some y=>rw[h]at D;cases D;rfl)
 rw[aQ]at bb aw;rw[Nat.mul_one]at aw
 have ay:∀j y,c[j]?=some y->bc[j]?=some (Value.int .i64 y):=fun j y D=>by
  obtain⟨u,h1,h2⟩:=ev j 0 [.int .i64 y] (.int .i64 y) (aU D) rfl;cases h2;simpa using h1
 obtain⟨v4,w4,T4,aR,b1,cl,b3⟩:=pY (P:=Tryz.prog) (ty:=22) (T:=0) (n:=0) (us:=[]) (m:=c.length) (c:=c5) dj (v:=.slice (some ⟨w2.heap.size,0,none⟩) 0 0) (.inl ⟨rfl,rfl,_,rfl⟩) ek (by rw[aw,Nat.mul_one]) (fun u V=>by
  obtain⟨j,D,rfl⟩:=List.mem_iff_getElem.1 V;obtain⟨y,hy⟩:=am (xs:=c) (k:=j) (by omega);have:=ay j y hy;rw[List.getElem?_eq_getElem D]at this;rw[Option.some.inj this];rfl) (by omega) (by omega)
 refine cC z rfl rfl (by decide) (v:=v4) (w':=w4) (yk rfl (z.at (v:=.slice (some ⟨w2.heap.size,0,none⟩) 0 0) (by simp[bM])) (z.at (v:=u0) (by simp[bM])) (by rw[bb];exact aR)) fun A z=>?_;obtain⟨Z,J,rfl,fi,a_⟩:=DE b1 (by omega);rw[Nat.zero_add,List.nil_append]at a_
 have e0:w3.heap.size<=Z:=by
  rcases b3 with e|e|e
  ·cases e
  ·cases e;exact Nat.le_refl _
  ·cases e
 have ad:Below w3.heap.size w3 w4:=(Below.refl _ _).grown cl (Nat.le_refl _) (fun k hk=>by cases hk);have b4:Below w0.heap.size w0 w4:=al.trans (ad.mono (by omega));have bl:=th cF ad;clear b1 aR b3 cl
 refine cC z rfl rfl (by decide) (v:=.pointer (some ⟨U,k,none⟩)) (o_ rfl (z.at (v:=.slice (some ⟨U,0,none⟩) l.length (I+1)) (by simp[bM])) (z.at (v:=.int .i64 k) (by simp[bM])) (by
  have:=mn (P:=Tryz.prog) (w:=w4) (t:=38) (e:=22) (sz:=1) (b:=U) (o:=0) (n:=l.length) (c:=I+1) (k:=.i64) (m:=(k:Int)) (by kernel_rfl) (by omega) (by simpa using aI);simpa using this)) fun A z=>?_
 -- the store into the outer list
 obtain⟨w5,bF,bm,cp⟩:=rM bl (q:=k) (vs:=[.slice (some ⟨Z,0,none⟩) c.length (J+1)]) (by rw[ap];simp;omega) (fun v hv=>by rw[List.mem_singleton.1 hv];rfl) Tryz.prog;refine Je z rfl rfl (w':=w5) (Cv (n:=1) rfl (by kernel_rfl:bh Tryz.prog 22=some (false,1)) (z.at (v:=.pointer (some ⟨U,k,none⟩)) (by simp[bM])) (z.at (v:=.slice (some ⟨Z,0,none⟩) c.length (J+1)) (by simp[bM])) rfl bF) fun A z=>?_;have fo:=ad.size;have a1:Below w0.heap.size w0 w5:=b4.grown cp (by omega) (fun b hb=>by cases hb;omega);have bC:w5.ownsRow 0 T4 1 (.slice (some ⟨Z,0,none⟩) c.length (J+1)) c.length bc:=a_.kept cp (.inr (fun e=>by have e':(some Z:Option Nat)=some U:=e;simp at e';omega));show Code.wpIn _ _ _ _ _ _ _
 refine wpIn_seq ?_
 -- the drawn region
 have bf:Below w0.heap.size w0 {w5 with drawn:=w5.drawn+1}:=Below.drew a1;have ag:World.ownsRow {w5 with drawn:=w5.drawn+1} 0 T1 1 (.slice (some ⟨U,0,none⟩) l.length (I+1)) l.length (eA aA k [.slice (some ⟨Z,0,none⟩) c.length (J+1)]):=bm;have ak:World.ownsRow {w5 with drawn:=w5.drawn+1} 0 T4 1 (.slice (some ⟨Z,0,none⟩) c.length (J+1)) c.length bc:=bC;obtain⟨wd,eb⟩:∃wd,{w5 with drawn:=w5.drawn+1}=wd:=⟨_,rfl⟩;rw[eb]at bf ag ak
 have e6:(eA aA k [.slice (some ⟨Z,0,none⟩) c.length (J+1)])[k]?=some (.slice (some ⟨Z,0,none⟩) c.length (J+1)):=by
  rw[pZ _ _ _ _ (by rw[ap];simp;omega),if_pos (by simp)];simp
 have ao:=pQ ag e6;have aE:=pQ ak (ay r n hn)
 refine Jh (m:=15) (fun i=>match i with
  |0=>.slice (some ⟨U,0,none⟩) l.length (I+1)
  |1=>.int .i64 k
  |2=>.pointer (some ⟨U,k,none⟩)
  |3=>.slice (some ⟨Z,0,none⟩) c.length (J+1)
  |4=>.int .i64 r
  |5=>.slice (some ⟨U,0,none⟩) l.length (I+1)
  |6=>.int .i64 k
  |7=>.pointer (some ⟨U,k,none⟩)
  |8=>.slice (some ⟨Z,0,none⟩) c.length (J+1)
  |9=>.int .i64 r
  |10=>.pointer (some ⟨Z,r,none⟩)
  |11=>.int .i64 n
  |12=>.int .i64 a
  |13=>.int .i64 (IntKind.i64.wrap (n+a))
  |_=>.pointer (some ⟨Z,r,none⟩)) bO eb (z.sub (kp':=[(1,.int .i64 k),(2,.int .i64 r),(3,.int .i64 a),(9,.slice (some ⟨U,0,none⟩) l.length (I+1))]) (by simp[bM])) (by kernel_rfl) ?_ ?_
 ·intro i o hi G A' s' hd
  have ef:(Instr.indexAt 38 (.slice (some ⟨U,0,none⟩) l.length (I+1)) (.int .i64 k)).run Tryz.prog wd=.ok (.pointer (some ⟨U,k,none⟩)) wd:=by
   have:=mn (P:=Tryz.prog) (w:=wd) (t:=38) (e:=22) (sz:=1) (b:=U) (o:=0) (n:=l.length) (c:=I+1) (k:=.i64) (m:=(k:Int)) (by kernel_rfl) (by omega) (by simpa using aI);simpa using this
  have ej:(Instr.indexAt 22 (.slice (some ⟨Z,0,none⟩) c.length (J+1)) (.int .i64 r)).run Tryz.prog wd=.ok (.pointer (some ⟨Z,r,none⟩)) wd:=by
   have:=mn (P:=Tryz.prog) (w:=wd) (t:=22) (e:=3) (sz:=1) (b:=Z) (o:=0) (n:=c.length) (c:=J+1) (k:=.i64) (m:=(r:Int)) (by kernel_rfl) (by omega) (by simpa using dd);simpa using this
  match i,hi,G with
  |0,_,G=>cases G;exact fD rfl (s'.at (by simp))
  |1,_,G=>cases G;exact fD rfl (s'.at (by simp))
  |2,_,G=>cases G;exact o_ rfl (hd _ (Array.mem_of_getElem? (i:=0) rfl) rfl _ 22 rfl rfl) (hd _ (Array.mem_of_getElem? (i:=1) rfl) rfl _ 23 rfl rfl) ef
  |3,_,G=>cases G;exact r_ rfl (hd _ (Array.mem_of_getElem? (i:=0) rfl) rfl _ 24 rfl rfl) (lJ (n:=1) (by kernel_rfl) ao)
  |4,_,G=>cases G;exact fD rfl (s'.at (by simp))
  |5,_,G=>cases G;exact fD rfl (s'.at (by simp))
  |6,_,G=>cases G;exact fD rfl (s'.at (by simp))
  |7,_,G=>cases G;exact o_ rfl (hd _ (Array.mem_of_getElem? (i:=0) rfl) rfl _ 27 rfl rfl) (hd _ (Array.mem_of_getElem? (i:=1) rfl) rfl _ 28 rfl rfl) ef
  |8,_,G=>cases G;exact r_ rfl (hd _ (Array.mem_of_getElem? (i:=0) rfl) rfl _ 29 rfl rfl) (lJ (n:=1) (by kernel_rfl) ao)
  |9,_,G=>cases G;exact fD rfl (s'.at (by simp))
  |10,_,G=>cases G;exact o_ rfl (hd _ (Array.mem_of_getElem? (i:=0) rfl) rfl _ 30 rfl rfl) (hd _ (Array.mem_of_getElem? (i:=1) rfl) rfl _ 31 rfl rfl) ej
  |11,_,G=>cases G;exact r_ rfl (hd _ (Array.mem_of_getElem? (i:=0) rfl) rfl _ 32 rfl rfl) (lJ (n:=1) (by kernel_rfl) aE)
  |12,_,G=>cases G;exact fD rfl (s'.at (by simp))
  |13,_,G=>cases G;exact K5 rfl (hd _ (Array.mem_of_getElem? (i:=0) rfl) rfl _ 33 rfl rfl) (hd _ (Array.mem_of_getElem? (i:=1) rfl) rfl _ 34 rfl rfl)
  |14,_,G=>cases G;exact o_ rfl (hd _ (Array.mem_of_getElem? (i:=0) rfl) rfl _ 25 rfl rfl) (hd _ (Array.mem_of_getElem? (i:=1) rfl) rfl _ 26 rfl rfl) ej
 ·intro o A' G s' hd;have e5:o.op=.store 3 (.tmp 36) (.tmp 35):=by cases G;rfl
  have cd:o.dst=none:=by cases G;rfl
  clear G;obtain⟨w6,bI,cN,ct⟩:=rM ak (q:=r) (vs:=[.int .i64 (IntKind.i64.wrap (n+a))]) (by rw[aw];simp;omega) (fun v hv=>by rw[List.mem_singleton.1 hv];rfl) Tryz.prog;have cf:=Cv (P:=Tryz.prog) (a:=A') (w:=wd) (w':=w6) (n:=1) e5 (by kernel_rfl:bh Tryz.prog 3=some (false,1)) (hd 14 _ 36 (by decide) rfl rfl) (hd 13 _ 35 (by decide) rfl rfl) rfl bI;refine cq.wpIn (R:=fun x y=>y=w6) (by unfold cq;rw[cf]) fun x y hy=>?_;rw[hy];clear hy;rw[cd];replace s':Sl 38 [(1,.int .i64 k),(2,.int .i64 r),(3,.int .i64 a),(9,.slice (some ⟨U,0,none⟩) l.length (I+1))] (A'.put none x):=s';generalize A'.put none x=A2 at s'⊢;clear hd cf;show Code.wpIn _ _ _ _ _ _ _
  refine wpIn_seq ?_;refine wpIn_region_lit ?_;refine cC s' rfl rfl (by decide) (v:=.slice (some ⟨U,0,none⟩) l.length (I+1)) (fD rfl (s'.at (by simp))) fun A z=>?_;refine cC z rfl rfl (by decide) (v:=.slice (some ⟨U,0,none⟩) l.length (I+1)) (nJ rfl (z.at (by simp[bM]))) fun A z=>?_;show Code.wpIn _ _ _ _ _ _ _
  refine wpIn_ret ?_;have au:Below w0.heap.size w0 w6:=bf.grown ct (by have:=a1.size;have:=bf.size;omega) (fun b hb=>by cases hb;omega);have bw:w6.ownsRow 0 T1 1 (.slice (some ⟨U,0,none⟩) l.length (I+1)) l.length _:=ag.kept ct (.inr (fun e=>by have e':(some U:Option Nat)=some Z:=e;simp at e';omega));refine⟨.inr rfl,z.df,.slice (some ⟨U,0,none⟩) l.length (I+1),?_,.slice (some ⟨U,0,none⟩) l.length (I+1),rfl,au,?_⟩
  ·have e2:A.tmps.getD 8 undef=.slice (some ⟨U,0,none⟩) l.length (I+1):=z.at (t:=8) (by simp[bM]);rw[Array.getD_eq_getD_getElem?]at e2;simp[results,Tryz.f81,e2,pure,Sem.run]
  ·have eB:VR (fun b=>M b\/w0.heap.size<=b) w6 (ax (c.set r (IntKind.i64.wrap (n+a)))) (.slice (some ⟨Z,0,none⟩) c.length (J+1)):=by
    have:=DF (A:=fun b=>M b\/w0.heap.size<=b) (es:=(c.set r (IntKind.i64.wrap (n+a))).map (.int .i64)) cN (by simp) (by omega) (.inr (by omega)) fun j y u D V=>by
     rw[List.getElem?_map]at D;rw[pZ _ _ _ _ (by rw[aw];simp;omega)]at V;by_cases cB:j=r
     ·subst cB;rw[List.getElem?_set_self dd]at D;cases D;rw[if_pos (by simp)]at V;simp at V;subst V;exact .int _ _
     ·rw[List.getElem?_set_ne (Ne.symm cB)]at D;rw[if_neg (by simp;omega)]at V
      cases be:c[j]? with
      |none=>rw[be]at D;cases D
      |some y'=>
       rw[be]at D;cases D;rw[ay j y' be]at V;cases V;exact .int _ _
    rw[List.map_map]at this;exact this
   have:=DF (A:=fun b=>M b\/w0.heap.size<=b) (es:=(l.set k (c.set r (IntKind.i64.wrap (n+a)))).map ax) bw (by simp) (by omega) (.inr (by omega)) fun j y u D V=>by
    rw[List.getElem?_map]at D;rw[pZ _ _ _ _ (by rw[ap];simp;omega)]at V;by_cases cA:j=k
    ·subst cA;rw[List.getElem?_set_self aI]at D;cases D;rw[if_pos (by simp)]at V;simp at V;subst V;exact eB
    ·rw[List.getElem?_set_ne (Ne.symm cA)]at D;rw[if_neg (by simp;omega)]at V
     cases bg:l[j]? with
     |none=>rw[bg]at D;cases D
     |some y'=>
      rw[bg]at D;cases D;obtain⟨u',e1,e2⟩:=bj j y' bg;rw[e1]at V;cases V;exact VR.on au.size (fun b hb hM=>⟨.inl hM,au.block b hb⟩) e2
   rw[List.map_map]at this;exact this
theorem DG:∀{xs:List (List AV)},xs.all u6=true->∃c:List Int,xs=aG c
 |[],_=>⟨[],rfl⟩
 |x::xs,h=>by
  rw[List.all_cons,Bool.and_eq_true]at h;obtain⟨c,rfl⟩:=DG h.2;have h1:=h.1;unfold u6 at h1;split at h1
  ·rename_i n;exact⟨n::c,rfl⟩
  ·cases h1
theorem y_:∀{es:List (List AV)},es.all sA=true->∃l:List (List Int),es=aO l/\∀c∈l,c.length<=1000000
 |[],_=>⟨[],rfl,fun c h=>by cases h⟩
 |e::es,h=>by
  rw[List.all_cons,Bool.and_eq_true]at h;obtain⟨l,rfl,u⟩:=y_ h.2;have h1:=h.1;unfold sA at h1;split at h1
  ·rename_i xs;rw[Bool.and_eq_true,Nat.ble_eq]at h1;obtain⟨c,rfl⟩:=DG h1.1;rw[aQ]at h1;refine⟨c::l,rfl,fun d hd=>?_⟩;rcases List.mem_cons.1 hd with rfl|hd
   ·exact h1.2
   ·exact u d hd
  ·cases h1
def DH(l:List (List Int)):(aO l).length=l.length:=by simp[aO]
def K8{us:Array Value}(hs:us.size=1):us=#[us[0]]:=by
 apply Array.ext
 ·simp[hs]
 ·intro i h2 h3;have:i=0:=by simp at h3;omega
  subst this;rfl
def K9{es:List (List AV)}{r:SV}{fr':Fr}(γ:Glob)(h:sB es=some (r,fr')):gh Tryz.prog 40/\∀(κ:Ctx) (w:World) (us:Array Value),av γ κ [] κ.L w->κ.W=w->us.size=1->(∀(j:Nat) (x:AV) (u:Value),[AV.arr es][j]?=some x->us[j]?=some u->VR (MA κ.M [] κ.L) w x u)->
  Calls Tryz.prog 40 us w fun e w'=>∃v L',e=.returned v/\av γ κ fr' L' w'/\SR (MA κ.M fr' L') L' w' r v:=by
 refine⟨⟨_,Tryz.func40,by kernel_rfl,by kernel_rfl⟩,fun κ w us V hκ hs hv=>?_⟩;unfold sB at h;split at h
 rotate_left
 ·cases h
 rename_i J;cases h;rw[Bool.and_eq_true,Nat.ble_eq]at J;obtain⟨l,rfl,hl⟩:=y_ J.1;have U:=hv 0 _ us[0] rfl (by rw[Array.getElem?_eq_getElem (by omega)]);rw[K8 hs];generalize us[0]=u0 at U;have D:l.length<=1000000:=by have:=J.2;rw[DH]at this;omega
 refine(K4 U D fun c hc=>by have:=hl c hc;omega).mono fun e w' ⟨v,t,he,hb,y,G⟩=>?_;obtain⟨I,Z⟩:=V.AX hb (.own false (.arr (aO l))) t (fun b z=>⟨G b z,(y.lt b z).1⟩) fun Z=>⟨v,t,bY,y⟩;obtain⟨ts,rfl,h1⟩:=OV.head y;exact⟨v,_,he,I,.lo 0 [] _ v bY (by unfold j5;rw[rm];exact h1) y.plain⟩
def K_{es:List (List AV)}{k0 r0 a:Int}{r:SV}{fr':Fr}(γ:Glob)(h:yV es k0 r0 a=some (r,fr')):gh Tryz.prog 81/\∀(κ:Ctx) (w:World) (us:Array Value),av γ κ [] κ.L w->κ.W=w->us.size=4->(∀(j:Nat) (x:AV) (u:Value),[AV.arr es,.int .i64 k0,.int .i64 r0,.int .i64 a][j]?=some x->us[j]?=some u->VR (MA κ.M [] κ.L) w x u)->
  Calls Tryz.prog 81 us w fun e w'=>∃v L',e=.returned v/\av γ κ fr' L' w'/\SR (MA κ.M fr' L') L' w' r v:=by
 refine⟨⟨_,Tryz.func81,by kernel_rfl,by kernel_rfl⟩,fun κ w us hC hκ hs Z=>?_⟩;unfold yV at h;split at h
 rotate_left
 ·cases h
 rename_i hh;rw[Bool.and_eq_true,Bool.and_eq_true,Nat.ble_eq]at hh;obtain⟨⟨h1,h2⟩,h3⟩:=hh;obtain⟨ad,ag⟩:=of_decide_eq_true h3;obtain⟨k,rfl⟩:=Int.eq_ofNat_of_zero_le ad;obtain⟨q,rfl⟩:=Int.eq_ofNat_of_zero_le ag;obtain⟨l,rfl,hl⟩:=y_ h1;simp only[Int.toNat_natCast]at h;split at h
 rotate_left
 ·cases h
 rename_i xs y;split at h
 rotate_left
 ·cases h
 rename_i n D;cases h
 have G:∃c,l[k]?=some c/\xs=aG c:=by
  unfold aO at y;rw[List.getElem?_map]at y
  cases U:l[k]? with
  |none=>rw[U]at y;cases y
  |some c=>rw[U]at y;cases y;exact⟨c,rfl,rfl⟩
 obtain⟨c,G,rfl⟩:=G
 have ab:c[q]?=some n:=by
  unfold aG at D;rw[List.getElem?_map]at D
  cases I:c[q]? with
  |none=>rw[I]at D;cases D
  |some m=>rw[I]at D;cases D;rfl
 have ak:us=#[us[0],.int .i64 k,.int .i64 q,.int .i64 a]:=by
  have g1:=nY (Z 1 _ us[1] rfl (by rw[Array.getElem?_eq_getElem (by omega)]));have g2:=nY (Z 2 _ us[2] rfl (by rw[Array.getElem?_eq_getElem (by omega)]));have g3:=nY (Z 3 _ us[3] rfl (by rw[Array.getElem?_eq_getElem (by omega)]));apply Array.ext
  ·simp[hs]
  ·intro i h2 h3;have:i=0\/i=1\/i=2\/i=3:=by simp at h3;omega
   rcases this with rfl|rfl|rfl|rfl
   ·rfl
   ·simpa using g1
   ·simpa using g2
   ·simpa using g3
 have h0:=Z 0 _ us[0] rfl (by rw[Array.getElem?_eq_getElem (by omega)]);rw[ak];generalize us[0]=u0 at h0;have J:l.length<=1000000:=by rw[DH]at h2;omega
 refine(K7 h0 J (fun c G=>by have:=hl c G;omega) G ab).mono fun e w' ⟨v,he,z,al⟩=>?_;refine⟨v,κ.L,he,hC.later z,.t _ _ ?_⟩
 have V:(aO l).set k [.arr ((aG c).set q [.int .i64 (IntKind.i64.wrap (n+a))])]=aO (l.set k (c.set q (IntKind.i64.wrap (n+a)))):=by
  unfold aO ax aG;rw[List.map_set,List.map_set]
 rw[V]
 exact VR.on (Nat.le_refl _) (fun b _ z=>⟨by
  rcases z with z|z
  ·exact z
  ·exact⟨hC.fresh b (by rw[hκ];exact z),fun⟨i,_,_,h,_⟩=>by have:=hC.lim i _ h;simp at this⟩,rfl⟩) al
end Go.Proofs.YtjolgbkkocjpgaaGreatDoor
