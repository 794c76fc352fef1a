/- Law 39: copies of lists: of numbers,of events,of lists of. No condition. -/
import Derived.Test.YtjolgbkkocjpgaaGreatDoorTV
import Derived.Test.YtjolgbkkocjpgaaGreatDoorTX
import Derived.Test.YtjolgbkkocjpgaaGreatDoorTBB
import Derived.Test.YtjolgbkkocjpgaaGreatDoorWQ
set_option linter.all false
namespace Go.Proofs.YtjolgbkkocjpgaaGreatDoor
open Go.RowKit
set_option maxRecDepth 100000
set_option maxHeartbeats 8000000
def Dv:Glob where
 G:=fun _=>True
 n:=0
 stays:=fun _ _ _ _=>trivial
def Jb(c:Nat)(w:World):Calls Tryz.prog 77 #[.slice none 0 c] w (fun e w'=>e=.returned (.slice none 0 0)/\w'=w):=by
 go_enter Tryz.func77,Tryz.ntmps77
 have u:(binOp BinOp.eql 22 (Value.slice none 0 c) (Value.slice none 0 0)).run Tryz.prog w=.ok (.bool true) w:=by kernel_rfl
 go_wp2
 go_ret
 exact⟨rfl,rfl⟩
noncomputable def sV:Cfg:={P:=Tryz.prog,ok:=fun f=>Nat.beq f 77,ext:=fun _ _=>none,lv:=fun _ _=>none,own:=fun _ _=>[],eff:=fun _ _=>[],hand:=fun _ _=>false}
def HD(γ:Glob):Wf sV γ where
 mixed:=(by kernel_rfl:(Tryz.prog).follows .mixedOrders=true)
 tA:=fun f u=>by
  have u:Nat.beq f 77=true:=u;have u:f=77:=by simpa using u
  subst u;show qO sV _=true
  kernel_rfl
 ext:=fun _ _ _ _ h=>by cases h
def I_:Cl sV 77 [.nn []] [] (.ls 0) [.row false false 1 []]:=⟨4,by kernel_rfl⟩
def Je{e:List AV}{es:List (List AV)}(h:eP 1 (e::es)=true)(hl:(e::es).length*8<=140737488351232):Cl sV 77 [.t (.arr (e::es))] [] (.ls 0) [.row false false 1 (e::es)]:=by
 have y:b6 (([]:List (List AV)).length+(e::es).length) 8=true:=by
  simp only[List.length_cons]at hl;simp[b6];omega
 have z:eT sV.P 22=some (3,1,8):=by kernel_rfl
 refine Cl.aq rfl Tryz.func77 rfl rfl rfl ?_
 repeat'(first
|(with_reducible first|apply am.seq|apply am.block)
|((with_reducible apply am.text);(try case hm=>exact rfl))
|((with_reducible apply am.drawn);(case hm=>exact rfl))
|((with_reducible apply am.vy);(case hm=>exact rfl))
|((with_reducible apply am.vx);(case hm|he=>exact rfl))
|(with_reducible first|apply aa.og|apply aa.pG|apply aa.pF|apply am.skip|apply am.exit|apply am.ret|apply dx|apply qG|apply pg|apply q6|apply pJ|apply pI)
|((with_reducible apply u_);(case hj=>exact rfl))
|((with_reducible apply am.ew);(case hc=>exact rfl))
|((with_reducible apply am.jB);(case hc=>exact rfl))
|((with_reducible apply aa.aR);(case hp=>exact aA))
|((with_reducible apply aa.cQ);(case hp=>exact aA))
|((with_reducible apply aa.aX)<;>intro v)
|((with_reducible apply aa.la);(case hp=>exact aA))
|((with_reducible apply aa.l4);(case hp=>exact aA))
|((with_reducible apply aa.gm)<;>intro v)
|((with_reducible apply aa.ee);(case hp=>exact aA))
|((with_reducible apply aa.lZ);(case hp=>exact aA))
|((with_reducible apply aa.bi)<;>intro v)
|((with_reducible apply aa.l5);(case hp=>exact aA))
|((with_reducible apply aa.nc);(case hp=>exact aA))
|((with_reducible apply aa.fj)<;>intro v)
|(with_reducible first|apply aa.cI|apply aa.eE|apply aa.nil)
|((with_reducible apply aa.gf);(case hW=>exact rfl))
|(with_reducible first|apply az.og|apply az.pG|apply az.pF)
|((with_reducible apply az.aR);(case hp=>exact aA))
|((with_reducible apply az.cQ);(case hp=>exact aA))
|((with_reducible apply az.aX)<;>intro v)
|((with_reducible apply az.la);(case hp=>exact aA))
|((with_reducible apply az.l4);(case hp=>exact aA))
|((with_reducible apply az.gm)<;>intro v)
|((with_reducible apply az.ee);(case hp=>exact aA))
|((with_reducible apply az.lZ);(case hp=>exact aA))
|((with_reducible apply az.bi)<;>intro v)
|((with_reducible apply az.l5);(case hp=>exact aA))
|((with_reducible apply az.nc);(case hp=>exact aA))
|((with_reducible apply az.fj)<;>intro v)
|((with_reducible apply az.wF);(case hck=>kernel_rfl))
|((with_reducible apply az.Ah);(case hck=>kernel_rfl))
|(with_reducible first|apply az.cI|apply az.eE|apply az.nil)
|((with_reducible apply az.gf);(case hfl=>kernel_rfl);(case hW=>exact rfl))
|((with_reducible apply aa.gt);(case hW=>exact rfl);(case hx=>((with_reducible apply ac.da);(case hs=>exact fun _=>rfl);(case ha|ht=>exact rfl);(case hr=>first|(with_reducible exact c7)|(with_reducible exact z)|(with_reducible exact c8)|(with_reducible exact rw3)|(with_reducible exact rw4)|exact rfl);(case hx|hy|hn|hb=>exact rfl);(case hok=>exact h);(case hlen=>exact y);(case hv=>exact List.nil_append _);(case hk=>exact de);(case hf=>exact leq))))
|((with_reducible apply aa.u);(case hx=>((with_reducible apply ac.da);(case hs=>exact fun _=>rfl);(case ha|ht=>exact rfl);(case hr=>first|(with_reducible exact c7)|(with_reducible exact z)|(with_reducible exact c8)|(with_reducible exact rw3)|(with_reducible exact rw4)|exact rfl);(case hx|hy|hn|hb=>exact rfl);(case hok=>exact h);(case hlen=>exact y);(case hv=>exact List.nil_append _);(case hk=>exact de);(case hf=>exact leq))))
|((with_reducible apply az.gt);(case hfl=>kernel_rfl);(case hW=>exact rfl);(case hx=>exact af))
|((with_reducible apply az.u);(case hfl=>kernel_rfl);(case hx=>exact af))
|((with_reducible apply aa.aB);(case hW=>exact rfl);(case hx=>exact af))
|((with_reducible apply aa.u0);(case hx=>exact af))
|((with_reducible apply aa.u);(case hx=>exact ac.r fun _=>rfl))
|((with_reducible apply aa.gt);(case hW=>exact rfl);(case hx=>exact ac.r fun _=>rfl))
|fail)
 exact⟨.inr rfl,rfl⟩
def CC{es:List (List AV)}{r:SV}{fr':Fr}(γ:Glob)(h:kq 1 8 es=some (r,fr')):gN Tryz.prog 77/\∀(κ:Ctx) (w:World) (us:Array Value),aw γ κ [] κ.L w->κ.W=w->us.size=1->(∀(j:Nat) (x:AV) (u:Value),[AV.arr es][j]?=some x->us[j]?=some u->VR (MA κ.M [] κ.L) w x u)->
  Calls Tryz.prog 77 us w fun e w'=>∃v L',e=.returned v/\aw γ κ fr' L' w'/\SR (MA κ.M fr' L') L' w' r v:=by
 have U:gN Tryz.prog 77:=⟨_,Tryz.func77,by kernel_rfl,by kernel_rfl⟩;unfold kq at h;split at h
 rotate_left
 ·cases h
 rename_i I;rw[Bool.and_eq_true,Nat.ble_eq]at I;cases h;refine⟨U,fun κ w us D hκ hs hv=>?_⟩
 cases es with
 |nil=>
  have h0:=hv 0 _ us[0] rfl (by rw[Array.getElem?_eq_getElem (by omega)])
  have z:us=#[us[0]]:=by
   apply Array.ext
   ·simp[hs]
   ·intro i h2 h3;have:i=0:=by simp at h3;omega
    subst this;rfl
  rw[z];generalize us[0]=u0 at h0
  cases h0 with
  |bT A c=>
   cases A with
   |none=>exact(Jb c w).mono fun e w' ⟨he,hw⟩=>by
            subst hw;obtain⟨G,_⟩:=D.push (Below.refl _ _) (.row false false 1 []) (.slice none 0 0) (fun b hb=>by cases hb) fun hT=>⟨0,_,[],ck,.inl ⟨rfl,rfl,none,rfl⟩,by rw[List.length_nil];omega,fun k cs J=>by simp at J,fun k j cs x J _=>by simp at J⟩;exact⟨_,_,he,G,.ls _ _ ck rfl⟩
   |some p=>
    obtain⟨n,V⟩:=I_;refine((sound (HD γ) n).1 _ _ _ _ _ V).2 κ w #[.slice (some p) 0 c] D hκ rfl fun j x u y z=>?_
    match j with
    |0=>
     simp at y z;subst y z;exact .nn [] p c (.bT _ _)
    |j+1=>simp at y
  |arr b o c sz es us Z=>exact absurd rfl Z
 |cons e es=>
  obtain⟨n,V⟩:=Je I.1 I.2;refine((sound (HD γ) n).1 _ _ _ _ _ V).2 κ w us D hκ hs fun j x u y z=>?_
  match j with
  |0=>
   have hx:x=.t (.arr (e::es)):=by simpa using y.symm
   subst hx;exact .t _ _ (hv 0 _ u rfl z)
  |j+1=>simp at y
def Ja(c:Nat)(w:World):Calls Tryz.prog 18 #[.slice none 0 c] w (fun e w'=>e=.returned (.slice none 0 0)/\w'=w):=by
 go_enter Tryz.func18,Tryz.ntmps18
 have u:(binOp BinOp.eql 60 (Value.slice none 0 c) (Value.slice none 0 0)).run Tryz.prog w=.ok (.bool true) w:=by kernel_rfl
 go_wp2
 go_ret
 exact⟨rfl,rfl⟩
noncomputable def sU:Cfg:={P:=Tryz.prog,ok:=fun f=>Nat.beq f 18,ext:=fun _ _=>none,lv:=fun _ _=>none,own:=fun _ _=>[],eff:=fun _ _=>[],hand:=fun _ _=>false}
def HC(γ:Glob):Wf sU γ where
 mixed:=(by kernel_rfl:(Tryz.prog).follows .mixedOrders=true)
 tA:=fun f u=>by
  have u:Nat.beq f 18=true:=u;have u:f=18:=by simpa using u
  subst u;show qO sU _=true
  kernel_rfl
 ext:=fun _ _ _ _ h=>by cases h
def I9:Cl sU 18 [.nn []] [] (.ls 0) [.row false false 13 []]:=⟨4,by kernel_rfl⟩
def Jd{e:List AV}{es:List (List AV)}(h:eP 13 (e::es)=true)(hl:(e::es).length*120<=140737488351232):Cl sU 18 [.t (.arr (e::es))] [] (.ls 0) [.row false false 13 (e::es)]:=by
 have y:b6 (([]:List (List AV)).length+(e::es).length) 120=true:=by
  simp only[List.length_cons]at hl;simp[b6];omega
 have z:eT sU.P 60=some (57,13,120):=by kernel_rfl
 refine Cl.aq rfl Tryz.func18 rfl rfl rfl ?_
 repeat'(first
|(with_reducible first|apply am.seq|apply am.block)
|((with_reducible apply am.text);(try case hm=>exact rfl))
|((with_reducible apply am.drawn);(case hm=>exact rfl))
|((with_reducible apply am.vy);(case hm=>exact rfl))
|((with_reducible apply am.vx);(case hm|he=>exact rfl))
|(with_reducible first|apply aa.og|apply aa.pG|apply aa.pF|apply am.skip|apply am.exit|apply am.ret|apply dx|apply qG|apply pg|apply q6|apply pJ|apply pI)
|((with_reducible apply u_);(case hj=>exact rfl))
|((with_reducible apply am.ew);(case hc=>exact rfl))
|((with_reducible apply am.jB);(case hc=>exact rfl))
|((with_reducible apply aa.aR);(case hp=>exact aA))
|((with_reducible apply aa.cQ);(case hp=>exact aA))
|((with_reducible apply aa.aX)<;>intro v)
|((with_reducible apply aa.la);(case hp=>exact aA))
|((with_reducible apply aa.l4);(case hp=>exact aA))
|((with_reducible apply aa.gm)<;>intro v)
|((with_reducible apply aa.ee);(case hp=>exact aA))
|((with_reducible apply aa.lZ);(case hp=>exact aA))
|((with_reducible apply aa.bi)<;>intro v)
|((with_reducible apply aa.l5);(case hp=>exact aA))
|((with_reducible apply aa.nc);(case hp=>exact aA))
|((with_reducible apply aa.fj)<;>intro v)
|(with_reducible first|apply aa.cI|apply aa.eE|apply aa.nil)
|((with_reducible apply aa.gf);(case hW=>exact rfl))
|(with_reducible first|apply az.og|apply az.pG|apply az.pF)
|((with_reducible apply az.aR);(case hp=>exact aA))
|((with_reducible apply az.cQ);(case hp=>exact aA))
|((with_reducible apply az.aX)<;>intro v)
|((with_reducible apply az.la);(case hp=>exact aA))
|((with_reducible apply az.l4);(case hp=>exact aA))
|((with_reducible apply az.gm)<;>intro v)
|((with_reducible apply az.ee);(case hp=>exact aA))
|((with_reducible apply az.lZ);(case hp=>exact aA))
|((with_reducible apply az.bi)<;>intro v)
|((with_reducible apply az.l5);(case hp=>exact aA))
|((with_reducible apply az.nc);(case hp=>exact aA))
|((with_reducible apply az.fj)<;>intro v)
|((with_reducible apply az.wF);(case hck=>kernel_rfl))
|((with_reducible apply az.Ah);(case hck=>kernel_rfl))
|(with_reducible first|apply az.cI|apply az.eE|apply az.nil)
|((with_reducible apply az.gf);(case hfl=>kernel_rfl);(case hW=>exact rfl))
|((with_reducible apply aa.gt);(case hW=>exact rfl);(case hx=>((with_reducible apply ac.da);(case hs=>exact fun _=>rfl);(case ha|ht=>exact rfl);(case hr=>first|(with_reducible exact c7)|(with_reducible exact z)|(with_reducible exact c8)|(with_reducible exact rw3)|(with_reducible exact rw4)|exact rfl);(case hx|hy|hn|hb=>exact rfl);(case hok=>exact h);(case hlen=>exact y);(case hv=>exact List.nil_append _);(case hk=>exact de);(case hf=>exact leq))))
|((with_reducible apply aa.u);(case hx=>((with_reducible apply ac.da);(case hs=>exact fun _=>rfl);(case ha|ht=>exact rfl);(case hr=>first|(with_reducible exact c7)|(with_reducible exact z)|(with_reducible exact c8)|(with_reducible exact rw3)|(with_reducible exact rw4)|exact rfl);(case hx|hy|hn|hb=>exact rfl);(case hok=>exact h);(case hlen=>exact y);(case hv=>exact List.nil_append _);(case hk=>exact de);(case hf=>exact leq))))
|((with_reducible apply az.gt);(case hfl=>kernel_rfl);(case hW=>exact rfl);(case hx=>exact af))
|((with_reducible apply az.u);(case hfl=>kernel_rfl);(case hx=>exact af))
|((with_reducible apply aa.aB);(case hW=>exact rfl);(case hx=>exact af))
|((with_reducible apply aa.u0);(case hx=>exact af))
|((with_reducible apply aa.u);(case hx=>exact ac.r fun _=>rfl))
|((with_reducible apply aa.gt);(case hW=>exact rfl);(case hx=>exact ac.r fun _=>rfl))
|fail)
 exact⟨.inr rfl,rfl⟩
def Jc{es:List (List AV)}{r:SV}{fr':Fr}(γ:Glob)(h:kq 13 120 es=some (r,fr')):gN Tryz.prog 18/\∀(κ:Ctx) (w:World) (us:Array Value),aw γ κ [] κ.L w->κ.W=w->us.size=1->(∀(j:Nat) (x:AV) (u:Value),[AV.arr es][j]?=some x->us[j]?=some u->VR (MA κ.M [] κ.L) w x u)->
  Calls Tryz.prog 18 us w fun e w'=>∃v L',e=.returned v/\aw γ κ fr' L' w'/\SR (MA κ.M fr' L') L' w' r v:=by
 have U:gN Tryz.prog 18:=⟨_,Tryz.func18,by kernel_rfl,by kernel_rfl⟩;unfold kq at h;split at h
 rotate_left
 ·cases h
 rename_i I;rw[Bool.and_eq_true,Nat.ble_eq]at I;cases h;refine⟨U,fun κ w us D hκ hs hv=>?_⟩
 cases es with
 |nil=>
  have h0:=hv 0 _ us[0] rfl (by rw[Array.getElem?_eq_getElem (by omega)])
  have z:us=#[us[0]]:=by
   apply Array.ext
   ·simp[hs]
   ·intro i h2 h3;have:i=0:=by simp at h3;omega
    subst this;rfl
  rw[z];generalize us[0]=u0 at h0
  cases h0 with
  |bT A c=>
   cases A with
   |none=>exact(Ja c w).mono fun e w' ⟨he,hw⟩=>by
            subst hw;obtain⟨G,_⟩:=D.push (Below.refl _ _) (.row false false 13 []) (.slice none 0 0) (fun b hb=>by cases hb) fun hT=>⟨0,_,[],ck,.inl ⟨rfl,rfl,none,rfl⟩,by rw[List.length_nil];omega,fun k cs J=>by simp at J,fun k j cs x J _=>by simp at J⟩;exact⟨_,_,he,G,.ls _ _ ck rfl⟩
   |some p=>
    obtain⟨n,V⟩:=I9;refine((sound (HC γ) n).1 _ _ _ _ _ V).2 κ w #[.slice (some p) 0 c] D hκ rfl fun j x u y z=>?_
    match j with
    |0=>
     simp at y z;subst y z;exact .nn [] p c (.bT _ _)
    |j+1=>simp at y
  |arr b o c sz es us Z=>exact absurd rfl Z
 |cons e es=>
  obtain⟨n,V⟩:=Jd I.1 I.2;refine((sound (HC γ) n).1 _ _ _ _ _ V).2 κ w us D hκ hs fun j x u y z=>?_
  match j with
  |0=>
   have hx:x=.t (.arr (e::es)):=by simpa using y.symm
   subst hx;exact .t _ _ (hv 0 _ u rfl z)
  |j+1=>simp at y
def I6{M:Nat->Prop}{xs:List Int}{w:World}{v:Value}(hv:VR M w (ay xs) v)(hl:xs.length<=1000000):Calls Tryz.prog 77 #[v] w fun e w'=>∃u t,e=.returned u/\Below w.heap.size w w'/\OV w' (ay xs) u t/\∀b,Bk t b->w.heap.size<=b:=by
 have D:aw Dv ⟨fun _=>True,fun _=>False,fun _=>False,w,fun _=>none⟩ [] (fun _=>none) w:={
  glob:=trivial
  gn:=Nat.zero_le _
  gx:=fun b h=>h.elim
  fresh:=fun _ _=>trivial
  os:=rfl
  tape:=rfl
  output:=rfl
  size:=Nat.le_refl _
  kept:=fun _ _ _=>rfl
  lim:=fun i v h=>by cases h
  new:=fun i v b lb h=>by cases h
  dis:=fun i j v v' b h=>by cases h
  hand:=fun j v h=>by cases h
  blk:=fun i lb h=>by cases h}
 have G:kq 1 8 (aE xs)=some (.ls 0,[.row false false 1 (aE xs)]):=by
  unfold kq;have h1:eP 1 (aE xs)=true:=by simp[eP,aE,rV]
  have h2:Nat.ble ((aE xs).length*8) 140737488351232=true:=by rw[aO,Nat.ble_eq];omega
  rw[h1,h2];rfl
 refine((CC Dv G).2 _ w #[v] D rfl rfl fun j x u J hu=>?_).mono fun e w' ⟨v',L',he,z,hS⟩=>?_
 ·match j with
  |0=>
   simp at J hu;subst J hu;exact VR.on (Nat.le_refl _) (fun b _ _=>⟨⟨trivial,fun⟨i,_,_,h,_⟩=>by cases h⟩,rfl⟩) hv
  |j+1=>simp at J
 ·obtain⟨hL,_⟩:=kP hS;obtain⟨T,us,hR,y,_,ab,I⟩:=gh z rfl hL;rw[aO]at hR y
  obtain⟨t,V,Z⟩:=LD (w0:=w) hR y (fun k n U=>by
   obtain⟨u,e1,e2⟩:=I k 0 [.int .i64 n] (.int .i64 n) (by simp[aE,U]) rfl;cases e2
   simpa using e1) fun b hb=>by
    rcases(z.new 0 _ b _ hL (.one hb) rfl).2.2.1 with h|h
    ·exact h
    ·exact h.elim
  exact⟨v',t,he,⟨z.os,z.tape,z.output,z.size,fun k U=>z.kept k U id⟩,V,Z⟩
def BI(l:List (List Int))(w0:World)(z:Value)(k:Nat)(a:Act)(w:World):Prop:=Below w0.heap.size w0 w/\k<=l.length/\∃v T y u,Sl 19 [(3,v),(6,z),(7,.int .i64 l.length),(8,.int .i64 k)] a/\jw w0 w ((l.take k).map ay) v T y u
def I8{M:Nat->Prop}{l:List (List Int)}{w0:World}{G:Value}(hv:VR M w0 (fx l) G)(hl:l.length<=1000000)(hx:∀c∈l,c.length<=1000000):Calls Tryz.prog 40 #[G] w0 fun e w'=>∃v t,e=.returned v/\Below w0.heap.size w0 w'/\OV w' (fx l) v t/\∀b,Bk t b->w0.heap.size<=b:=by
 have ao:Tryz.prog.underlying 38=some (.slice 22):=by kernel_rfl
 obtain⟨q0,c0,aq⟩:=uK hv;have ag:(aF l).length=l.length:=by simp[aF]
 rw[ag]at aq;refine DB Tryz.func40 rfl ?_
 have D:Sl 19 [(0,G)] {tmps:=#[G]++Array.replicate 18 undef,defers:=[]}:=⟨rfl,rfl,fun p hp=>by
  obtain rfl:p=(0,G):=by simpa using hp
  rfl⟩
 show Code.wpIn _ _ _ _ _ {tmps:=#[G]++Array.replicate 18 undef,defers:=[]} _
 generalize({tmps:=#[G]++Array.replicate 18 undef,defers:=[]}:Act)=a at D⊢;refine wpIn_seq ?_;refine wpIn_region_lit ?_;refine cJ D rfl rfl (by decide) (v:=.slice none 0 0) (oF rfl rfl) fun a D=>?_;show Code.wpIn _ _ _ _ _ _ _
 refine wpIn_seq ?_;refine wpIn_region_lit ?_;refine cJ D rfl rfl (by decide) (v:=.slice none 0 0) (oF rfl rfl) fun a D=>?_;show Code.wpIn _ _ _ _ _ _ _
 refine wpIn_seq ?_;refine wpIn_seq ?_;refine wpIn_region_lit ?_;refine cJ D rfl rfl (by decide) (v:=G) (fU rfl (D.at (by simp[bV]))) fun a D=>?_;refine cJ D rfl rfl (by decide) (v:=.int .i64 l.length) (Kt rfl ao (by rw[D.at (v:=G) (by simp[bV]),aq])) fun a D=>?_;refine cJ D rfl rfl (by decide) (v:=.int .i64 0) (fU rfl rfl) fun a D=>?_;show Code.wpIn _ _ _ _ _ _ _
 refine wpIn_block ?_;have J:∃k,BI l w0 G k a w0:=⟨0,Below.refl _ _,Nat.zero_le _,.slice none 0 0,0,[],[],D.sub (by simp[bV]),jw.nil _ _ none⟩;clear D;refine yd (fun m a w=>∃k,m=l.length - k/\BI l w0 G k a w) _ ⟨_,rfl,J.choose_spec⟩ ?_;clear J;intro m a w ⟨k,hm,hB,a8,v,T,us,ts,D,hN⟩;refine wpIn_seq ?_;refine wpIn_region_lit ?_;obtain⟨b,hb⟩:∃b,decide ((k:Int)<(l.length:Int))=b:=⟨_,rfl⟩;refine cJ D rfl rfl (by decide) (v:=.bool b) (Ku rfl (D.at (by simp)) (D.at (by simp)) hb) fun a D=>?_;show Code.wpIn _ _ _ _ _ _ _
 refine wpIn_seq ?_
 cases b with
 |false=>
  refine wpIn_cond_split (t:=false) (D.at (v:=.bool false) (by simp[bV])) (fun h=>by cases h) (fun _=>?_);refine wpIn_exit ?_;have hk:k=l.length:=by have:=of_decide_eq_false hb;omega
  subst hk;show Code.wpIn _ _ _ _ _ _ _
  refine wpIn_seq ?_;refine wpIn_region_lit ?_;refine cJ D rfl rfl (by decide) (v:=v) (fU rfl (D.at (by simp[bV]))) fun a D=>?_;refine cJ D rfl rfl (by decide) (v:=v) (oF rfl (D.at (by simp[bV]))) fun a D=>?_;show Code.wpIn _ _ _ _ _ _ _
  refine wpIn_ret ?_;obtain⟨t,an,aX⟩:=hN.ov;rw[List.take_length,List.map_map]at an;refine⟨.inr rfl,D.df,v,?_,v,t,rfl,hB,an,aX⟩;have e2:a.tmps.getD 2 undef=v:=D.at (t:=2) (v:=v) (by simp[bV]);rw[Array.getD_eq_getD_getElem?]at e2;simp[results,Tryz.f40,e2,pure,Sem.run]
 |true=>
  refine wpIn_cond_split (t:=true) (D.at (v:=.bool true) (by simp[bV])) (fun _=>?_) (fun h=>by cases h);refine wpIn_skip ?_;show Code.wpIn _ _ _ _ _ _ _
  refine wpIn_seq ?_;refine wpIn_block ?_;refine wpIn_seq ?_;refine wpIn_region_lit ?_;have hk:k <l.length:=by have:=of_decide_eq_true hb;omega
  obtain⟨c,hc⟩:=aj hk;have V:(aF l)[k]?=some [ay c]:=iG hc
  obtain⟨b0,o0,c1,u,au,ab,a6⟩:∃b0 o0 c1 u,G=.slice (some ⟨b0,o0,none⟩) l.length c1/\w.cell? ⟨b0,o0+k,none⟩=some u/\VR (fun _=>True) w (ay c) u:=by
   unfold fx at hv;generalize hE:aF l=E at hv V ag
   cases hv with
   |bT=>simp at V
   |arr b o c' sz _ us hne hlen hcap hbl hM hsz ad hrr=>
    have aV:1=sz:=hsz k _ V;subst aV;have h1:=ad k 0 (by omega) (by omega);refine⟨b,o,c',us k 0,by rw[ag],?_,VR.on hB.size (fun b' aJ _=>⟨trivial,hB.block b' aJ⟩) (hrr k 0 _ _ V rfl)⟩;rw[hB.cell hbl,<- h1];simp
  refine cJ D rfl rfl (by decide) (v:=.pointer (some ⟨b0,o0+k,none⟩)) (pX rfl (D.at (v:=G) (by simp[bV])) (D.at (v:=.int .i64 k) (by simp[bV])) (by
   rw[au];have:=nT (P:=Tryz.prog) (w:=w) (t:=38) (e:=22) (sz:=1) (b:=b0) (o:=o0) (n:=l.length) (c:=c1) (k:=.i64) (m:=(k:Int)) (by kernel_rfl) (by omega) (by simpa using hk);simpa using this)) fun a D=>?_
  refine cJ D rfl rfl (by decide) (v:=u) (ti rfl (D.at (v:=.pointer (some ⟨b0,o0+k,none⟩)) (by simp[bV])) (m_ (n:=1) (by kernel_rfl) ab)) fun a D=>?_;refine cJ D rfl rfl (by decide) (v:=u) (oF rfl (D.at (by simp[bV]))) fun a D=>?_;show Code.wpIn _ _ _ _ _ _ _
  refine wpIn_region_lit ?_;refine cJ D rfl rfl (by decide) (v:=v) (fU rfl (D.at (by simp[bV]))) fun a D=>?_;refine cJ D rfl rfl (by decide) (v:=u) (fU rfl (D.at (by simp[bV]))) fun a D=>?_;have ad:c.length<=1000000:=hx c (List.mem_of_getElem? hc);refine RY D rfl rfl (by decide) rfl (D.at (v:=u) (by simp[bV])) (R:=fun z w'=>∃t,Below w.heap.size w w'/\OV w' (ay c) z t/\∀b,Bk t b->w.heap.size<=b) ⟨_,Tryz.func77,by kernel_rfl,by kernel_rfl⟩ ((I6 a6 ad).mono fun e w' ⟨z,t,h1,h2,h3,h4⟩=>⟨z,h1,t,h2,h3,h4⟩) fun a z U ⟨t,h1,h2,h3⟩ D=>?_;have I:((l.take k).map ay).length=k:=by rw[List.length_map,List.length_take];omega
  refine cJ D rfl rfl (by decide) (v:=.slice (some ⟨U.heap.size,0,none⟩) 1 1) (w':=U.alloc (.cells #[z] 22)) (Kv rfl (by kernel_rfl:eT Tryz.prog 38=some (22,1,24)) (D.at (by simp[bV])) h2.plain) fun a D=>?_;have h4:Below U.heap.size U (U.alloc (.cells #[z] 22)):=(Below.refl _ _).alloc (Nat.le_refl _) _;generalize av:U.alloc (.cells #[z] 22)=w2 at h4⊢
  have Z:nq w2 (some ⟨U.heap.size,0,none⟩) [z]:=fun _=>⟨U.heap.size,0,rfl,by rw[<- av];exact(Array.getElem?_eq_some_iff.1 (heap_alloc_new _ _)).1,fun j y hj=>by
   obtain rfl:j=0:=by have:=aC hj;simpa using this
   cases hj;rw[<- av];have:=heap_alloc_new U (.cells #[z] 22);unfold World.cell?;rw[this];rfl⟩
  have aB:cy w2 T 1 v k us:=by
   have:=(hN.row.below h1).below (h4.mono (Nat.le_refl _));rw[I]at this;exact this
  obtain⟨v',w3,T',aG,aD,al,aR⟩:=sd (P:=Tryz.prog) (m:=1) (c:=1) (by kernel_rfl:eT Tryz.prog 38=some (22,1,24)) aB Z rfl (fun u hu=>by rw[List.mem_singleton.1 hu];exact h2.plain) (by omega) (by omega);refine cJ D rfl rfl (by decide) (v:=v') (w':=w3) (zl rfl (D.at (v:=v) (by simp[bV])) (D.at (v:=.slice (some ⟨U.heap.size,0,none⟩) 1 1) (by simp[bV])) aG) fun a D=>?_;refine cJ D rfl rfl (by decide) (v:=v') (oF rfl (D.at (by simp[bV]))) fun a D=>?_;show Code.wpIn _ _ _ _ _ _ _
  refine wpIn_region_lit ?_;refine cJ D rfl rfl (by decide) (v:=.int .i64 ((k+1:Nat):Int)) (Ks (n:=1) rfl (D.at (v:=.int .i64 k) (by simp[bV])) rfl (by omega) (by omega)) fun a D=>?_;refine cJ D rfl rfl (by decide) (v:=.int .i64 ((k+1:Nat):Int)) (fU rfl (D.at (by simp[bV]))) fun a D=>?_;have ai:=hN.gO (x:=ay c) (by have:=hB.size;omega) h1 h2 h3 h4 (by rw[I];exact aD) (by rw[I];omega) al aR;have a1:(l.take k).map ay++[ay c]=(l.take (k+1)).map ay:=by rw[List.take_add_one,hc,List.map_append];rfl
  rw[a1]at ai;refine⟨l.length - (k+1),by omega,k+1,rfl,?_,by omega,v',T',_,_,D.sub (by simp[bV]),ai⟩;have hw:=hB.size;have bb:=h1.size;have bd:=h4.size;exact((hB.trans (h1.mono hw)).trans (h4.mono (by omega))).grown al (by omega) fun b hb=>hN.sA b hb
def Kw{P:Program}{a:Act}{w:World}{t u:Nat}{x y:Operand}{o:Oper}{m n:Int}(ho:o.op=.binOp .add t x y u)(hx:a.eval x=.int .i64 m)(hy:a.eval y=.int .i64 n):(execOp a.eval o).run P w=.ok (.value (.int .i64 (IntKind.i64.wrap (m+n)))) w:=by
 obtain⟨v,h1,h2⟩:=zm (P:=P) (w:=w) (z:=.int .i64 (IntKind.i64.wrap (m+n))) ho hx hy rfl;cases h2;exact h1
def F5{w:World}{T:TypeId}{sz n:Nat}{v:Value}{us:List Value}(h:cy w T sz v n us)(hn:0 <n):∃g c,v=.slice (some ⟨g,0,none⟩) n (c+1)/\g <w.heap.size/\w.ownsRow 0 T sz (.slice (some ⟨g,0,none⟩) n (c+1)) n us:=by
 have u:=h.own hn;rcases u.2 with⟨_,G⟩|⟨g,cap,y,e,_,z,D,_⟩
 ·omega
 ·obtain⟨c,rfl⟩:∃c,cap=c+1:=⟨cap - 1,by omega⟩;refine⟨g,c,e,(Array.getElem?_eq_some_iff.1 z).1,by rw[<- e];exact u⟩
def RN{M:Nat->Prop}{w:World}{es:List (List AV)}{v:Value}(h:VR M w (.arr es) v):ed v=true:=by cases h <;>rfl
def F6{A:Nat->Prop}{w:World}{T g c n:Nat}{us:List Value}{es:List AV}(h:w.ownsRow 0 T 1 (.slice (some ⟨g,0,none⟩) n (c+1)) n us)(hn:es.length=n)(hl:n<=140737488351232)(hA:A g)(hr:∀(k:Nat) (x:AV) (u:Value),es[k]?=some x->us[k]?=some u->VR A w x u):VR A w (.arr (es.map fun x=>[x])) (.slice (some ⟨g,0,none⟩) n (c+1)):=by
 rcases h.2 with⟨e,_⟩|⟨g',cap,Z,e,_,hg,I,ab,ad,ag⟩
 ·cases e
 cases e;have ai:=h.1
 cases es with
 |nil=>
  subst hn;exact .bT _ _
 |cons J es=>
  have v:((J::es).map fun x=>[x]).length=n:=by rw[List.length_map];exact hn
  have:=VR.arr (M:=A) (w:=w) g 0 (c+1) 1 ((J::es).map fun x=>[x]) (fun k _=>us.getD k undef) (by simp) (by rw[v];exact hl) (by rw[v];exact I) (Array.getElem?_eq_some_iff.1 hg).1 hA (fun k V z=>by
    obtain⟨y,_,rfl⟩:=oR z;rfl) (fun k j z G=>by
    obtain rfl:j=0:=by omega
    rw[v]at z;obtain⟨u,D⟩:=aj (xs:=us) (k:=k) (by omega);have:=rY h D;rw[List.getD_eq_getElem?_getD,D];simpa using this) (fun k j V x z G=>by
    obtain⟨y,U,rfl⟩:=oR z;obtain rfl:j=0:=by have:=aC G;simpa using this
    cases G;obtain⟨u,D⟩:=aj (xs:=us) (k:=k) (by have:=aC U;omega);rw[List.getD_eq_getElem?_getD,D];exact hr k _ u U D)
  rw[v]at this;exact this
def I5{M:Nat->Prop}{l:List (List Int)}{w0:World}{v0:Value}(hv:VR M w0 (fx l) v0)(hl:l.length<=1000000)(hx:∀c∈l,c.length<=1000000){k r:Nat}{c:List Int}{n a:Int}(hc:l[k]?=some c)(hn:c[r]?=some n):Calls Tryz.prog 81 #[v0,.int .i64 k,.int .i64 r,.int .i64 a] w0 fun e w'=>∃v,e=.returned v/\Below w0.heap.size w0 w'/\VR (fun b=>M b\/w0.heap.size<=b) w' (fx (l.set k (c.set r (IntKind.i64.wrap (n+a))))) v:=by
 have b4:Tryz.prog.follows .mixedOrders=true:=by kernel_rfl
 have eb:eT Tryz.prog 38=some (22,1,24):=by kernel_rfl
 have dr:eT Tryz.prog 22=some (3,1,8):=by kernel_rfl
 have eE:(aF l).length=l.length:=by simp[aF]
 have aV:=aC hc;have dm:=aC hn;have fl:=hx c (List.mem_of_getElem? hc)
 obtain⟨q0,c0,aD,b3,aR,aq,e0⟩:=qN (sz:=1) (by omega) hv (fun j cs D=>by
  unfold aF at D;rw[List.getElem?_map]at D
  cases h:l[j]? with
  |none=>rw[h]at D;cases D
  |some y=>rw[h]at D;cases D;rfl)
 rw[eE]at b3 aq;rw[Nat.mul_one]at aq
 have bw:∀j y,l[j]?=some y->∃u,aD[j]?=some u/\VR M w0 (ay y) u:=fun j y D=>by
  obtain⟨u,h1,h2⟩:=e0 j 0 [ay y] (ay y) (iG D) rfl;exact⟨u,by simpa using h1,h2⟩
 have eR:∀u∈aD,ed u=true:=fun u V=>by
  obtain⟨j,D,rfl⟩:=List.mem_iff_getElem.1 V;obtain⟨y,hy⟩:=aj (xs:=l) (k:=j) (by omega);obtain⟨u',e1,e2⟩:=bw j y hy;rw[List.getElem?_eq_getElem D]at e1;cases e1;exact RN e2
 obtain⟨b0,o0,dj,bh,an⟩:=aR (by omega);refine DB Tryz.func81 rfl ?_
 have z:=Sl.start (us:=#[v0,.int .i64 k,.int .i64 r,.int .i64 a]) (n:=38) (m:=34) (kp:=[(0,v0),(1,.int .i64 k),(2,.int .i64 r),(3,.int .i64 a)]) rfl (fun p hp=>by
  simp only[List.mem_cons,List.not_mem_nil,or_false]at hp;rcases hp with rfl|rfl|rfl|rfl <;>rfl)
 show Code.wpIn _ _ _ _ _ {tmps:=#[v0,.int .i64 k,.int .i64 r,.int .i64 a]++Array.replicate 34 undef,defers:=[]} _
 generalize({tmps:=#[v0,.int .i64 k,.int .i64 r,.int .i64 a]++Array.replicate 34 undef,defers:=[]}:Act)=A at z⊢;refine wpIn_seq ?_;refine wpIn_region_lit ?_;refine cJ z rfl rfl (by decide) (v:=.slice none 0 0) (oF rfl rfl) fun A z=>?_;show Code.wpIn _ _ _ _ _ _ _
 refine wpIn_seq ?_;refine wpIn_region_lit ?_;have ab:Below w0.heap.size w0 (w0.alloc (.cells #[] 22)):=(Below.refl _ _).alloc (Nat.le_refl _) _;refine cJ z rfl rfl (by decide) (v:=.slice (some ⟨w0.heap.size,0,none⟩) 0 0) (w':=w0.alloc (.cells #[] 22)) (C8 rfl eb) fun A z=>?_;generalize w0.alloc (.cells #[] 22)=w1 at ab⊢;refine cJ z rfl rfl (by decide) (v:=v0) (fU rfl (z.at (by simp[bV]))) fun A z=>?_;have cl:nq w1 q0 aD:=fun h=>⟨b0,o0,dj,Nat.lt_of_lt_of_le bh ab.size,fun j u D=>(ab.cell bh).trans (an j u D)⟩;obtain⟨v1,w2,T1,aX,b5,cA,cf⟩:=sd (P:=Tryz.prog) (ty:=38) (T:=0) (n:=0) (us:=[]) (m:=l.length) (c:=c0) eb (v:=.slice (some ⟨w0.heap.size,0,none⟩) 0 0) (.inl ⟨rfl,rfl,_,rfl⟩) cl (by rw[aq,Nat.mul_one]) eR (by omega) (by omega);refine cJ z rfl rfl (by decide) (v:=v1) (w':=w2) (zl rfl (z.at (v:=.slice (some ⟨w0.heap.size,0,none⟩) 0 0) (by simp[bV])) (z.at (v:=v0) (by simp[bV])) (by rw[b3];exact aX)) fun A z=>?_;refine cJ z rfl rfl (by decide) (v:=v1) (oF rfl (z.at (by simp[bV]))) fun A z=>?_;show Code.wpIn _ _ _ _ _ _ _
 obtain⟨U,I,rfl,e6,bb⟩:=F5 b5 (by omega);rw[Nat.zero_add,List.nil_append]at bb;have fa:=ab.size;have a6:Below w0.heap.size w0 w2:=ab.grown cA (by omega) (fun k hk=>by cases hk)
 have eL:w0.heap.size<=U:=by
  rcases cf with e|e|e
  ·cases e
  ·cases e;omega
  ·cases e
 clear b5 aX cf cA;refine wpIn_seq ?_;refine wpIn_region_lit ?_;refine cJ z rfl rfl (by decide) (v:=.slice (some ⟨U,0,none⟩) l.length (I+1)) (fU rfl (z.at (by simp[bV]))) fun A z=>?_;refine cJ z rfl rfl (by decide) (v:=.int .i64 k) (fU rfl (z.at (by simp[bV]))) fun A z=>?_;refine cJ z rfl rfl (by decide) (v:=.slice (some ⟨w2.heap.size,0,none⟩) 0 0) (w':=w2.alloc (.cells #[] 3)) (C8 rfl dr) fun A z=>?_;have aG:Below w2.heap.size w2 (w2.alloc (.cells #[] 3)):=(Below.refl _ _).alloc (Nat.le_refl _) _;generalize w2.alloc (.cells #[] 3)=w3 at aG⊢;have ee:=a6.size;have fi:=aG.size;have al:Below w0.heap.size w0 w3:=a6.trans (aG.mono ee);have da:=wM bb aG;refine cJ z rfl rfl (by decide) (v:=v0) (fU rfl (z.at (by simp[bV]))) fun A z=>?_;refine cJ z rfl rfl (by decide) (v:=.int .i64 k) (fU rfl (z.at (by simp[bV]))) fun A z=>?_;obtain⟨u0,e5,ec⟩:=bw k c hc;have ew:w3.cell? ⟨b0,o0+k,none⟩=some u0:=(al.cell bh).trans (an k u0 e5)
 refine cJ z rfl rfl (by decide) (v:=.pointer (some ⟨b0,o0+k,none⟩)) (pX rfl (z.at (v:=v0) (by simp[bV])) (z.at (v:=.int .i64 k) (by simp[bV])) (by
  rw[b3,dj];have:=nT (P:=Tryz.prog) (w:=w3) (t:=38) (e:=22) (sz:=1) (b:=b0) (o:=o0) (n:=l.length) (c:=c0) (k:=.i64) (m:=(k:Int)) (by kernel_rfl) (by omega) (by simpa using aV);simpa using this)) fun A z=>?_
 refine cJ z rfl rfl (by decide) (v:=u0) (ti rfl (z.at (v:=.pointer (some ⟨b0,o0+k,none⟩)) (by simp[bV])) (m_ (n:=1) (by kernel_rfl) ew)) fun A z=>?_
 -- the inner list,copied
 obtain⟨q5,c5,bf,be,eo,av,ev⟩:=qN (sz:=1) (by omega) (VR.on al.size (fun b hb hM=>⟨hM,al.block b hb⟩) ec) (fun j cs D=>by
  unfold aE at D;rw[List.getElem?_map]at D
  cases h:c[j]? with
  |none=>rw[h]at D;cases D
  |some y=>rw[h]at D;cases D;rfl)
 rw[aO]at be av;rw[Nat.mul_one]at av
 have aB:∀j y,c[j]?=some y->bf[j]?=some (Value.int .i64 y):=fun j y D=>by
  obtain⟨u,h1,h2⟩:=ev j 0 [.int .i64 y] (.int .i64 y) (aW D) rfl;cases h2;simpa using h1
 obtain⟨v4,w4,T4,a1,cc,cI,cg⟩:=sd (P:=Tryz.prog) (ty:=22) (T:=0) (n:=0) (us:=[]) (m:=c.length) (c:=c5) dr (v:=.slice (some ⟨w2.heap.size,0,none⟩) 0 0) (.inl ⟨rfl,rfl,_,rfl⟩) eo (by rw[av,Nat.mul_one]) (fun u V=>by
  obtain⟨j,D,rfl⟩:=List.mem_iff_getElem.1 V;obtain⟨y,hy⟩:=aj (xs:=c) (k:=j) (by omega);have:=aB j y hy;rw[List.getElem?_eq_getElem D]at this;rw[Option.some.inj this];rfl) (by omega) (by omega)
 refine cJ z rfl rfl (by decide) (v:=v4) (w':=w4) (zl rfl (z.at (v:=.slice (some ⟨w2.heap.size,0,none⟩) 0 0) (by simp[bV])) (z.at (v:=u0) (by simp[bV])) (by rw[be];exact a1)) fun A z=>?_;obtain⟨Z,J,rfl,e7,bd⟩:=F5 cc (by omega);rw[Nat.zero_add,List.nil_append]at bd
 have eN:w3.heap.size<=Z:=by
  rcases cg with e|e|e
  ·cases e
  ·cases e;exact Nat.le_refl _
  ·cases e
 have ad:Below w3.heap.size w3 w4:=(Below.refl _ _).grown cI (Nat.le_refl _) (fun k hk=>by cases hk);have ch:Below w0.heap.size w0 w4:=al.trans (ad.mono (by omega));have bx:=wM da ad;clear cc a1 cg cI
 refine cJ z rfl rfl (by decide) (v:=.pointer (some ⟨U,k,none⟩)) (pX rfl (z.at (v:=.slice (some ⟨U,0,none⟩) l.length (I+1)) (by simp[bV])) (z.at (v:=.int .i64 k) (by simp[bV])) (by
  have:=nT (P:=Tryz.prog) (w:=w4) (t:=38) (e:=22) (sz:=1) (b:=U) (o:=0) (n:=l.length) (c:=I+1) (k:=.i64) (m:=(k:Int)) (by kernel_rfl) (by omega) (by simpa using aV);simpa using this)) fun A z=>?_
 -- the store into the outer list
 obtain⟨w5,b1,bz,cL⟩:=wN bx (q:=k) (vs:=[.slice (some ⟨Z,0,none⟩) c.length (J+1)]) (by rw[aq];simp;omega) (fun v hv=>by rw[List.mem_singleton.1 hv];rfl) Tryz.prog;refine RZ z rfl rfl (w':=w5) (C7 (n:=1) rfl (by kernel_rfl:bu Tryz.prog 22=some (false,1)) (z.at (v:=.pointer (some ⟨U,k,none⟩)) (by simp[bV])) (z.at (v:=.slice (some ⟨Z,0,none⟩) c.length (J+1)) (by simp[bV])) rfl b1) fun A z=>?_;have fj:=ad.size;have a8:Below w0.heap.size w0 w5:=ch.grown cL (by omega) (fun b hb=>by cases hb;omega);have bU:w5.ownsRow 0 T4 1 (.slice (some ⟨Z,0,none⟩) c.length (J+1)) c.length bf:=bd.kept cL (.inr (fun e=>by have e':(some Z:Option Nat)=some U:=e;simp at e';omega));show Code.wpIn _ _ _ _ _ _ _
 refine wpIn_seq ?_
 -- the drawn region
 have bl:Below w0.heap.size w0 {w5 with drawn:=w5.drawn+1}:=Below.drew a8;have ag:World.ownsRow {w5 with drawn:=w5.drawn+1} 0 T1 1 (.slice (some ⟨U,0,none⟩) l.length (I+1)) l.length (fh aD k [.slice (some ⟨Z,0,none⟩) c.length (J+1)]):=bz;have ai:World.ownsRow {w5 with drawn:=w5.drawn+1} 0 T4 1 (.slice (some ⟨Z,0,none⟩) c.length (J+1)) c.length bf:=bU;obtain⟨wd,ef⟩:∃wd,{w5 with drawn:=w5.drawn+1}=wd:=⟨_,rfl⟩;rw[ef]at bl ag ai
 have e4:(fh aD k [.slice (some ⟨Z,0,none⟩) c.length (J+1)])[k]?=some (.slice (some ⟨Z,0,none⟩) c.length (J+1)):=by
  rw[r7 _ _ _ _ (by rw[aq];simp;omega),if_pos (by simp)];simp
 have ao:=rY ag e4;have aJ:=rY ai (aB r n hn)
 refine OK (m:=15) (fun i=>match i with
  |0=>.slice (some ⟨U,0,none⟩) l.length (I+1)
  |1=>.int .i64 k
  |2=>.pointer (some ⟨U,k,none⟩)
  |3=>.slice (some ⟨Z,0,none⟩) c.length (J+1)
  |4=>.int .i64 r
  |5=>.slice (some ⟨U,0,none⟩) l.length (I+1)
  |6=>.int .i64 k
  |7=>.pointer (some ⟨U,k,none⟩)
  |8=>.slice (some ⟨Z,0,none⟩) c.length (J+1)
  |9=>.int .i64 r
  |10=>.pointer (some ⟨Z,r,none⟩)
  |11=>.int .i64 n
  |12=>.int .i64 a
  |13=>.int .i64 (IntKind.i64.wrap (n+a))
  |_=>.pointer (some ⟨Z,r,none⟩)) b4 ef (z.sub (kp':=[(1,.int .i64 k),(2,.int .i64 r),(3,.int .i64 a),(9,.slice (some ⟨U,0,none⟩) l.length (I+1))]) (by simp[bV])) (by kernel_rfl) ?_ ?_
 ·intro i o hi G A' s' hd
  have ej:(Instr.indexAt 38 (.slice (some ⟨U,0,none⟩) l.length (I+1)) (.int .i64 k)).run Tryz.prog wd=.ok (.pointer (some ⟨U,k,none⟩)) wd:=by
   have:=nT (P:=Tryz.prog) (w:=wd) (t:=38) (e:=22) (sz:=1) (b:=U) (o:=0) (n:=l.length) (c:=I+1) (k:=.i64) (m:=(k:Int)) (by kernel_rfl) (by omega) (by simpa using aV);simpa using this
  have ek:(Instr.indexAt 22 (.slice (some ⟨Z,0,none⟩) c.length (J+1)) (.int .i64 r)).run Tryz.prog wd=.ok (.pointer (some ⟨Z,r,none⟩)) wd:=by
   have:=nT (P:=Tryz.prog) (w:=wd) (t:=22) (e:=3) (sz:=1) (b:=Z) (o:=0) (n:=c.length) (c:=J+1) (k:=.i64) (m:=(r:Int)) (by kernel_rfl) (by omega) (by simpa using dm);simpa using this
  match i,hi,G with
  |0,_,G=>cases G;exact fU rfl (s'.at (by simp))
  |1,_,G=>cases G;exact fU rfl (s'.at (by simp))
  |2,_,G=>cases G;exact pX rfl (hd _ (Array.mem_of_getElem? (i:=0) rfl) rfl _ 22 rfl rfl) (hd _ (Array.mem_of_getElem? (i:=1) rfl) rfl _ 23 rfl rfl) ej
  |3,_,G=>cases G;exact ti rfl (hd _ (Array.mem_of_getElem? (i:=0) rfl) rfl _ 24 rfl rfl) (m_ (n:=1) (by kernel_rfl) ao)
  |4,_,G=>cases G;exact fU rfl (s'.at (by simp))
  |5,_,G=>cases G;exact fU rfl (s'.at (by simp))
  |6,_,G=>cases G;exact fU rfl (s'.at (by simp))
  |7,_,G=>cases G;exact pX rfl (hd _ (Array.mem_of_getElem? (i:=0) rfl) rfl _ 27 rfl rfl) (hd _ (Array.mem_of_getElem? (i:=1) rfl) rfl _ 28 rfl rfl) ej
  |8,_,G=>cases G;exact ti rfl (hd _ (Array.mem_of_getElem? (i:=0) rfl) rfl _ 29 rfl rfl) (m_ (n:=1) (by kernel_rfl) ao)
  |9,_,G=>cases G;exact fU rfl (s'.at (by simp))
  |10,_,G=>cases G;exact pX rfl (hd _ (Array.mem_of_getElem? (i:=0) rfl) rfl _ 30 rfl rfl) (hd _ (Array.mem_of_getElem? (i:=1) rfl) rfl _ 31 rfl rfl) ek
  |11,_,G=>cases G;exact ti rfl (hd _ (Array.mem_of_getElem? (i:=0) rfl) rfl _ 32 rfl rfl) (m_ (n:=1) (by kernel_rfl) aJ)
  |12,_,G=>cases G;exact fU rfl (s'.at (by simp))
  |13,_,G=>cases G;exact Kw rfl (hd _ (Array.mem_of_getElem? (i:=0) rfl) rfl _ 33 rfl rfl) (hd _ (Array.mem_of_getElem? (i:=1) rfl) rfl _ 34 rfl rfl)
  |14,_,G=>cases G;exact pX rfl (hd _ (Array.mem_of_getElem? (i:=0) rfl) rfl _ 25 rfl rfl) (hd _ (Array.mem_of_getElem? (i:=1) rfl) rfl _ 26 rfl rfl) ek
 ·intro o A' G s' hd;have e3:o.op=.store 3 (.tmp 36) (.tmp 35):=by cases G;rfl
  have cp:o.dst=none:=by cases G;rfl
  clear G;obtain⟨w6,b2,dd,cM⟩:=wN ai (q:=r) (vs:=[.int .i64 (IntKind.i64.wrap (n+a))]) (by rw[av];simp;omega) (fun v hv=>by rw[List.mem_singleton.1 hv];rfl) Tryz.prog;have ct:=C7 (P:=Tryz.prog) (a:=A') (w:=wd) (w':=w6) (n:=1) e3 (by kernel_rfl:bu Tryz.prog 3=some (false,1)) (hd 14 _ 36 (by decide) rfl rfl) (hd 13 _ 35 (by decide) rfl rfl) rfl b2;refine cB.wpIn (R:=fun x y=>y=w6) (by unfold cB;rw[ct]) fun x y hy=>?_;rw[hy];clear hy;rw[cp];replace s':Sl 38 [(1,.int .i64 k),(2,.int .i64 r),(3,.int .i64 a),(9,.slice (some ⟨U,0,none⟩) l.length (I+1))] (A'.put none x):=s';generalize A'.put none x=A2 at s'⊢;clear hd ct;show Code.wpIn _ _ _ _ _ _ _
  refine wpIn_seq ?_;refine wpIn_region_lit ?_;refine cJ s' rfl rfl (by decide) (v:=.slice (some ⟨U,0,none⟩) l.length (I+1)) (fU rfl (s'.at (by simp))) fun A z=>?_;refine cJ z rfl rfl (by decide) (v:=.slice (some ⟨U,0,none⟩) l.length (I+1)) (oF rfl (z.at (by simp[bV]))) fun A z=>?_;show Code.wpIn _ _ _ _ _ _ _
  refine wpIn_ret ?_;have au:Below w0.heap.size w0 w6:=bl.grown cM (by have:=a8.size;have:=bl.size;omega) (fun b hb=>by cases hb;omega);have bT:w6.ownsRow 0 T1 1 (.slice (some ⟨U,0,none⟩) l.length (I+1)) l.length _:=ag.kept cM (.inr (fun e=>by have e':(some U:Option Nat)=some Z:=e;simp at e';omega));refine⟨.inr rfl,z.df,.slice (some ⟨U,0,none⟩) l.length (I+1),?_,.slice (some ⟨U,0,none⟩) l.length (I+1),rfl,au,?_⟩
  ·have e2:A.tmps.getD 8 undef=.slice (some ⟨U,0,none⟩) l.length (I+1):=z.at (t:=8) (by simp[bV]);rw[Array.getD_eq_getD_getElem?]at e2;simp[results,Tryz.f81,e2,pure,Sem.run]
  ·have ey:VR (fun b=>M b\/w0.heap.size<=b) w6 (ay (c.set r (IntKind.i64.wrap (n+a)))) (.slice (some ⟨Z,0,none⟩) c.length (J+1)):=by
    have:=F6 (A:=fun b=>M b\/w0.heap.size<=b) (es:=(c.set r (IntKind.i64.wrap (n+a))).map (.int .i64)) dd (by simp) (by omega) (.inr (by omega)) fun j y u D V=>by
     rw[List.getElem?_map]at D;rw[r7 _ _ _ _ (by rw[av];simp;omega)]at V;by_cases c4:j=r
     ·subst c4;rw[List.getElem?_set_self dm]at D;cases D;rw[if_pos (by simp)]at V;simp at V;subst V;exact .int _ _
     ·rw[List.getElem?_set_ne (Ne.symm c4)]at D;rw[if_neg (by simp;omega)]at V
      cases bi:c[j]? with
      |none=>rw[bi]at D;cases D
      |some y'=>
       rw[bi]at D;cases D;rw[aB j y' bi]at V;cases V;exact .int _ _
    rw[List.map_map]at this;exact this
   have:=F6 (A:=fun b=>M b\/w0.heap.size<=b) (es:=(l.set k (c.set r (IntKind.i64.wrap (n+a)))).map ay) bT (by simp) (by omega) (.inr (by omega)) fun j y u D V=>by
    rw[List.getElem?_map]at D;rw[r7 _ _ _ _ (by rw[aq];simp;omega)]at V;by_cases cQ:j=k
    ·subst cQ;rw[List.getElem?_set_self aV]at D;cases D;rw[if_pos (by simp)]at V;simp at V;subst V;exact ey
    ·rw[List.getElem?_set_ne (Ne.symm cQ)]at D;rw[if_neg (by simp;omega)]at V
     cases bm:l[j]? with
     |none=>rw[bm]at D;cases D
     |some y'=>
      rw[bm]at D;cases D;obtain⟨u',e1,e2⟩:=bw j y' bm;rw[e1]at V;cases V;exact VR.on au.size (fun b hb hM=>⟨.inl hM,au.block b hb⟩) e2
   rw[List.map_map]at this;exact this
theorem DK:∀{xs:List (List AV)},xs.all tF=true->∃c:List Int,xs=aE c
 |[],_=>⟨[],rfl⟩
 |x::xs,h=>by
  rw[List.all_cons,Bool.and_eq_true]at h;obtain⟨c,rfl⟩:=DK h.2;have h1:=h.1;unfold tF at h1;split at h1
  ·rename_i n;exact⟨n::c,rfl⟩
  ·cases h1
theorem zI:∀{es:List (List AV)},es.all rH=true->∃l:List (List Int),es=aF l/\∀c∈l,c.length<=1000000
 |[],_=>⟨[],rfl,fun c h=>by cases h⟩
 |e::es,h=>by
  rw[List.all_cons,Bool.and_eq_true]at h;obtain⟨l,rfl,u⟩:=zI h.2;have h1:=h.1;unfold rH at h1;split at h1
  ·rename_i xs;rw[Bool.and_eq_true,Nat.ble_eq]at h1;obtain⟨c,rfl⟩:=DK h1.1;rw[aO]at h1;refine⟨c::l,rfl,fun d hd=>?_⟩;rcases List.mem_cons.1 hd with rfl|hd
   ·exact h1.2
   ·exact u d hd
  ·cases h1
def CB(l:List (List Int)):(aF l).length=l.length:=by simp[aF]
def NC{us:Array Value}(hs:us.size=1):us=#[us[0]]:=by
 apply Array.ext
 ·simp[hs]
 ·intro i h2 h3;have:i=0:=by simp at h3;omega
  subst this;rfl
def I7{es:List (List AV)}{r:SV}{fr':Fr}(γ:Glob)(h:sZ es=some (r,fr')):gN Tryz.prog 40/\∀(κ:Ctx) (w:World) (us:Array Value),aw γ κ [] κ.L w->κ.W=w->us.size=1->(∀(j:Nat) (x:AV) (u:Value),[AV.arr es][j]?=some x->us[j]?=some u->VR (MA κ.M [] κ.L) w x u)->
  Calls Tryz.prog 40 us w fun e w'=>∃v L',e=.returned v/\aw γ κ fr' L' w'/\SR (MA κ.M fr' L') L' w' r v:=by
 refine⟨⟨_,Tryz.func40,by kernel_rfl,by kernel_rfl⟩,fun κ w us V hκ hs hv=>?_⟩;unfold sZ at h;split at h
 rotate_left
 ·cases h
 rename_i J;cases h;rw[Bool.and_eq_true,Nat.ble_eq]at J;obtain⟨l,rfl,hl⟩:=zI J.1;have U:=hv 0 _ us[0] rfl (by rw[Array.getElem?_eq_getElem (by omega)]);rw[NC hs];generalize us[0]=u0 at U;have D:l.length<=1000000:=by have:=J.2;rw[CB]at this;omega
 refine(I8 U D fun c hc=>by have:=hl c hc;omega).mono fun e w' ⟨v,t,he,hb,y,G⟩=>?_;obtain⟨I,Z⟩:=V.Fv hb (.own false (.arr (aF l))) t (fun b z=>⟨G b z,(y.lt b z).1⟩) fun Z=>⟨v,t,ck,y⟩;obtain⟨ts,rfl,h1⟩:=OV.head y;exact⟨v,_,he,I,.lo 0 [] _ v ck (by unfold lG;rw[uB];exact h1) y.plain⟩
def I4{es:List (List AV)}{k0 r0 a:Int}{r:SV}{fr':Fr}(γ:Glob)(h:sX es k0 r0 a=some (r,fr')):gN Tryz.prog 81/\∀(κ:Ctx) (w:World) (us:Array Value),aw γ κ [] κ.L w->κ.W=w->us.size=4->(∀(j:Nat) (x:AV) (u:Value),[AV.arr es,.int .i64 k0,.int .i64 r0,.int .i64 a][j]?=some x->us[j]?=some u->VR (MA κ.M [] κ.L) w x u)->
  Calls Tryz.prog 81 us w fun e w'=>∃v L',e=.returned v/\aw γ κ fr' L' w'/\SR (MA κ.M fr' L') L' w' r v:=by
 refine⟨⟨_,Tryz.func81,by kernel_rfl,by kernel_rfl⟩,fun κ w us hC hκ hs Z=>?_⟩;unfold sX at h;split at h
 rotate_left
 ·cases h
 rename_i hh;rw[Bool.and_eq_true,Bool.and_eq_true,Nat.ble_eq]at hh;obtain⟨⟨h1,h2⟩,h3⟩:=hh;obtain⟨ad,ag⟩:=of_decide_eq_true h3;obtain⟨k,rfl⟩:=Int.eq_ofNat_of_zero_le ad;obtain⟨q,rfl⟩:=Int.eq_ofNat_of_zero_le ag;obtain⟨l,rfl,hl⟩:=zI h1;simp only[Int.toNat_natCast]at h;split at h
 rotate_left
 ·cases h
 rename_i xs y;split at h
 rotate_left
 ·cases h
 rename_i n D;cases h
 have G:∃c,l[k]?=some c/\xs=aE c:=by
  unfold aF at y;rw[List.getElem?_map]at y
  cases U:l[k]? with
  |none=>rw[U]at y;cases y
  |some c=>rw[U]at y;cases y;exact⟨c,rfl,rfl⟩
 obtain⟨c,G,rfl⟩:=G
 have ab:c[q]?=some n:=by
  unfold aE at D;rw[List.getElem?_map]at D
  cases I:c[q]? with
  |none=>rw[I]at D;cases D
  |some m=>rw[I]at D;cases D;rfl
 have ai:us=#[us[0],.int .i64 k,.int .i64 q,.int .i64 a]:=by
  have g1:=pk (Z 1 _ us[1] rfl (by rw[Array.getElem?_eq_getElem (by omega)]));have g2:=pk (Z 2 _ us[2] rfl (by rw[Array.getElem?_eq_getElem (by omega)]));have g3:=pk (Z 3 _ us[3] rfl (by rw[Array.getElem?_eq_getElem (by omega)]));apply Array.ext
  ·simp[hs]
  ·intro i h2 h3;have:i=0\/i=1\/i=2\/i=3:=by simp at h3;omega
   rcases this with rfl|rfl|rfl|rfl
   ·rfl
   ·simpa using g1
   ·simpa using g2
   ·simpa using g3
 have h0:=Z 0 _ us[0] rfl (by rw[Array.getElem?_eq_getElem (by omega)]);rw[ai];generalize us[0]=u0 at h0;have J:l.length<=1000000:=by rw[CB]at h2;omega
 refine(I5 h0 J (fun c G=>by have:=hl c G;omega) G ab).mono fun e w' ⟨v,he,z,al⟩=>?_;refine⟨v,κ.L,he,hC.later z,.t _ _ ?_⟩
 have V:(aF l).set k [.arr ((aE c).set q [.int .i64 (IntKind.i64.wrap (n+a))])]=aF (l.set k (c.set q (IntKind.i64.wrap (n+a)))):=by
  unfold aF ay aE;rw[List.map_set,List.map_set]
 rw[V]
 exact VR.on (Nat.le_refl _) (fun b _ z=>⟨by
  rcases z with z|z
  ·exact z
  ·exact⟨hC.fresh b (by rw[hκ];exact z),fun⟨i,_,_,h,_⟩=>by have:=hC.lim i _ h;simp at this⟩,rfl⟩) al
end Go.Proofs.YtjolgbkkocjpgaaGreatDoor
