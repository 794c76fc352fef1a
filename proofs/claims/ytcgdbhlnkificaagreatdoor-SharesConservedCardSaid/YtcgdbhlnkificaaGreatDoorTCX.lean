/- Law 39: copies of lists: of numbers,of events,of lists of. No condition. -/
import Derived.Test.YtcgdbhlnkificaaGreatDoorTV
import Derived.Test.YtcgdbhlnkificaaGreatDoorTX
import Derived.Test.YtcgdbhlnkificaaGreatDoorTBB
import Derived.Test.YtcgdbhlnkificaaGreatDoorWQ
set_option linter.all false
namespace Go.Proofs.YtcgdbhlnkificaaGreatDoor
open Go.RowKit
set_option maxRecDepth 100000
set_option maxHeartbeats 8000000
def CQ:Glob where
 G:=fun _=>True
 n:=0
 stays:=fun _ _ _ _=>trivial
def H_(c:Nat)(w:World):Calls Tryz.prog 94 #[.slice none 0 c] w (fun e w'=>e=.returned (.slice none 0 0)/\w'=w):=by
 go_enter Tryz.func94,Tryz.ntmps94
 have u:(binOp BinOp.eql 22 (Value.slice none 0 c) (Value.slice none 0 0)).run Tryz.prog w=.ok (.bool true) w:=by kernel_rfl
 go_wp2
 go_ret
 exact⟨rfl,rfl⟩
noncomputable def ss:Cfg:={P:=Tryz.prog,ok:=fun f=>Nat.beq f 94,ext:=fun _ _=>none,lv:=fun _ _=>none,own:=fun _ _=>[],eff:=fun _ _=>[],hand:=fun _ _=>false}
def GS(γ:Glob):Wf ss γ where
 mixed:=(by kernel_rfl:(Tryz.prog).follows .mixedOrders=true)
 sS:=fun f u=>by
  have u:Nat.beq f 94=true:=u;have u:f=94:=by simpa using u
  subst u;show qk ss _=true
  kernel_rfl
 ext:=fun _ _ _ _ h=>by cases h
def H8:Cl ss 94 [.nn []] [] (.ls 0) [.row false false 1 []]:=⟨4,by kernel_rfl⟩
def Ic{e:List AV}{es:List (List AV)}(h:QY 1 (e::es)=true)(hl:(e::es).length*8<=140737488351232):Cl ss 94 [.t (.arr (e::es))] [] (.ls 0) [.row false false 1 (e::es)]:=by
 have y:cn (([]:List (List AV)).length+(e::es).length) 8=true:=by
  simp only[List.length_cons]at hl;simp[cn];omega
 have z:eQ ss.P 22=some (3,1,8):=by kernel_rfl
 refine Cl.ap rfl Tryz.func94 rfl rfl rfl ?_
 repeat'(first
|(with_reducible first|apply ac.seq|apply ac.block)
|((with_reducible apply ac.text);(try case hm=>exact rfl))
|((with_reducible apply ac.drawn);(case hm=>exact rfl))
|((with_reducible apply ac.sD);(case hm=>exact rfl))
|((with_reducible apply ac.uR);(case hm|he=>exact rfl))
|(with_reducible first|apply aa.nQ|apply aa.pd|apply aa.pc|apply ac.skip|apply ac.exit|apply ac.ret|apply aH|apply da|apply bL|apply fH|apply eV|apply cY)
|((with_reducible apply uD);(case hj=>exact rfl))
|((with_reducible apply ac.aR);(case hc=>exact rfl))
|((with_reducible apply ac.aY);(case hc=>exact rfl))
|((with_reducible apply aa.aF);(case hp=>exact ak))
|((with_reducible apply aa.bk);(case hp=>exact ak))
|((with_reducible apply aa.aX)<;>intro v)
|((with_reducible apply aa.fS);(case hp=>exact ak))
|((with_reducible apply aa.dK);(case hp=>exact ak))
|((with_reducible apply aa.gA)<;>intro v)
|((with_reducible apply aa.cj);(case hp=>exact ak))
|((with_reducible apply aa.c_);(case hp=>exact ak))
|((with_reducible apply aa.bi)<;>intro v)
|((with_reducible apply aa.iM);(case hp=>exact ak))
|((with_reducible apply aa.iL);(case hp=>exact ak))
|((with_reducible apply aa.fz)<;>intro v)
|(with_reducible first|apply aa.aB|apply aa.dF|apply aa.nil)
|((with_reducible apply aa.gf);(case hW=>exact rfl))
|(with_reducible first|apply ay.nQ|apply ay.pd|apply ay.pc)
|((with_reducible apply ay.aF);(case hp=>exact ak))
|((with_reducible apply ay.bk);(case hp=>exact ak))
|((with_reducible apply ay.aX)<;>intro v)
|((with_reducible apply ay.fS);(case hp=>exact ak))
|((with_reducible apply ay.dK);(case hp=>exact ak))
|((with_reducible apply ay.gA)<;>intro v)
|((with_reducible apply ay.cj);(case hp=>exact ak))
|((with_reducible apply ay.c_);(case hp=>exact ak))
|((with_reducible apply ay.bi)<;>intro v)
|((with_reducible apply ay.iM);(case hp=>exact ak))
|((with_reducible apply ay.iL);(case hp=>exact ak))
|((with_reducible apply ay.fz)<;>intro v)
|((with_reducible apply ay.vN);(case hck=>kernel_rfl))
|((with_reducible apply ay.zl);(case hck=>kernel_rfl))
|(with_reducible first|apply ay.aB|apply ay.dF|apply ay.nil)
|((with_reducible apply ay.gf);(case hfl=>kernel_rfl);(case hW=>exact rfl))
|((with_reducible apply aa.gt);(case hW=>exact rfl);(case hx=>((with_reducible apply af.ei);(case hs=>exact fun _=>rfl);(case ha|ht=>exact rfl);(case hr=>first|(with_reducible exact ec)|(with_reducible exact z)|(with_reducible exact ed)|(with_reducible exact rw3)|(with_reducible exact rw4)|exact rfl);(case hx|hy|hn|hb=>exact rfl);(case hok=>exact h);(case hlen=>exact y);(case hv=>exact List.nil_append _);(case hk=>exact ez);(case hf=>exact leq))))
|((with_reducible apply aa.u);(case hx=>((with_reducible apply af.ei);(case hs=>exact fun _=>rfl);(case ha|ht=>exact rfl);(case hr=>first|(with_reducible exact ec)|(with_reducible exact z)|(with_reducible exact ed)|(with_reducible exact rw3)|(with_reducible exact rw4)|exact rfl);(case hx|hy|hn|hb=>exact rfl);(case hok=>exact h);(case hlen=>exact y);(case hv=>exact List.nil_append _);(case hk=>exact ez);(case hf=>exact leq))))
|((with_reducible apply ay.gt);(case hfl=>kernel_rfl);(case hW=>exact rfl);(case hx=>exact ae))
|((with_reducible apply ay.u);(case hfl=>kernel_rfl);(case hx=>exact ae))
|((with_reducible apply aa.av);(case hW=>exact rfl);(case hx=>exact ae))
|((with_reducible apply aa.u0);(case hx=>exact ae))
|((with_reducible apply aa.u);(case hx=>exact af.r fun _=>rfl))
|((with_reducible apply aa.gt);(case hW=>exact rfl);(case hx=>exact af.r fun _=>rfl))
|fail)
 exact⟨.inr rfl,rfl⟩
def BN{es:List (List AV)}{r:SV}{fr':Fr}(γ:Glob)(h:mi 1 8 es=some (r,fr')):gR Tryz.prog 94/\∀(κ:Ctx) (w:World) (us:Array Value),ar γ κ [] κ.L w->κ.W=w->us.size=1->(∀(j:Nat) (x:AV) (u:Value),[AV.arr es][j]?=some x->us[j]?=some u->VR (MA κ.M [] κ.L) w x u)->
  Calls Tryz.prog 94 us w fun e w'=>∃v L',e=.returned v/\ar γ κ fr' L' w'/\SR (MA κ.M fr' L') L' w' r v:=by
 have U:gR Tryz.prog 94:=⟨_,Tryz.func94,by kernel_rfl,by kernel_rfl⟩;unfold mi at h;split at h
 rotate_left
 ·cases h
 rename_i I;rw[Bool.and_eq_true,Nat.ble_eq]at I;cases h;refine⟨U,fun κ w us D hκ hs hv=>?_⟩
 cases es with
 |nil=>
  have h0:=hv 0 _ us[0] rfl (by rw[Array.getElem?_eq_getElem (by omega)])
  have z:us=#[us[0]]:=by
   apply Array.ext
   ·simp[hs]
   ·intro i h2 h3;have:i=0:=by simp at h3;omega
    subst this;rfl
  rw[z];generalize us[0]=u0 at h0
  cases h0 with
  |bS A c=>
   cases A with
   |none=>exact(H_ c w).mono fun e w' ⟨he,hw⟩=>by
            subst hw;obtain⟨G,_⟩:=D.push (Below.refl _ _) (.row false false 1 []) (.slice none 0 0) (fun b hb=>by cases hb) fun hT=>⟨0,_,[],cb,.inl ⟨rfl,rfl,none,rfl⟩,by rw[List.length_nil];omega,fun k cs J=>by simp at J,fun k j cs x J _=>by simp at J⟩;exact⟨_,_,he,G,.ls _ _ cb rfl⟩
   |some p=>
    obtain⟨n,V⟩:=H8;refine((sound (GS γ) n).1 _ _ _ _ _ V).2 κ w #[.slice (some p) 0 c] D hκ rfl fun j x u y z=>?_
    match j with
    |0=>
     simp at y z;subst y z;exact .nn [] p c (.bS _ _)
    |j+1=>simp at y
  |arr b o c sz es us Z=>exact absurd rfl Z
 |cons e es=>
  obtain⟨n,V⟩:=Ic I.1 I.2;refine((sound (GS γ) n).1 _ _ _ _ _ V).2 κ w us D hκ hs fun j x u y z=>?_
  match j with
  |0=>
   have hx:x=.t (.arr (e::es)):=by simpa using y.symm
   subst hx;exact .t _ _ (hv 0 _ u rfl z)
  |j+1=>simp at y
def H9(c:Nat)(w:World):Calls Tryz.prog 19 #[.slice none 0 c] w (fun e w'=>e=.returned (.slice none 0 0)/\w'=w):=by
 go_enter Tryz.func19,Tryz.ntmps19
 have u:(binOp BinOp.eql 57 (Value.slice none 0 c) (Value.slice none 0 0)).run Tryz.prog w=.ok (.bool true) w:=by kernel_rfl
 go_wp2
 go_ret
 exact⟨rfl,rfl⟩
noncomputable def sq:Cfg:={P:=Tryz.prog,ok:=fun f=>Nat.beq f 19,ext:=fun _ _=>none,lv:=fun _ _=>none,own:=fun _ _=>[],eff:=fun _ _=>[],hand:=fun _ _=>false}
def GR(γ:Glob):Wf sq γ where
 mixed:=(by kernel_rfl:(Tryz.prog).follows .mixedOrders=true)
 sS:=fun f u=>by
  have u:Nat.beq f 19=true:=u;have u:f=19:=by simpa using u
  subst u;show qk sq _=true
  kernel_rfl
 ext:=fun _ _ _ _ h=>by cases h
def H7:Cl sq 19 [.nn []] [] (.ls 0) [.row false false 13 []]:=⟨4,by kernel_rfl⟩
def Ib{e:List AV}{es:List (List AV)}(h:QY 13 (e::es)=true)(hl:(e::es).length*120<=140737488351232):Cl sq 19 [.t (.arr (e::es))] [] (.ls 0) [.row false false 13 (e::es)]:=by
 have y:cn (([]:List (List AV)).length+(e::es).length) 120=true:=by
  simp only[List.length_cons]at hl;simp[cn];omega
 have z:eQ sq.P 57=some (53,13,120):=by kernel_rfl
 refine Cl.ap rfl Tryz.func19 rfl rfl rfl ?_
 repeat'(first
|(with_reducible first|apply ac.seq|apply ac.block)
|((with_reducible apply ac.text);(try case hm=>exact rfl))
|((with_reducible apply ac.drawn);(case hm=>exact rfl))
|((with_reducible apply ac.sD);(case hm=>exact rfl))
|((with_reducible apply ac.uR);(case hm|he=>exact rfl))
|(with_reducible first|apply aa.nQ|apply aa.pd|apply aa.pc|apply ac.skip|apply ac.exit|apply ac.ret|apply aH|apply da|apply bL|apply fH|apply eV|apply cY)
|((with_reducible apply uD);(case hj=>exact rfl))
|((with_reducible apply ac.aR);(case hc=>exact rfl))
|((with_reducible apply ac.aY);(case hc=>exact rfl))
|((with_reducible apply aa.aF);(case hp=>exact ak))
|((with_reducible apply aa.bk);(case hp=>exact ak))
|((with_reducible apply aa.aX)<;>intro v)
|((with_reducible apply aa.fS);(case hp=>exact ak))
|((with_reducible apply aa.dK);(case hp=>exact ak))
|((with_reducible apply aa.gA)<;>intro v)
|((with_reducible apply aa.cj);(case hp=>exact ak))
|((with_reducible apply aa.c_);(case hp=>exact ak))
|((with_reducible apply aa.bi)<;>intro v)
|((with_reducible apply aa.iM);(case hp=>exact ak))
|((with_reducible apply aa.iL);(case hp=>exact ak))
|((with_reducible apply aa.fz)<;>intro v)
|(with_reducible first|apply aa.aB|apply aa.dF|apply aa.nil)
|((with_reducible apply aa.gf);(case hW=>exact rfl))
|(with_reducible first|apply ay.nQ|apply ay.pd|apply ay.pc)
|((with_reducible apply ay.aF);(case hp=>exact ak))
|((with_reducible apply ay.bk);(case hp=>exact ak))
|((with_reducible apply ay.aX)<;>intro v)
|((with_reducible apply ay.fS);(case hp=>exact ak))
|((with_reducible apply ay.dK);(case hp=>exact ak))
|((with_reducible apply ay.gA)<;>intro v)
|((with_reducible apply ay.cj);(case hp=>exact ak))
|((with_reducible apply ay.c_);(case hp=>exact ak))
|((with_reducible apply ay.bi)<;>intro v)
|((with_reducible apply ay.iM);(case hp=>exact ak))
|((with_reducible apply ay.iL);(case hp=>exact ak))
|((with_reducible apply ay.fz)<;>intro v)
|((with_reducible apply ay.vN);(case hck=>kernel_rfl))
|((with_reducible apply ay.zl);(case hck=>kernel_rfl))
|(with_reducible first|apply ay.aB|apply ay.dF|apply ay.nil)
|((with_reducible apply ay.gf);(case hfl=>kernel_rfl);(case hW=>exact rfl))
|((with_reducible apply aa.gt);(case hW=>exact rfl);(case hx=>((with_reducible apply af.ei);(case hs=>exact fun _=>rfl);(case ha|ht=>exact rfl);(case hr=>first|(with_reducible exact ec)|(with_reducible exact z)|(with_reducible exact ed)|(with_reducible exact rw3)|(with_reducible exact rw4)|exact rfl);(case hx|hy|hn|hb=>exact rfl);(case hok=>exact h);(case hlen=>exact y);(case hv=>exact List.nil_append _);(case hk=>exact ez);(case hf=>exact leq))))
|((with_reducible apply aa.u);(case hx=>((with_reducible apply af.ei);(case hs=>exact fun _=>rfl);(case ha|ht=>exact rfl);(case hr=>first|(with_reducible exact ec)|(with_reducible exact z)|(with_reducible exact ed)|(with_reducible exact rw3)|(with_reducible exact rw4)|exact rfl);(case hx|hy|hn|hb=>exact rfl);(case hok=>exact h);(case hlen=>exact y);(case hv=>exact List.nil_append _);(case hk=>exact ez);(case hf=>exact leq))))
|((with_reducible apply ay.gt);(case hfl=>kernel_rfl);(case hW=>exact rfl);(case hx=>exact ae))
|((with_reducible apply ay.u);(case hfl=>kernel_rfl);(case hx=>exact ae))
|((with_reducible apply aa.av);(case hW=>exact rfl);(case hx=>exact ae))
|((with_reducible apply aa.u0);(case hx=>exact ae))
|((with_reducible apply aa.u);(case hx=>exact af.r fun _=>rfl))
|((with_reducible apply aa.gt);(case hW=>exact rfl);(case hx=>exact af.r fun _=>rfl))
|fail)
 exact⟨.inr rfl,rfl⟩
def Ia{es:List (List AV)}{r:SV}{fr':Fr}(γ:Glob)(h:mi 13 120 es=some (r,fr')):gR Tryz.prog 19/\∀(κ:Ctx) (w:World) (us:Array Value),ar γ κ [] κ.L w->κ.W=w->us.size=1->(∀(j:Nat) (x:AV) (u:Value),[AV.arr es][j]?=some x->us[j]?=some u->VR (MA κ.M [] κ.L) w x u)->
  Calls Tryz.prog 19 us w fun e w'=>∃v L',e=.returned v/\ar γ κ fr' L' w'/\SR (MA κ.M fr' L') L' w' r v:=by
 have U:gR Tryz.prog 19:=⟨_,Tryz.func19,by kernel_rfl,by kernel_rfl⟩;unfold mi at h;split at h
 rotate_left
 ·cases h
 rename_i I;rw[Bool.and_eq_true,Nat.ble_eq]at I;cases h;refine⟨U,fun κ w us D hκ hs hv=>?_⟩
 cases es with
 |nil=>
  have h0:=hv 0 _ us[0] rfl (by rw[Array.getElem?_eq_getElem (by omega)])
  have z:us=#[us[0]]:=by
   apply Array.ext
   ·simp[hs]
   ·intro i h2 h3;have:i=0:=by simp at h3;omega
    subst this;rfl
  rw[z];generalize us[0]=u0 at h0
  cases h0 with
  |bS A c=>
   cases A with
   |none=>exact(H9 c w).mono fun e w' ⟨he,hw⟩=>by
            subst hw;obtain⟨G,_⟩:=D.push (Below.refl _ _) (.row false false 13 []) (.slice none 0 0) (fun b hb=>by cases hb) fun hT=>⟨0,_,[],cb,.inl ⟨rfl,rfl,none,rfl⟩,by rw[List.length_nil];omega,fun k cs J=>by simp at J,fun k j cs x J _=>by simp at J⟩;exact⟨_,_,he,G,.ls _ _ cb rfl⟩
   |some p=>
    obtain⟨n,V⟩:=H7;refine((sound (GR γ) n).1 _ _ _ _ _ V).2 κ w #[.slice (some p) 0 c] D hκ rfl fun j x u y z=>?_
    match j with
    |0=>
     simp at y z;subst y z;exact .nn [] p c (.bS _ _)
    |j+1=>simp at y
  |arr b o c sz es us Z=>exact absurd rfl Z
 |cons e es=>
  obtain⟨n,V⟩:=Ib I.1 I.2;refine((sound (GR γ) n).1 _ _ _ _ _ V).2 κ w us D hκ hs fun j x u y z=>?_
  match j with
  |0=>
   have hx:x=.t (.arr (e::es)):=by simpa using y.symm
   subst hx;exact .t _ _ (hv 0 _ u rfl z)
  |j+1=>simp at y
def H4{M:Nat->Prop}{xs:List Int}{w:World}{v:Value}(hv:VR M w (aD xs) v)(hl:xs.length<=1000000):Calls Tryz.prog 94 #[v] w fun e w'=>∃u t,e=.returned u/\Below w.heap.size w w'/\OV w' (aD xs) u t/\∀b,Bk t b->w.heap.size<=b:=by
 have D:ar CQ ⟨fun _=>True,fun _=>False,fun _=>False,w,fun _=>none⟩ [] (fun _=>none) w:={
  glob:=trivial
  gn:=Nat.zero_le _
  gx:=fun b h=>h.elim
  fresh:=fun _ _=>trivial
  os:=rfl
  tape:=rfl
  output:=rfl
  size:=Nat.le_refl _
  kept:=fun _ _ _=>rfl
  lim:=fun i v h=>by cases h
  new:=fun i v b lb h=>by cases h
  dis:=fun i j v v' b h=>by cases h
  hand:=fun j v h=>by cases h
  blk:=fun i lb h=>by cases h}
 have G:mi 1 8 (aL xs)=some (.ls 0,[.row false false 1 (aL xs)]):=by
  unfold mi;have h1:QY 1 (aL xs)=true:=by simp[QY,aL,rv]
  have h2:Nat.ble ((aL xs).length*8) 140737488351232=true:=by rw[aW,Nat.ble_eq];omega
  rw[h1,h2];rfl
 refine((BN CQ G).2 _ w #[v] D rfl rfl fun j x u J hu=>?_).mono fun e w' ⟨v',L',he,z,hS⟩=>?_
 ·match j with
  |0=>
   simp at J hu;subst J hu;exact VR.on (Nat.le_refl _) (fun b _ _=>⟨⟨trivial,fun⟨i,_,_,h,_⟩=>by cases h⟩,rfl⟩) hv
  |j+1=>simp at J
 ·obtain⟨hL,_⟩:=kH hS;obtain⟨T,us,hR,y,_,ab,I⟩:=fR z rfl hL;rw[aW]at hR y
  obtain⟨t,V,Z⟩:=Kf (w0:=w) hR y (fun k n U=>by
   obtain⟨u,e1,e2⟩:=I k 0 [.int .i64 n] (.int .i64 n) (by simp[aL,U]) rfl;cases e2
   simpa using e1) fun b hb=>by
    rcases(z.new 0 _ b _ hL (.one hb) rfl).2.2.1 with h|h
    ·exact h
    ·exact h.elim
  exact⟨v',t,he,⟨z.os,z.tape,z.output,z.size,fun k U=>z.kept k U id⟩,V,Z⟩
set_option maxHeartbeats 1000000
abbrev aO:=List (List (List Int))
def aU(l:aO):List (List AV):=l.map fun x=>[jp x]
def p8(l:aO):AV:=.arr (aU l)
def mG{l:aO}{k:Nat}{x:List (List Int)}(h:l[k]?=some x):(aU l)[k]?=some [.arr (bA x)]:=by simp[aU,jp,h]
def mH(l:aO):(aU l).length=l.length:=by simp[aU]
def GM{M:Nat->Prop}{w w':World}{es:List (List AV)}{I:Value}(hv:VR M w (.arr es) I)(y:Below w.heap.size w w'){k:Nat}{x:AV}(v:es[k]?=some [x]):∃b0 G c1 u,I=.slice (some ⟨b0,G,none⟩) es.length c1/\w'.cell? ⟨b0,G+k,none⟩=some u/\VR (fun _=>True) w' x u:=by
 cases hv with
 |bS=>simp at v
 |arr b o c' sz _ us hne hlen hcap hbl hM hsz hcl hrr=>
  have D:1=sz:=hsz k _ v;subst D;have U:=aC v;have h1:=hcl k 0 U (by omega);refine⟨b,o,c',us k 0,rfl,?_,VR.on y.size (fun J z _=>⟨trivial,y.block J z⟩) (hrr k 0 _ _ v rfl)⟩;rw[y.cell hbl,<- h1];simp
def AW(l:aO)(w0:World)(z:Value)(k:Nat)(a:Act)(w:World):Prop:=Below w0.heap.size w0 w/\k<=l.length/\∃v T y u,Sl 33 [(3,v),(9,z),(10,.int .i64 l.length),(11,.int .i64 k)] a/\iu w0 w ((l.take k).map jp) v T y u
def AU(c:List (List Int))(z:World)(u v I:Value)(L k j:Nat)(a:Act)(w:World):Prop:=Below z.heap.size z w/\j<=c.length/\∃y T G D,Sl 33 [(6,y),(15,u),(16,.int .i64 c.length),(17,.int .i64 j),(3,v),(9,I),(10,.int .i64 L),(11,.int .i64 k)] a/\iu z w ((c.take j).map aD) y T G D
def H6{M:Nat->Prop}{l:aO}{w0:World}{v0:Value}(hv:VR M w0 (p8 l) v0)(hl:l.length<=1000000)(hx:∀x∈l,x.length<=1000000/\∀y∈x,y.length<=1000000):Calls Tryz.prog 46 #[v0] w0 fun e w'=>∃v t,e=.returned v/\Below w0.heap.size w0 w'/\OV w' (p8 l) v t/\∀b,Bk t b->w0.heap.size<=b:=by
 have aX:Tryz.prog.underlying 36=some (.slice 55):=by kernel_rfl
 have aY:Tryz.prog.underlying 55=some (.slice 22):=by kernel_rfl
 obtain⟨q0,c0,a1⟩:=rW hv;rw[mH]at a1;refine JP Tryz.func46 rfl ?_
 have D:=Sl.start (us:=#[v0]) (n:=33) (m:=32) (kp:=[(0,v0)]) rfl (fun p hp=>by
  obtain rfl:p=(0,v0):=by simpa using hp
  rfl)
 show Code.wpIn _ _ _ _ _ {tmps:=#[v0]++Array.replicate 32 undef,defers:=[]} _
 generalize({tmps:=#[v0]++Array.replicate 32 undef,defers:=[]}:Act)=a at D⊢;refine wpIn_seq ?_;refine wpIn_region_lit ?_;refine cD D rfl rfl (by decide) (v:=.slice none 0 0) (n_ rfl rfl) fun a D=>?_;show Code.wpIn _ _ _ _ _ _ _
 refine wpIn_seq ?_;refine wpIn_region_lit ?_;refine cD D rfl rfl (by decide) (v:=.slice none 0 0) (n_ rfl rfl) fun a D=>?_;show Code.wpIn _ _ _ _ _ _ _
 refine wpIn_seq ?_;refine wpIn_seq ?_;refine wpIn_region_lit ?_;refine cD D rfl rfl (by decide) (v:=v0) (lw rfl (D.at (by simp[bQ]))) fun a D=>?_;refine cD D rfl rfl (by decide) (v:=.int .i64 l.length) (Cq rfl aX (by rw[D.at (v:=v0) (by simp[bQ]),a1])) fun a D=>?_;refine cD D rfl rfl (by decide) (v:=.int .i64 0) (lw rfl rfl) fun a D=>?_;show Code.wpIn _ _ _ _ _ _ _
 refine wpIn_block ?_;have I:∃k,AW l w0 v0 k a w0:=⟨0,Below.refl _ _,Nat.zero_le _,.slice none 0 0,0,[],[],D.sub (by simp[bQ]),iu.nil _ _ none⟩;clear D;refine ue (fun m a w=>∃k,m=l.length - k/\AW l w0 v0 k a w) _ ⟨_,rfl,I.choose_spec⟩ ?_;clear I;intro m a w ⟨k,hm,hB,bo,v,T,us,ts,D,hN⟩;refine wpIn_seq ?_;refine wpIn_region_lit ?_;obtain⟨b,hb⟩:∃b,decide ((k:Int)<(l.length:Int))=b:=⟨_,rfl⟩;refine cD D rfl rfl (by decide) (v:=.bool b) (Cs rfl (D.at (by simp)) (D.at (by simp)) hb) fun a D=>?_;show Code.wpIn _ _ _ _ _ _ _
 refine wpIn_seq ?_
 cases b with
 |false=>
  refine wpIn_cond_split (t:=false) (D.at (v:=.bool false) (by simp[bQ])) (fun h=>by cases h) (fun _=>?_);refine wpIn_exit ?_;have hk:k=l.length:=by have:=of_decide_eq_false hb;omega
  subst hk;show Code.wpIn _ _ _ _ _ _ _
  refine wpIn_seq ?_;refine wpIn_region_lit ?_;refine cD D rfl rfl (by decide) (v:=v) (lw rfl (D.at (by simp[bQ]))) fun a D=>?_;refine cD D rfl rfl (by decide) (v:=v) (n_ rfl (D.at (by simp[bQ]))) fun a D=>?_;show Code.wpIn _ _ _ _ _ _ _
  refine wpIn_ret ?_;obtain⟨t,U,aM⟩:=hN.ov;rw[List.take_length,List.map_map]at U;refine⟨.inr rfl,D.df,v,?_,v,t,rfl,hB,U,aM⟩;have e2:a.tmps.getD 2 undef=v:=D.at (t:=2) (v:=v) (by simp[bQ]);rw[Array.getD_eq_getD_getElem?]at e2;simp[results,Tryz.f46,e2,pure,Sem.run]
 |true=>
  refine wpIn_cond_split (t:=true) (D.at (v:=.bool true) (by simp[bQ])) (fun _=>?_) (fun h=>by cases h);refine wpIn_skip ?_;show Code.wpIn _ _ _ _ _ _ _
  refine wpIn_seq ?_;refine wpIn_block ?_;refine wpIn_seq ?_;refine wpIn_region_lit ?_;have hk:k <l.length:=by have:=of_decide_eq_true hb;omega
  obtain⟨c,hc⟩:=am hk;obtain⟨b0,o0,c1,u,ao,aG,a6⟩:=GM (x:=jp c) hv hB (mG hc);rw[mH]at ao
  refine cD D rfl rfl (by decide) (v:=.pointer (some ⟨b0,o0+k,none⟩)) (Cp rfl (D.at (v:=v0) (by simp[bQ])) (D.at (v:=.int .i64 k) (by simp[bQ])) (by
   rw[ao];have:=rJ (P:=Tryz.prog) (w:=w) (t:=36) (e:=55) (sz:=1) (b:=b0) (o:=o0) (n:=l.length) (c:=c1) (k:=.i64) (m:=(k:Int)) (by kernel_rfl) (by omega) (by simpa using hk);simpa using this)) fun a D=>?_
  refine cD D rfl rfl (by decide) (v:=u) (Cr rfl (D.at (v:=.pointer (some ⟨b0,o0+k,none⟩)) (by simp[bQ])) (p6 (n:=1) (by kernel_rfl) aG)) fun a D=>?_;refine cD D rfl rfl (by decide) (v:=u) (n_ rfl (D.at (by simp[bQ]))) fun a D=>?_;obtain⟨bl,be⟩:=hx c (List.mem_of_getElem? hc);have aT:(bA c).length=c.length:=by simp[bA]
  obtain⟨q1,c2,hu⟩:=rW a6;rw[aT]at hu;show Code.wpIn _ _ _ _ _ _ _
  refine wpIn_seq ?_;refine wpIn_region_lit ?_;refine cD D rfl rfl (by decide) (v:=.slice none 0 0) (n_ rfl rfl) fun a D=>?_;show Code.wpIn _ _ _ _ _ _ _
  refine wpIn_seq ?_;refine wpIn_seq ?_;refine wpIn_region_lit ?_;refine cD D rfl rfl (by decide) (v:=u) (lw rfl (D.at (by simp[bQ]))) fun a D=>?_;refine cD D rfl rfl (by decide) (v:=.int .i64 c.length) (Cq rfl aY (by rw[D.at (v:=u) (by simp[bQ]),hu])) fun a D=>?_;refine cD D rfl rfl (by decide) (v:=.int .i64 0) (lw rfl rfl) fun a D=>?_;show Code.wpIn _ _ _ _ _ _ _
  refine wpIn_block ?_;have I:∃j,AU c w u v v0 l.length k j a w:=⟨0,Below.refl _ _,Nat.zero_le _,.slice none 0 0,0,[],[],D.sub (by simp[bQ]),iu.nil _ _ none⟩;clear D;refine ue (fun m a w'=>∃j,m=c.length - j/\AU c w u v v0 l.length k j a w') _ ⟨_,rfl,I.choose_spec⟩ ?_;clear I;intro m2 a Z ⟨j,bt,V,bm,y,T5,bk,bu,D,al⟩;refine wpIn_seq ?_;refine wpIn_region_lit ?_;obtain⟨b2,aB⟩:∃b,decide ((j:Int)<(c.length:Int))=b:=⟨_,rfl⟩;refine cD D rfl rfl (by decide) (v:=.bool b2) (Cs rfl (D.at (by simp)) (D.at (by simp)) aB) fun a D=>?_;show Code.wpIn _ _ _ _ _ _ _
  refine wpIn_seq ?_
  cases b2 with
  |false=>
   refine wpIn_cond_split (t:=false) (D.at (v:=.bool false) (by simp[bQ])) (fun h=>by cases h) (fun _=>?_);refine wpIn_exit ?_;have hj:j=c.length:=by have:=of_decide_eq_false aB;omega
   subst hj;obtain⟨t5,U,aM⟩:=al.ov;rw[List.take_length,List.map_map]at U;replace U:OV Z (jp c) y t5:=U;show Code.wpIn _ _ _ _ _ _ _
   refine wpIn_region_lit ?_;refine cD D rfl rfl (by decide) (v:=v) (lw rfl (D.at (by simp[bQ]))) fun a D=>?_;refine cD D rfl rfl (by decide) (v:=y) (lw rfl (D.at (by simp[bQ]))) fun a D=>?_;have G:((l.take k).map jp).length=k:=by rw[List.length_map,List.length_take];omega
   refine cD D rfl rfl (by decide) (v:=.slice (some ⟨Z.heap.size,0,none⟩) 1 1) (w':=Z.alloc (.cells #[y] 55)) (Ct rfl (by kernel_rfl:eQ Tryz.prog 36=some (55,1,24)) (D.at (by simp[bQ])) U.plain) fun a D=>?_;have h4:Below Z.heap.size Z (Z.alloc (.cells #[y] 55)):=(Below.refl _ _).alloc (Nat.le_refl _) _;generalize ag:Z.alloc (.cells #[y] 55)=w2 at h4⊢
   have J:mQ w2 (some ⟨Z.heap.size,0,none⟩) [y]:=fun _=>⟨Z.heap.size,0,rfl,by rw[<- ag];exact(Array.getElem?_eq_some_iff.1 (heap_alloc_new _ _)).1,fun j y' hj=>by
    obtain rfl:j=0:=by have:=aC hj;simpa using this
    cases hj;rw[<- ag];have:=heap_alloc_new Z (.cells #[y] 55);unfold World.cell?;rw[this];rfl⟩
   have av:cm w2 T 1 v k us:=by
    have:=(hN.row.below V).below (h4.mono (Nat.le_refl _));rw[G]at this;exact this
   obtain⟨v',w3,T',aA,ax,ad,aF⟩:=tK (P:=Tryz.prog) (m:=1) (c:=1) (by kernel_rfl:eQ Tryz.prog 36=some (55,1,24)) av J rfl (fun u hu=>by rw[List.mem_singleton.1 hu];exact U.plain) (by omega) (by omega);refine cD D rfl rfl (by decide) (v:=v') (w':=w3) (Cm rfl (D.at (v:=v) (by simp[bQ])) (D.at (v:=.slice (some ⟨Z.heap.size,0,none⟩) 1 1) (by simp[bQ])) aA) fun a D=>?_;refine cD D rfl rfl (by decide) (v:=v') (n_ rfl (D.at (by simp[bQ]))) fun a D=>?_;show Code.wpIn _ _ _ _ _ _ _
   refine wpIn_region_lit ?_;refine cD D rfl rfl (by decide) (v:=.int .i64 ((k+1:Nat):Int)) (Ck (n:=1) rfl (D.at (v:=.int .i64 k) (by simp[bQ])) rfl (by omega) (by omega)) fun a D=>?_;refine cD D rfl rfl (by decide) (v:=.int .i64 ((k+1:Nat):Int)) (lw rfl (D.at (by simp[bQ]))) fun a D=>?_;have ab:=hN.fZ (x:=jp c) (by have:=hB.size;omega) V U aM h4 (by rw[G];exact ax) (by rw[G];omega) ad aF;have aN:(l.take k).map jp++[jp c]=(l.take (k+1)).map jp:=by rw[List.take_add_one,hc,List.map_append];rfl
   rw[aN]at ab;refine⟨l.length - (k+1),by omega,k+1,rfl,?_,by omega,v',T',_,_,D.sub (by simp[bQ]),ab⟩;have hw:=hB.size;have bf:=V.size;have bi:=h4.size;exact((hB.trans (V.mono hw)).trans (h4.mono (by omega))).grown ad (by omega) fun b hb=>hN.qe b hb
  |true=>
   refine wpIn_cond_split (t:=true) (D.at (v:=.bool true) (by simp[bQ])) (fun _=>?_) (fun h=>by cases h);refine wpIn_skip ?_;show Code.wpIn _ _ _ _ _ _ _
   refine wpIn_seq ?_;refine wpIn_block ?_;refine wpIn_seq ?_;refine wpIn_region_lit ?_;have hj:j <c.length:=by have:=of_decide_eq_true aB;omega
   obtain⟨z,hz⟩:=am hj;obtain⟨au,aR,bd,u',ap,an,bb⟩:=GM (x:=aD z) a6 V (lf hz);rw[aT]at ap
   refine cD D rfl rfl (by decide) (v:=.pointer (some ⟨au,aR+j,none⟩)) (Cp rfl (D.at (v:=u) (by simp[bQ])) (D.at (v:=.int .i64 j) (by simp[bQ])) (by
    rw[ap];have:=rJ (P:=Tryz.prog) (w:=Z) (t:=55) (e:=22) (sz:=1) (b:=au) (o:=aR) (n:=c.length) (c:=bd) (k:=.i64) (m:=(j:Int)) (by kernel_rfl) (by omega) (by simpa using hj);simpa using this)) fun a D=>?_
   refine cD D rfl rfl (by decide) (v:=u') (Cr rfl (D.at (v:=.pointer (some ⟨au,aR+j,none⟩)) (by simp[bQ])) (p6 (n:=1) (by kernel_rfl) an)) fun a D=>?_;refine cD D rfl rfl (by decide) (v:=u') (n_ rfl (D.at (by simp[bQ]))) fun a D=>?_;show Code.wpIn _ _ _ _ _ _ _
   refine wpIn_region_lit ?_;refine cD D rfl rfl (by decide) (v:=y) (lw rfl (D.at (by simp[bQ]))) fun a D=>?_;refine cD D rfl rfl (by decide) (v:=u') (lw rfl (D.at (by simp[bQ]))) fun a D=>?_;have bj:z.length<=1000000:=be z (List.mem_of_getElem? hz);refine Qw D rfl rfl (by decide) rfl (D.at (v:=u') (by simp[bQ])) (R:=fun z' w'=>∃t,Below Z.heap.size Z w'/\OV w' (aD z) z' t/\∀b,Bk t b->Z.heap.size<=b) ⟨_,Tryz.func94,by kernel_rfl,by kernel_rfl⟩ ((H4 bb bj).mono fun e w' ⟨z',t,h1,h2,h3,h4⟩=>⟨z',h1,t,h2,h3,h4⟩) fun a z' w1 ⟨t,h1,h2,h3⟩ D=>?_;have G:((c.take j).map aD).length=j:=by rw[List.length_map,List.length_take];omega
   refine cD D rfl rfl (by decide) (v:=.slice (some ⟨w1.heap.size,0,none⟩) 1 1) (w':=w1.alloc (.cells #[z'] 22)) (Ct rfl (by kernel_rfl:eQ Tryz.prog 55=some (22,1,24)) (D.at (by simp[bQ])) h2.plain) fun a D=>?_;have h4:Below w1.heap.size w1 (w1.alloc (.cells #[z'] 22)):=(Below.refl _ _).alloc (Nat.le_refl _) _;generalize ag:w1.alloc (.cells #[z'] 22)=w2 at h4⊢
   have J:mQ w2 (some ⟨w1.heap.size,0,none⟩) [z']:=fun _=>⟨w1.heap.size,0,rfl,by rw[<- ag];exact(Array.getElem?_eq_some_iff.1 (heap_alloc_new _ _)).1,fun j y' hj=>by
    obtain rfl:j=0:=by have:=aC hj;simpa using this
    cases hj;rw[<- ag];have:=heap_alloc_new w1 (.cells #[z'] 22);unfold World.cell?;rw[this];rfl⟩
   have av:cm w2 T5 1 y j bk:=by
    have:=(al.row.below h1).below (h4.mono (Nat.le_refl _));rw[G]at this;exact this
   obtain⟨v',w3,T',aA,ax,ad,aF⟩:=tK (P:=Tryz.prog) (m:=1) (c:=1) (by kernel_rfl:eQ Tryz.prog 55=some (22,1,24)) av J rfl (fun u hu=>by rw[List.mem_singleton.1 hu];exact h2.plain) (by omega) (by omega);refine cD D rfl rfl (by decide) (v:=v') (w':=w3) (Cm rfl (D.at (v:=y) (by simp[bQ])) (D.at (v:=.slice (some ⟨w1.heap.size,0,none⟩) 1 1) (by simp[bQ])) aA) fun a D=>?_;refine cD D rfl rfl (by decide) (v:=v') (n_ rfl (D.at (by simp[bQ]))) fun a D=>?_;show Code.wpIn _ _ _ _ _ _ _
   refine wpIn_region_lit ?_;refine cD D rfl rfl (by decide) (v:=.int .i64 ((j+1:Nat):Int)) (Ck (n:=1) rfl (D.at (v:=.int .i64 j) (by simp[bQ])) rfl (by omega) (by omega)) fun a D=>?_;refine cD D rfl rfl (by decide) (v:=.int .i64 ((j+1:Nat):Int)) (lw rfl (D.at (by simp[bQ]))) fun a D=>?_;have ab:=al.fZ (x:=aD z) (by have:=V.size;omega) h1 h2 h3 h4 (by rw[G];exact ax) (by rw[G];omega) ad aF;have aN:(c.take j).map aD++[aD z]=(c.take (j+1)).map aD:=by rw[List.take_add_one,hz,List.map_append];rfl
   rw[aN]at ab;refine⟨c.length - (j+1),by omega,j+1,rfl,?_,by omega,v',T',_,_,D.sub (by simp[bQ]),ab⟩;have hw:=V.size;have bf:=h1.size;have bi:=h4.size;exact((V.trans (h1.mono hw)).trans (h4.mono (by omega))).grown ad (by omega) fun b hb=>al.qe b hb
theorem C5:∀{xs:List (List AV)},xs.all vq=true->∃c:List Int,xs=aL c
 |[],_=>⟨[],rfl⟩
 |x::xs,h=>by
  rw[List.all_cons,Bool.and_eq_true]at h;obtain⟨c,rfl⟩:=C5 h.2;have h1:=h.1;unfold vq at h1;split at h1
  ·rename_i n;exact⟨n::c,rfl⟩
  ·cases h1
theorem C6:∀{es:List (List AV)},es.all sX=true->∃l:List (List Int),es=bA l/\∀c∈l,c.length<=1000000
 |[],_=>⟨[],rfl,fun c h=>by cases h⟩
 |e::es,h=>by
  rw[List.all_cons,Bool.and_eq_true]at h;obtain⟨l,rfl,v⟩:=C6 h.2;have h1:=h.1;unfold sX at h1;split at h1
  ·rename_i xs;rw[Bool.and_eq_true,Nat.ble_eq]at h1;obtain⟨c,rfl⟩:=C5 h1.1;have u:(aL c).length=c.length:=aW c;rw[u]at h1;refine⟨c::l,rfl,fun d hd=>?_⟩;rcases List.mem_cons.1 hd with rfl|hd
   ·exact h1.2
   ·exact v d hd
  ·cases h1
def H3(l:List (List Int)):(bA l).length=l.length:=by simp[bA]
theorem C7:∀{es:List (List AV)},es.all vt=true->∃l:aO,es=aU l/\∀x∈l,x.length<=1000000/\∀c∈x,c.length<=1000000
 |[],_=>⟨[],rfl,fun c h=>by cases h⟩
 |e::es,h=>by
  rw[List.all_cons,Bool.and_eq_true]at h;obtain⟨l,rfl,v⟩:=C7 h.2;have h1:=h.1;unfold vt at h1;split at h1
  ·rename_i xs;rw[Bool.and_eq_true,Nat.ble_eq]at h1;obtain⟨c,rfl,u⟩:=C6 h1.1;rw[H3]at h1;refine⟨c::l,rfl,fun d hd=>?_⟩;rcases List.mem_cons.1 hd with rfl|hd
   ·exact⟨h1.2,u⟩
   ·exact v d hd
  ·cases h1
def Mi{us:Array Value}(hs:us.size=1):us=#[us[0]]:=by
 apply Array.ext
 ·simp[hs]
 ·intro i h2 h3;have:i=0:=by simp at h3;omega
  subst this;rfl
def H5{es:List (List AV)}{r:SV}{fr':Fr}(γ:Glob)(h:sx es=some (r,fr')):gR Tryz.prog 46/\∀(κ:Ctx) (w:World) (us:Array Value),ar γ κ [] κ.L w->κ.W=w->us.size=1->(∀(j:Nat) (x:AV) (u:Value),[AV.arr es][j]?=some x->us[j]?=some u->VR (MA κ.M [] κ.L) w x u)->
  Calls Tryz.prog 46 us w fun e w'=>∃v L',e=.returned v/\ar γ κ fr' L' w'/\SR (MA κ.M fr' L') L' w' r v:=by
 refine⟨⟨_,Tryz.func46,by kernel_rfl,by kernel_rfl⟩,fun κ w us V hκ hs hv=>?_⟩;unfold sx at h;split at h
 rotate_left
 ·cases h
 rename_i J;cases h;rw[Bool.and_eq_true,Nat.ble_eq]at J;obtain⟨l,rfl,hl⟩:=C7 J.1;have U:=hv 0 _ us[0] rfl (by rw[Array.getElem?_eq_getElem (by omega)]);rw[Mi hs];generalize us[0]=u0 at U;have D:l.length<=1000000:=by have:=J.2;rw[mH]at this;omega
 refine(H6 U D hl).mono fun e w' ⟨v,t,he,hb,y,G⟩=>?_;obtain⟨I,Z⟩:=V.ED hb (.own false (.arr (aU l))) t (fun b z=>⟨G b z,(y.lt b z).1⟩) fun Z=>⟨v,t,cb,y⟩;obtain⟨ts,rfl,h1⟩:=OV.head y;exact⟨v,_,he,I,.lo 0 [] _ v cb (by unfold Rb;rw[tS];exact h1) y.plain⟩
set_option maxHeartbeats 8000000
end Go.Proofs.YtcgdbhlnkificaaGreatDoor
