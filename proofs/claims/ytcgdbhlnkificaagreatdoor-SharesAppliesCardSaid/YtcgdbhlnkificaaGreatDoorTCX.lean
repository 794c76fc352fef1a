/- Law 39: copies of lists: of numbers,of events,of lists of. No condition. -/
import Derived.Test.YtcgdbhlnkificaaGreatDoorTV
import Derived.Test.YtcgdbhlnkificaaGreatDoorTX
import Derived.Test.YtcgdbhlnkificaaGreatDoorTBB
import Derived.Test.YtcgdbhlnkificaaGreatDoorWQ
set_option linter.all false
namespace Go.Proofs.YtcgdbhlnkificaaGreatDoor
open Go.RowKit
set_option maxRecDepth 100000
set_option maxHeartbeats 8000000
def CQ:Glob where
 G:=fun _=>True
 n:=0
 stays:=fun _ _ _ _=>trivial
def H_(c:Nat)(w:World):Calls Tryz.prog 94 #[.slice none 0 c] w (fun e w'=>e=.returned (.slice none 0 0)/\w'=w):=by
 go_enter Tryz.func94,Tryz.ntmps94
 have u:(binOp BinOp.eql 22 (Value.slice none 0 c) (Value.slice none 0 0)).run Tryz.prog w=.ok (.bool true) w:=by kernel_rfl
 go_wp2
 go_ret
 exact⟨rfl,rfl⟩
noncomputable def ss:Cfg:={P:=Tryz.prog,ok:=fun f=>Nat.beq f 94,ext:=fun _ _=>none,lv:=fun _ _=>none,own:=fun _ _=>[],eff:=fun _ _=>[],hand:=fun _ _=>false}
def GS(γ:Glob):Wf ss γ where
 mixed:=(by kernel_rfl:(Tryz.prog).follows .mixedOrders=true)
 sS:=fun f u=>by
  have u:Nat.beq f 94=true:=u;have u:f=94:=by simpa using u
  subst u;show qk ss _=true
  kernel_rfl
 ext:=fun _ _ _ _ h=>by cases h
def H8:Cl ss 94 [.nn []] [] (.ls 0) [.row false false 1 []]:=⟨4,by kernel_rfl⟩
def Ic{e:List AV}{es:List (List AV)}(h:fu 1 (e::es)=true)(hl:(e::es).length*8<=140737488351232):Cl ss 94 [.t (.arr (e::es))] [] (.ls 0) [.row false false 1 (e::es)]:=by
 have y:cn (([]:List (List AV)).length+(e::es).length) 8=true:=by
  simp only[List.length_cons]at hl;simp[cn];omega
 have z:eQ ss.P 22=some (3,1,8):=by kernel_rfl
 refine Cl.ap rfl Tryz.func94 rfl rfl rfl ?_
 repeat'(first
|(with_reducible first|apply ac.seq|apply ac.block)
|((with_reducible apply ac.text);(try case hm=>exact rfl))
|((with_reducible apply ac.drawn);(case hm=>exact rfl))
|((with_reducible apply ac.sD);(case hm=>exact rfl))
|((with_reducible apply ac.uR);(case hm|he=>exact rfl))
|(with_reducible first|apply aa.nQ|apply aa.pd|apply aa.pc|apply ac.skip|apply ac.exit|apply ac.ret|apply aH|apply da|apply bL|apply fH|apply eV|apply cY)
|((with_reducible apply uD);(case hj=>exact rfl))
|((with_reducible apply ac.aR);(case hc=>exact rfl))
|((with_reducible apply ac.aY);(case hc=>exact rfl))
|((with_reducible apply aa.aF);(case hp=>exact ak))
|((with_reducible apply aa.bk);(case hp=>exact ak))
|((with_reducible apply aa.aX)<;>intro v)
|((with_reducible apply aa.fS);(case hp=>exact ak))
|((with_reducible apply aa.dK);(case hp=>exact ak))
|((with_reducible apply aa.gA)<;>intro v)
|((with_reducible apply aa.cj);(case hp=>exact ak))
|((with_reducible apply aa.c_);(case hp=>exact ak))
|((with_reducible apply aa.bi)<;>intro v)
|((with_reducible apply aa.iM);(case hp=>exact ak))
|((with_reducible apply aa.iL);(case hp=>exact ak))
|((with_reducible apply aa.fz)<;>intro v)
|(with_reducible first|apply aa.aB|apply aa.dF|apply aa.nil)
|((with_reducible apply aa.gf);(case hW=>exact rfl))
|(with_reducible first|apply ay.nQ|apply ay.pd|apply ay.pc)
|((with_reducible apply ay.aF);(case hp=>exact ak))
|((with_reducible apply ay.bk);(case hp=>exact ak))
|((with_reducible apply ay.aX)<;>intro v)
|((with_reducible apply ay.fS);(case hp=>exact ak))
|((with_reducible apply ay.dK);(case hp=>exact ak))
|((with_reducible apply ay.gA)<;>intro v)
|((with_reducible apply ay.cj);(case hp=>exact ak))
|((with_reducible apply ay.c_);(case hp=>exact ak))
|((with_reducible apply ay.bi)<;>intro v)
|((with_reducible apply ay.iM);(case hp=>exact ak))
|((with_reducible apply ay.iL);(case hp=>exact ak))
|((with_reducible apply ay.fz)<;>intro v)
|((with_reducible apply ay.vN);(case hck=>kernel_rfl))
|((with_reducible apply ay.zl);(case hck=>kernel_rfl))
|(with_reducible first|apply ay.aB|apply ay.dF|apply ay.nil)
|((with_reducible apply ay.gf);(case hfl=>kernel_rfl);(case hW=>exact rfl))
|((with_reducible apply aa.gt);(case hW=>exact rfl);(case hx=>((with_reducible apply af.ei);(case hs=>exact fun _=>rfl);(case ha|ht=>exact rfl);(case hr=>first|(with_reducible exact ec)|(with_reducible exact z)|(with_reducible exact ed)|(with_reducible exact rw3)|(with_reducible exact rw4)|exact rfl);(case hx|hy|hn|hb=>exact rfl);(case hok=>exact h);(case hlen=>exact y);(case hv=>exact List.nil_append _);(case hk=>exact ez);(case hf=>exact leq))))
|((with_reducible apply aa.u);(case hx=>((with_reducible apply af.ei);(case hs=>exact fun _=>rfl);(case ha|ht=>exact rfl);(case hr=>first|(with_reducible exact ec)|(with_reducible exact z)|(with_reducible exact ed)|(with_reducible exact rw3)|(with_reducible exact rw4)|exact rfl);(case hx|hy|hn|hb=>exact rfl);(case hok=>exact h);(case hlen=>exact y);(case hv=>exact List.nil_append _);(case hk=>exact ez);(case hf=>exact leq))))
|((with_reducible apply ay.gt);(case hfl=>kernel_rfl);(case hW=>exact rfl);(case hx=>exact ae))
|((with_reducible apply ay.u);(case hfl=>kernel_rfl);(case hx=>exact ae))
|((with_reducible apply aa.av);(case hW=>exact rfl);(case hx=>exact ae))
|((with_reducible apply aa.u0);(case hx=>exact ae))
|((with_reducible apply aa.u);(case hx=>exact af.r fun _=>rfl))
|((with_reducible apply aa.gt);(case hW=>exact rfl);(case hx=>exact af.r fun _=>rfl))
|fail)
 exact⟨.inr rfl,rfl⟩
def BN{es:List (List AV)}{r:SV}{fr':Fr}(γ:Glob)(h:mi 1 8 es=some (r,fr')):gR Tryz.prog 94/\∀(κ:Ctx) (w:World) (us:Array Value),ar γ κ [] κ.L w->κ.W=w->us.size=1->(∀(j:Nat) (x:AV) (u:Value),[AV.arr es][j]?=some x->us[j]?=some u->VR (MA κ.M [] κ.L) w x u)->
  Calls Tryz.prog 94 us w fun e w'=>∃v L',e=.returned v/\ar γ κ fr' L' w'/\SR (MA κ.M fr' L') L' w' r v:=by
 have U:gR Tryz.prog 94:=⟨_,Tryz.func94,by kernel_rfl,by kernel_rfl⟩;unfold mi at h;split at h
 rotate_left
 ·cases h
 rename_i I;rw[Bool.and_eq_true,Nat.ble_eq]at I;cases h;refine⟨U,fun κ w us D hκ hs hv=>?_⟩
 cases es with
 |nil=>
  have h0:=hv 0 _ us[0] rfl (by rw[Array.getElem?_eq_getElem (by omega)])
  have z:us=#[us[0]]:=by
   apply Array.ext
   ·simp[hs]
   ·intro i h2 h3;have:i=0:=by simp at h3;omega
    subst this;rfl
  rw[z];generalize us[0]=u0 at h0
  cases h0 with
  |bS A c=>
   cases A with
   |none=>exact(H_ c w).mono fun e w' ⟨he,hw⟩=>by
            subst hw;obtain⟨G,_⟩:=D.push (Below.refl _ _) (.row false false 1 []) (.slice none 0 0) (fun b hb=>by cases hb) fun hT=>⟨0,_,[],cb,.inl ⟨rfl,rfl,none,rfl⟩,by rw[List.length_nil];omega,fun k cs J=>by simp at J,fun k j cs x J _=>by simp at J⟩;exact⟨_,_,he,G,.ls _ _ cb rfl⟩
   |some p=>
    obtain⟨n,V⟩:=H8;refine((sound (GS γ) n).1 _ _ _ _ _ V).2 κ w #[.slice (some p) 0 c] D hκ rfl fun j x u y z=>?_
    match j with
    |0=>
     simp at y z;subst y z;exact .nn [] p c (.bS _ _)
    |j+1=>simp at y
  |arr b o c sz es us Z=>exact absurd rfl Z
 |cons e es=>
  obtain⟨n,V⟩:=Ic I.1 I.2;refine((sound (GS γ) n).1 _ _ _ _ _ V).2 κ w us D hκ hs fun j x u y z=>?_
  match j with
  |0=>
   have hx:x=.t (.arr (e::es)):=by simpa using y.symm
   subst hx;exact .t _ _ (hv 0 _ u rfl z)
  |j+1=>simp at y
def H9(c:Nat)(w:World):Calls Tryz.prog 19 #[.slice none 0 c] w (fun e w'=>e=.returned (.slice none 0 0)/\w'=w):=by
 go_enter Tryz.func19,Tryz.ntmps19
 have u:(binOp BinOp.eql 57 (Value.slice none 0 c) (Value.slice none 0 0)).run Tryz.prog w=.ok (.bool true) w:=by kernel_rfl
 go_wp2
 go_ret
 exact⟨rfl,rfl⟩
noncomputable def sq:Cfg:={P:=Tryz.prog,ok:=fun f=>Nat.beq f 19,ext:=fun _ _=>none,lv:=fun _ _=>none,own:=fun _ _=>[],eff:=fun _ _=>[],hand:=fun _ _=>false}
def GR(γ:Glob):Wf sq γ where
 mixed:=(by kernel_rfl:(Tryz.prog).follows .mixedOrders=true)
 sS:=fun f u=>by
  have u:Nat.beq f 19=true:=u;have u:f=19:=by simpa using u
  subst u;show qk sq _=true
  kernel_rfl
 ext:=fun _ _ _ _ h=>by cases h
def H7:Cl sq 19 [.nn []] [] (.ls 0) [.row false false 13 []]:=⟨4,by kernel_rfl⟩
def Ib{e:List AV}{es:List (List AV)}(h:fu 13 (e::es)=true)(hl:(e::es).length*120<=140737488351232):Cl sq 19 [.t (.arr (e::es))] [] (.ls 0) [.row false false 13 (e::es)]:=by
 have y:cn (([]:List (List AV)).length+(e::es).length) 120=true:=by
  simp only[List.length_cons]at hl;simp[cn];omega
 have z:eQ sq.P 57=some (53,13,120):=by kernel_rfl
 refine Cl.ap rfl Tryz.func19 rfl rfl rfl ?_
 repeat'(first
|(with_reducible first|apply ac.seq|apply ac.block)
|((with_reducible apply ac.text);(try case hm=>exact rfl))
|((with_reducible apply ac.drawn);(case hm=>exact rfl))
|((with_reducible apply ac.sD);(case hm=>exact rfl))
|((with_reducible apply ac.uR);(case hm|he=>exact rfl))
|(with_reducible first|apply aa.nQ|apply aa.pd|apply aa.pc|apply ac.skip|apply ac.exit|apply ac.ret|apply aH|apply da|apply bL|apply fH|apply eV|apply cY)
|((with_reducible apply uD);(case hj=>exact rfl))
|((with_reducible apply ac.aR);(case hc=>exact rfl))
|((with_reducible apply ac.aY);(case hc=>exact rfl))
|((with_reducible apply aa.aF);(case hp=>exact ak))
|((with_reducible apply aa.bk);(case hp=>exact ak))
|((with_reducible apply aa.aX)<;>intro v)
|((with_reducible apply aa.fS);(case hp=>exact ak))
|((with_reducible apply aa.dK);(case hp=>exact ak))
|((with_reducible apply aa.gA)<;>intro v)
|((with_reducible apply aa.cj);(case hp=>exact ak))
|((with_reducible apply aa.c_);(case hp=>exact ak))
|((with_reducible apply aa.bi)<;>intro v)
|((with_reducible apply aa.iM);(case hp=>exact ak))
|((with_reducible apply aa.iL);(case hp=>exact ak))
|((with_reducible apply aa.fz)<;>intro v)
|(with_reducible first|apply aa.aB|apply aa.dF|apply aa.nil)
|((with_reducible apply aa.gf);(case hW=>exact rfl))
|(with_reducible first|apply ay.nQ|apply ay.pd|apply ay.pc)
|((with_reducible apply ay.aF);(case hp=>exact ak))
|((with_reducible apply ay.bk);(case hp=>exact ak))
|((with_reducible apply ay.aX)<;>intro v)
|((with_reducible apply ay.fS);(case hp=>exact ak))
|((with_reducible apply ay.dK);(case hp=>exact ak))
|((with_reducible apply ay.gA)<;>intro v)
|((with_reducible apply ay.cj);(case hp=>exact ak))
|((with_reducible apply ay.c_);(case hp=>exact ak))
|((with_reducible apply ay.bi)<;>intro v)
|((with_reducible apply ay.iM);(case hp=>exact ak))
|((with_reducible apply ay.iL);(case hp=>exact ak))
|((with_reducible apply ay.fz)<;>intro v)
|((with_reducible apply ay.vN);(case hck=>kernel_rfl))
|((with_reducible apply ay.zl);(case hck=>kernel_rfl))
|(with_reducible first|apply ay.aB|apply ay.dF|apply ay.nil)
|((with_reducible apply ay.gf);(case hfl=>kernel_rfl);(case hW=>exact rfl))
|((with_reducible apply aa.gt);(case hW=>exact rfl);(case hx=>((with_reducible apply af.ei);(case hs=>exact fun _=>rfl);(case ha|ht=>exact rfl);(case hr=>first|(with_reducible exact ec)|(with_reducible exact z)|(with_reducible exact ed)|(with_reducible exact rw3)|(with_reducible exact rw4)|exact rfl);(case hx|hy|hn|hb=>exact rfl);(case hok=>exact h);(case hlen=>exact y);(case hv=>exact List.nil_append _);(case hk=>exact ez);(case hf=>exact leq))))
|((with_reducible apply aa.u);(case hx=>((with_reducible apply af.ei);(case hs=>exact fun _=>rfl);(case ha|ht=>exact rfl);(case hr=>first|(with_reducible exact ec)|(with_reducible exact z)|(with_reducible exact ed)|(with_reducible exact rw3)|(with_reducible exact rw4)|exact rfl);(case hx|hy|hn|hb=>exact rfl);(case hok=>exact h);(case hlen=>exact y);(case hv=>exact List.nil_append _);(case hk=>exact ez);(case hf=>exact leq))))
|((with_reducible apply ay.gt);(case hfl=>kernel_rfl);(case hW=>exact rfl);(case hx=>exact ae))
|((with_reducible apply ay.u);(case hfl=>kernel_rfl);(case hx=>exact ae))
|((with_reducible apply aa.av);(case hW=>exact rfl);(case hx=>exact ae))
|((with_reducible apply aa.u0);(case hx=>exact ae))
|((with_reducible apply aa.u);(case hx=>exact af.r fun _=>rfl))
|((with_reducible apply aa.gt);(case hW=>exact rfl);(case hx=>exact af.r fun _=>rfl))
|fail)
 exact⟨.inr rfl,rfl⟩
def Ia{es:List (List AV)}{r:SV}{fr':Fr}(γ:Glob)(h:mi 13 120 es=some (r,fr')):gR Tryz.prog 19/\∀(κ:Ctx) (w:World) (us:Array Value),ar γ κ [] κ.L w->κ.W=w->us.size=1->(∀(j:Nat) (x:AV) (u:Value),[AV.arr es][j]?=some x->us[j]?=some u->VR (MA κ.M [] κ.L) w x u)->
  Calls Tryz.prog 19 us w fun e w'=>∃v L',e=.returned v/\ar γ κ fr' L' w'/\SR (MA κ.M fr' L') L' w' r v:=by
 have U:gR Tryz.prog 19:=⟨_,Tryz.func19,by kernel_rfl,by kernel_rfl⟩;unfold mi at h;split at h
 rotate_left
 ·cases h
 rename_i I;rw[Bool.and_eq_true,Nat.ble_eq]at I;cases h;refine⟨U,fun κ w us D hκ hs hv=>?_⟩
 cases es with
 |nil=>
  have h0:=hv 0 _ us[0] rfl (by rw[Array.getElem?_eq_getElem (by omega)])
  have z:us=#[us[0]]:=by
   apply Array.ext
   ·simp[hs]
   ·intro i h2 h3;have:i=0:=by simp at h3;omega
    subst this;rfl
  rw[z];generalize us[0]=u0 at h0
  cases h0 with
  |bS A c=>
   cases A with
   |none=>exact(H9 c w).mono fun e w' ⟨he,hw⟩=>by
            subst hw;obtain⟨G,_⟩:=D.push (Below.refl _ _) (.row false false 13 []) (.slice none 0 0) (fun b hb=>by cases hb) fun hT=>⟨0,_,[],cb,.inl ⟨rfl,rfl,none,rfl⟩,by rw[List.length_nil];omega,fun k cs J=>by simp at J,fun k j cs x J _=>by simp at J⟩;exact⟨_,_,he,G,.ls _ _ cb rfl⟩
   |some p=>
    obtain⟨n,V⟩:=H7;refine((sound (GR γ) n).1 _ _ _ _ _ V).2 κ w #[.slice (some p) 0 c] D hκ rfl fun j x u y z=>?_
    match j with
    |0=>
     simp at y z;subst y z;exact .nn [] p c (.bS _ _)
    |j+1=>simp at y
  |arr b o c sz es us Z=>exact absurd rfl Z
 |cons e es=>
  obtain⟨n,V⟩:=Ib I.1 I.2;refine((sound (GR γ) n).1 _ _ _ _ _ V).2 κ w us D hκ hs fun j x u y z=>?_
  match j with
  |0=>
   have hx:x=.t (.arr (e::es)):=by simpa using y.symm
   subst hx;exact .t _ _ (hv 0 _ u rfl z)
  |j+1=>simp at y
def H4{M:Nat->Prop}{xs:List Int}{w:World}{v:Value}(hv:VR M w (aD xs) v)(hl:xs.length<=1000000):Calls Tryz.prog 94 #[v] w fun e w'=>∃u t,e=.returned u/\Below w.heap.size w w'/\OV w' (aD xs) u t/\∀b,Bk t b->w.heap.size<=b:=by
 have D:ar CQ ⟨fun _=>True,fun _=>False,fun _=>False,w,fun _=>none⟩ [] (fun _=>none) w:={
  glob:=trivial
  gn:=Nat.zero_le _
  gx:=fun b h=>h.elim
  fresh:=fun _ _=>trivial
  os:=rfl
  tape:=rfl
  output:=rfl
  size:=Nat.le_refl _
  kept:=fun _ _ _=>rfl
  lim:=fun i v h=>by cases h
  new:=fun i v b lb h=>by cases h
  dis:=fun i j v v' b h=>by cases h
  hand:=fun j v h=>by cases h
  blk:=fun i lb h=>by cases h}
 have G:mi 1 8 (aL xs)=some (.ls 0,[.row false false 1 (aL xs)]):=by
  unfold mi;have h1:fu 1 (aL xs)=true:=by simp[fu,aL,rv]
  have h2:Nat.ble ((aL xs).length*8) 140737488351232=true:=by rw[aW,Nat.ble_eq];omega
  rw[h1,h2];rfl
 refine((BN CQ G).2 _ w #[v] D rfl rfl fun j x u J hu=>?_).mono fun e w' ⟨v',L',he,z,hS⟩=>?_
 ·match j with
  |0=>
   simp at J hu;subst J hu;exact VR.on (Nat.le_refl _) (fun b _ _=>⟨⟨trivial,fun⟨i,_,_,h,_⟩=>by cases h⟩,rfl⟩) hv
  |j+1=>simp at J
 ·obtain⟨hL,_⟩:=kH hS;obtain⟨T,us,hR,y,_,ab,I⟩:=fR z rfl hL;rw[aW]at hR y
  obtain⟨t,V,Z⟩:=Kf (w0:=w) hR y (fun k n U=>by
   obtain⟨u,e1,e2⟩:=I k 0 [.int .i64 n] (.int .i64 n) (by simp[aL,U]) rfl;cases e2
   simpa using e1) fun b hb=>by
    rcases(z.new 0 _ b _ hL (.one hb) rfl).2.2.1 with h|h
    ·exact h
    ·exact h.elim
  exact⟨v',t,he,⟨z.os,z.tape,z.output,z.size,fun k U=>z.kept k U id⟩,V,Z⟩
set_option maxHeartbeats 1000000
abbrev aO:=List (List (List Int))
def aU(l:aO):List (List AV):=l.map fun x=>[jp x]
def p8(l:aO):AV:=.arr (aU l)
def mG{l:aO}{k:Nat}{x:List (List Int)}(h:l[k]?=some x):(aU l)[k]?=some [.arr (bA x)]:=by simp[aU,jp,h]
def mH(l:aO):(aU l).length=l.length:=by simp[aU]
def GM{M:Nat->Prop}{w w':World}{es:List (List AV)}{I:Value}(hv:VR M w (.arr es) I)(y:Below w.heap.size w w'){k:Nat}{x:AV}(v:es[k]?=some [x]):∃b0 G c1 u,I=.slice (some ⟨b0,G,none⟩) es.length c1/\w'.cell? ⟨b0,G+k,none⟩=some u/\VR (fun _=>True) w' x u:=by
 cases hv with
 |bS=>simp at v
 |arr b o c' sz _ us hne hlen hcap hbl hM hsz hcl hrr=>
  have D:1=sz:=hsz k _ v;subst D;have U:=aC v;have h1:=hcl k 0 U (by omega);refine⟨b,o,c',us k 0,rfl,?_,VR.on y.size (fun J z _=>⟨trivial,y.block J z⟩) (hrr k 0 _ _ v rfl)⟩;rw[y.cell hbl,<- h1];simp
def AW(l:aO)(w0:World)(z:Value)(k:Nat)(a:Act)(w:World):Prop:=Below w0.heap.size w0 w/\k<=l.length/\∃v T y u,Sl 33 [(3,v),(9,z),(10,.int .i64 l.length),(11,.int .i64 k)] a/\iu w0 w ((l.take k).map jp) v T y u
def AU(c:List (List Int))(z:World)(u v I:Value)(L k j:Nat)(a:Act)(w:World):Prop:=Below z.heap.size z w/\j<=c.length/\∃y T G D,Sl 33 [(6,y),(15,u),(16,.int .i64 c.length),(17,.int .i64 j),(3,v),(9,I),(10,.int .i64 L),(11,.int .i64 k)] a/\iu z w ((c.take j).map aD) y T G D
def H6{M:Nat->Prop}{l:aO}{w0:World}{v0:Value}(hv:VR M w0 (p8 l) v0)(hl:l.length<=1000000)(hx:∀x∈l,x.length<=1000000/\∀y∈x,y.length<=1000000):Calls Tryz.prog 46 #[v0] w0 fun e w'=>∃v t,e=.returned v/\Below w0.heap.size w0 w'/\OV w' (p8 l) v t/\∀b,Bk t b->w0.heap.size<=b:=by
 have aX:Tryz.prog.underlying 36=some (.slice 55):=by kernel_rfl
 have aY:Tryz.prog.underlying 55=some (.slice 22):=by kernel_rfl
 obtain⟨q0,c0,a1⟩:=rW hv;rw[mH]at a1;refine JP Tryz.func46 rfl ?_
 have D:=Sl.start (us:=#[v0]) (n:=33) (m:=32) (kp:=[(0,v0)]) rfl (fun p hp=>by
  obtain rfl:p=(0,v0):=by simpa using hp
  rfl)
 show Code.wpIn _ _ _ _ _ {tmps:=#[v0]++Array.replicate 32 undef,defers:=[]} _
 generalize({tmps:=#[v0]++Array.replicate 32 undef,defers:=[]}:Act)=a at D⊢;refine wpIn_seq ?_;refine wpIn_region_lit ?_;refine cD D rfl rfl (by decide) (v:=.slice none 0 0) (n_ rfl rfl) fun a D=>?_;show Code.wpIn _ _ _ _ _ _ _
 refine wpIn_seq ?_;refine wpIn_region_lit ?_;refine cD D rfl rfl (by decide) (v:=.slice none 0 0) (n_ rfl rfl) fun a D=>?_;show Code.wpIn _ _ _ _ _ _ _
 refine wpIn_seq ?_;refine wpIn_seq ?_;refine wpIn_region_lit ?_;refine cD D rfl rfl (by decide) (v:=v0) (lw rfl (D.at (by simp[bQ]))) fun a D=>?_;refine cD D rfl rfl (by decide) (v:=.int .i64 l.length) (Cq rfl aX (by rw[D.at (v:=v0) (by simp[bQ]),a1])) fun a D=>?_;refine cD D rfl rfl (by decide) (v:=.int .i64 0) (lw rfl rfl) fun a D=>?_;show Code.wpIn _ _ _ _ _ _ _
 refine wpIn_block ?_;have I:∃k,AW l w0 v0 k a w0:=⟨0,Below.refl _ _,Nat.zero_le _,.slice none 0 0,0,[],[],D.sub (by simp[bQ]),iu.nil _ _ none⟩;clear D;refine ue (fun m a w=>∃k,m=l.length - k/\AW l w0 v0 k a w) _ ⟨_,rfl,I.choose_spec⟩ ?_;clear I;intro m a w ⟨k,hm,hB,bo,v,T,us,ts,D,hN⟩;refine wpIn_seq ?_;refine wpIn_region_lit ?_;obtain⟨b,hb⟩:∃b,decide ((k:Int)<(l.length:Int))=b:=⟨_,rfl⟩;refine cD D rfl rfl (by decide) (v:=.bool b) (Cs rfl (D.at (by simp)) (D.at (by simp)) hb) fun a D=>?_;show Code.wpIn _ _ _ _ _ _ _
 refine wpIn_seq ?_
 cases b with
 |false=>
  refine wpIn_cond_split (t:=false) (D.at (v:=.bool false) (by simp[bQ])) (fun h=>by cases h) (fun _=>?_);refine wpIn_exit ?_;have hk:k=l.length:=by have:=of_decide_eq_false hb;omega
  subst hk;show Code.wpIn _ _ _ _ _ _ _
  refine wpIn_seq ?_;refine wpIn_region_lit ?_;refine cD D rfl rfl (by decide) (v:=v) (lw rfl (D.at (by simp[bQ]))) fun a D=>?_;refine cD D rfl rfl (by decide) (v:=v) (n_ rfl (D.at (by simp[bQ]))) fun a D=>?_;show Code.wpIn _ _ _ _ _ _ _
  refine wpIn_ret ?_;obtain⟨t,U,aM⟩:=hN.ov;rw[List.take_length,List.map_map]at U;refine⟨.inr rfl,D.df,v,?_,v,t,rfl,hB,U,aM⟩;have e2:a.tmps.getD 2 undef=v:=D.at (t:=2) (v:=v) (by simp[bQ]);rw[Array.getD_eq_getD_getElem?]at e2;simp[results,Tryz.f46,e2,pure,Sem.run]
 |true=>
  refine wpIn_cond_split (t:=true) (D.at (v:=.bool true) (by simp[bQ])) (fun _=>?_) (fun h=>by cases h);refine wpIn_skip ?_;show Code.wpIn _ _ _ _ _ _ _
  refine wpIn_seq ?_;refine wpIn_block ?_;refine wpIn_seq ?_;refine wpIn_region_lit ?_;have hk:k <l.length:=by have:=of_decide_eq_true hb;omega
  obtain⟨c,hc⟩:=am hk;obtain⟨b0,o0,c1,u,ao,aG,a6⟩:=GM (x:=jp c) hv hB (mG hc);rw[mH]at ao
  refine cD D rfl rfl (by decide) (v:=.pointer (some ⟨b0,o0+k,none⟩)) (Cp rfl (D.at (v:=v0) (by simp[bQ])) (D.at (v:=.int .i64 k) (by simp[bQ])) (by
   rw[ao];have:=rJ (P:=Tryz.prog) (w:=w) (t:=36) (e:=55) (sz:=1) (b:=b0) (o:=o0) (n:=l.length) (c:=c1) (k:=.i64) (m:=(k:Int)) (by kernel_rfl) (by omega) (by simpa using hk);simpa using this)) fun a D=>?_
  refine cD D rfl rfl (by decide) (v:=u) (Cr rfl (D.at (v:=.pointer (some ⟨b0,o0+k,none⟩)) (by simp[bQ])) (p6 (n:=1) (by kernel_rfl) aG)) fun a D=>?_;refine cD D rfl rfl (by decide) (v:=u) (n_ rfl (D.at (by simp[bQ]))) fun a D=>?_;obtain⟨bl,be⟩:=hx c (List.mem_of_getElem? hc);have aT:(bA c).length=c.length:=by simp[bA]
  obtain⟨q1,c2,hu⟩:=rW a6;rw[aT]at hu;show Code.wpIn _ _ _ _ _ _ _
  refine wpIn_seq ?_;refine wpIn_region_lit ?_;refine cD D rfl rfl (by decide) (v:=.slice none 0 0) (n_ rfl rfl) fun a D=>?_;show Code.wpIn _ _ _ _ _ _ _
  refine wpIn_seq ?_;refine wpIn_seq ?_;refine wpIn_region_lit ?_;refine cD D rfl rfl (by decide) (v:=u) (lw rfl (D.at (by simp[bQ]))) fun a D=>?_;refine cD D rfl rfl (by decide) (v:=.int .i64 c.length) (Cq rfl aY (by rw[D.at (v:=u) (by simp[bQ]),hu])) fun a D=>?_;refine cD D rfl rfl (by decide) (v:=.int .i64 0) (lw rfl rfl) fun a D=>?_;show Code.wpIn _ _ _ _ _ _ _
  refine wpIn_block ?_;have I:∃j,AU c w u v v0 l.length k j a w:=⟨0,Below.refl _ _,Nat.zero_le _,.slice none 0 0,0,[],[],D.sub (by simp[bQ]),iu.nil _ _ none⟩;clear D;refine ue (fun m a w'=>∃j,m=c.length - j/\AU c w u v v0 l.length k j a w') _ ⟨_,rfl,I.choose_spec⟩ ?_;clear I;intro m2 a Z ⟨j,bt,V,bm,y,T5,bk,bu,D,al⟩;refine wpIn_seq ?_;refine wpIn_region_lit ?_;obtain⟨b2,aB⟩:∃b,decide ((j:Int)<(c.length:Int))=b:=⟨_,rfl⟩;refine cD D rfl rfl (by decide) (v:=.bool b2) (Cs rfl (D.at (by simp)) (D.at (by simp)) aB) fun a D=>?_;show Code.wpIn _ _ _ _ _ _ _
  refine wpIn_seq ?_
  cases b2 with
  |false=>
   refine wpIn_cond_split (t:=false) (D.at (v:=.bool false) (by simp[bQ])) (fun h=>by cases h) (fun _=>?_);refine wpIn_exit ?_;have hj:j=c.length:=by have:=of_decide_eq_false aB;omega
   subst hj;obtain⟨t5,U,aM⟩:=al.ov;rw[List.take_length,List.map_map]at U;replace U:OV Z (jp c) y t5:=U;show Code.wpIn _ _ _ _ _ _ _
   refine wpIn_region_lit ?_;refine cD D rfl rfl (by decide) (v:=v) (lw rfl (D.at (by simp[bQ]))) fun a D=>?_;refine cD D rfl rfl (by decide) (v:=y) (lw rfl (D.at (by simp[bQ]))) fun a D=>?_;have G:((l.take k).map jp).length=k:=by rw[List.length_map,List.length_take];omega
   refine cD D rfl rfl (by decide) (v:=.slice (some ⟨Z.heap.size,0,none⟩) 1 1) (w':=Z.alloc (.cells #[y] 55)) (Ct rfl (by kernel_rfl:eQ Tryz.prog 36=some (55,1,24)) (D.at (by simp[bQ])) U.plain) fun a D=>?_;have h4:Below Z.heap.size Z (Z.alloc (.cells #[y] 55)):=(Below.refl _ _).alloc (Nat.le_refl _) _;generalize ag:Z.alloc (.cells #[y] 55)=w2 at h4⊢
   have J:mQ w2 (some ⟨Z.heap.size,0,none⟩) [y]:=fun _=>⟨Z.heap.size,0,rfl,by rw[<- ag];exact(Array.getElem?_eq_some_iff.1 (heap_alloc_new _ _)).1,fun j y' hj=>by
    obtain rfl:j=0:=by have:=aC hj;simpa using this
    cases hj;rw[<- ag];have:=heap_alloc_new Z (.cells #[y] 55);unfold World.cell?;rw[this];rfl⟩
   have av:cm w2 T 1 v k us:=by
    have:=(hN.row.below V).below (h4.mono (Nat.le_refl _));rw[G]at this;exact this
   obtain⟨v',w3,T',aA,ax,ad,aF⟩:=tK (P:=Tryz.prog) (m:=1) (c:=1) (by kernel_rfl:eQ Tryz.prog 36=some (55,1,24)) av J rfl (fun u hu=>by rw[List.mem_singleton.1 hu];exact U.plain) (by omega) (by omega);refine cD D rfl rfl (by decide) (v:=v') (w':=w3) (Cm rfl (D.at (v:=v) (by simp[bQ])) (D.at (v:=.slice (some ⟨Z.heap.size,0,none⟩) 1 1) (by simp[bQ])) aA) fun a D=>?_;refine cD D rfl rfl (by decide) (v:=v') (n_ rfl (D.at (by simp[bQ]))) fun a D=>?_;show Code.wpIn _ _ _ _ _ _ _
   refine wpIn_region_lit ?_;refine cD D rfl rfl (by decide) (v:=.int .i64 ((k+1:Nat):Int)) (Ck (n:=1) rfl (D.at (v:=.int .i64 k) (by simp[bQ])) rfl (by omega) (by omega)) fun a D=>?_;refine cD D rfl rfl (by decide) (v:=.int .i64 ((k+1:Nat):Int)) (lw rfl (D.at (by simp[bQ]))) fun a D=>?_;have ab:=hN.fZ (x:=jp c) (by have:=hB.size;omega) V U aM h4 (by rw[G];exact ax) (by rw[G];omega) ad aF;have aN:(l.take k).map jp++[jp c]=(l.take (k+1)).map jp:=by rw[List.take_add_one,hc,List.map_append];rfl
   rw[aN]at ab;refine⟨l.length - (k+1),by omega,k+1,rfl,?_,by omega,v',T',_,_,D.sub (by simp[bQ]),ab⟩;have hw:=hB.size;have bf:=V.size;have bi:=h4.size;exact((hB.trans (V.mono hw)).trans (h4.mono (by omega))).grown ad (by omega) fun b hb=>hN.qe b hb
  |true=>
   refine wpIn_cond_split (t:=true) (D.at (v:=.bool true) (by simp[bQ])) (fun _=>?_) (fun h=>by cases h);refine wpIn_skip ?_;show Code.wpIn _ _ _ _ _ _ _
   refine wpIn_seq ?_;refine wpIn_block ?_;refine wpIn_seq ?_;refine wpIn_region_lit ?_;have hj:j <c.length:=by have:=of_decide_eq_true aB;omega
   obtain⟨z,hz⟩:=am hj;obtain⟨au,aR,bd,u',ap,an,bb⟩:=GM (x:=aD z) a6 V (lf hz);rw[aT]at ap
   refine cD D rfl rfl (by decide) (v:=.pointer (some ⟨au,aR+j,none⟩)) (Cp rfl (D.at (v:=u) (by simp[bQ])) (D.at (v:=.int .i64 j) (by simp[bQ])) (by
    rw[ap];have:=rJ (P:=Tryz.prog) (w:=Z) (t:=55) (e:=22) (sz:=1) (b:=au) (o:=aR) (n:=c.length) (c:=bd) (k:=.i64) (m:=(j:Int)) (by kernel_rfl) (by omega) (by simpa using hj);simpa using this)) fun a D=>?_
   refine cD D rfl rfl (by decide) (v:=u') (Cr rfl (D.at (v:=.pointer (some ⟨au,aR+j,none⟩)) (by simp[bQ])) (p6 (n:=1) (by kernel_rfl) an)) fun a D=>?_;refine cD D rfl rfl (by decide) (v:=u') (n_ rfl (D.at (by simp[bQ]))) fun a D=>?_;show Code.wpIn _ _ _ _ _ _ _
   refine wpIn_region_lit ?_;refine cD D rfl rfl (by decide) (v:=y) (lw rfl (D.at (by simp[bQ]))) fun a D=>?_;refine cD D rfl rfl (by decide) (v:=u') (lw rfl (D.at (by simp[bQ]))) fun a D=>?_;have bj:z.length<=1000000:=be z (List.mem_of_getElem? hz);refine Qw D rfl rfl (by decide) rfl (D.at (v:=u') (by simp[bQ])) (R:=fun z' w'=>∃t,Below Z.heap.size Z w'/\OV w' (aD z) z' t/\∀b,Bk t b->Z.heap.size<=b) ⟨_,Tryz.func94,by kernel_rfl,by kernel_rfl⟩ ((H4 bb bj).mono fun e w' ⟨z',t,h1,h2,h3,h4⟩=>⟨z',h1,t,h2,h3,h4⟩) fun a z' w1 ⟨t,h1,h2,h3⟩ D=>?_;have G:((c.take j).map aD).length=j:=by rw[List.length_map,List.length_take];omega
   refine cD D rfl rfl (by decide) (v:=.slice (some ⟨w1.heap.size,0,none⟩) 1 1) (w':=w1.alloc (.cells #[z'] 22)) (Ct rfl (by kernel_rfl:eQ Tryz.prog 55=some (22,1,24)) (D.at (by simp[bQ])) h2.plain) fun a D=>?_;have h4:Below w1.heap.size w1 (w1.alloc (.cells #[z'] 22)):=(Below.refl _ _).alloc (Nat.le_refl _) _;generalize ag:w1.alloc (.cells #[z'] 22)=w2 at h4⊢
   have J:mQ w2 (some ⟨w1.heap.size,0,none⟩) [z']:=fun _=>⟨w1.heap.size,0,rfl,by rw[<- ag];exact(Array.getElem?_eq_some_iff.1 (heap_alloc_new _ _)).1,fun j y' hj=>by
    obtain rfl:j=0:=by have:=aC hj;simpa using this
    cases hj;rw[<- ag];have:=heap_alloc_new w1 (.cells #[z'] 22);unfold World.cell?;rw[this];rfl⟩
   have av:cm w2 T5 1 y j bk:=by
    have:=(al.row.below h1).below (h4.mono (Nat.le_refl _));rw[G]at this;exact this
   obtain⟨v',w3,T',aA,ax,ad,aF⟩:=tK (P:=Tryz.prog) (m:=1) (c:=1) (by kernel_rfl:eQ Tryz.prog 55=some (22,1,24)) av J rfl (fun u hu=>by rw[List.mem_singleton.1 hu];exact h2.plain) (by omega) (by omega);refine cD D rfl rfl (by decide) (v:=v') (w':=w3) (Cm rfl (D.at (v:=y) (by simp[bQ])) (D.at (v:=.slice (some ⟨w1.heap.size,0,none⟩) 1 1) (by simp[bQ])) aA) fun a D=>?_;refine cD D rfl rfl (by decide) (v:=v') (n_ rfl (D.at (by simp[bQ]))) fun a D=>?_;show Code.wpIn _ _ _ _ _ _ _
   refine wpIn_region_lit ?_;refine cD D rfl rfl (by decide) (v:=.int .i64 ((j+1:Nat):Int)) (Ck (n:=1) rfl (D.at (v:=.int .i64 j) (by simp[bQ])) rfl (by omega) (by omega)) fun a D=>?_;refine cD D rfl rfl (by decide) (v:=.int .i64 ((j+1:Nat):Int)) (lw rfl (D.at (by simp[bQ]))) fun a D=>?_;have ab:=al.fZ (x:=aD z) (by have:=V.size;omega) h1 h2 h3 h4 (by rw[G];exact ax) (by rw[G];omega) ad aF;have aN:(c.take j).map aD++[aD z]=(c.take (j+1)).map aD:=by rw[List.take_add_one,hz,List.map_append];rfl
   rw[aN]at ab;refine⟨c.length - (j+1),by omega,j+1,rfl,?_,by omega,v',T',_,_,D.sub (by simp[bQ]),ab⟩;have hw:=V.size;have bf:=h1.size;have bi:=h4.size;exact((V.trans (h1.mono hw)).trans (h4.mono (by omega))).grown ad (by omega) fun b hb=>al.qe b hb
theorem C5:∀{xs:List (List AV)},xs.all vq=true->∃c:List Int,xs=aL c
 |[],_=>⟨[],rfl⟩
 |x::xs,h=>by
  rw[List.all_cons,Bool.and_eq_true]at h;obtain⟨c,rfl⟩:=C5 h.2;have h1:=h.1;unfold vq at h1;split at h1
  ·rename_i n;exact⟨n::c,rfl⟩
  ·cases h1
theorem C6:∀{es:List (List AV)},es.all sX=true->∃l:List (List Int),es=bA l/\∀c∈l,c.length<=1000000
 |[],_=>⟨[],rfl,fun c h=>by cases h⟩
 |e::es,h=>by
  rw[List.all_cons,Bool.and_eq_true]at h;obtain⟨l,rfl,v⟩:=C6 h.2;have h1:=h.1;unfold sX at h1;split at h1
  ·rename_i xs;rw[Bool.and_eq_true,Nat.ble_eq]at h1;obtain⟨c,rfl⟩:=C5 h1.1;have u:(aL c).length=c.length:=aW c;rw[u]at h1;refine⟨c::l,rfl,fun d hd=>?_⟩;rcases List.mem_cons.1 hd with rfl|hd
   ·exact h1.2
   ·exact v d hd
  ·cases h1
def H3(l:List (List Int)):(bA l).length=l.length:=by simp[bA]
theorem C7:∀{es:List (List AV)},es.all vt=true->∃l:aO,es=aU l/\∀x∈l,x.length<=1000000/\∀c∈x,c.length<=1000000
 |[],_=>⟨[],rfl,fun c h=>by cases h⟩
 |e::es,h=>by
  rw[List.all_cons,Bool.and_eq_true]at h;obtain⟨l,rfl,v⟩:=C7 h.2;have h1:=h.1;unfold vt at h1;split at h1
  ·rename_i xs;rw[Bool.and_eq_true,Nat.ble_eq]at h1;obtain⟨c,rfl,u⟩:=C6 h1.1;rw[H3]at h1;refine⟨c::l,rfl,fun d hd=>?_⟩;rcases List.mem_cons.1 hd with rfl|hd
   ·exact⟨h1.2,u⟩
   ·exact v d hd
  ·cases h1
def Mi{us:Array Value}(hs:us.size=1):us=#[us[0]]:=by
 apply Array.ext
 ·simp[hs]
 ·intro i h2 h3;have:i=0:=by simp at h3;omega
  subst this;rfl
def H5{es:List (List AV)}{r:SV}{fr':Fr}(γ:Glob)(h:sx es=some (r,fr')):gR Tryz.prog 46/\∀(κ:Ctx) (w:World) (us:Array Value),ar γ κ [] κ.L w->κ.W=w->us.size=1->(∀(j:Nat) (x:AV) (u:Value),[AV.arr es][j]?=some x->us[j]?=some u->VR (MA κ.M [] κ.L) w x u)->
  Calls Tryz.prog 46 us w fun e w'=>∃v L',e=.returned v/\ar γ κ fr' L' w'/\SR (MA κ.M fr' L') L' w' r v:=by
 refine⟨⟨_,Tryz.func46,by kernel_rfl,by kernel_rfl⟩,fun κ w us V hκ hs hv=>?_⟩;unfold sx at h;split at h
 rotate_left
 ·cases h
 rename_i J;cases h;rw[Bool.and_eq_true,Nat.ble_eq]at J;obtain⟨l,rfl,hl⟩:=C7 J.1;have U:=hv 0 _ us[0] rfl (by rw[Array.getElem?_eq_getElem (by omega)]);rw[Mi hs];generalize us[0]=u0 at U;have D:l.length<=1000000:=by have:=J.2;rw[mH]at this;omega
 refine(H6 U D hl).mono fun e w' ⟨v,t,he,hb,y,G⟩=>?_;obtain⟨I,Z⟩:=V.ED hb (.own false (.arr (aU l))) t (fun b z=>⟨G b z,(y.lt b z).1⟩) fun Z=>⟨v,t,cb,y⟩;obtain⟨ts,rfl,h1⟩:=OV.head y;exact⟨v,_,he,I,.lo 0 [] _ v cb (by unfold lx;rw[tS];exact h1) y.plain⟩
set_option maxHeartbeats 8000000
abbrev sl(g n c:Nat):Value:=.slice (some ⟨g,0,none⟩) n (c+1)
abbrev pt(b o:Nat):Value:=.pointer (some ⟨b,o,none⟩)
def R_{P:Program}{a:Act}{w:World}{t u:Nat}{x y:Operand}{o:Oper}{m n:Int}(ho:o.op=.binOp .add t x y u)(hx:a.eval x=.int .i64 m)(hy:a.eval y=.int .i64 n):(execOp a.eval o).run P w=.ok (.value (.int .i64 (IntKind.i64.wrap (m+n)))) w:=by
 obtain⟨v,h1,h2⟩:=Co (P:=P) (w:=w) (z:=.int .i64 (IntKind.i64.wrap (m+n))) ho hx hy rfl;cases h2;exact h1
def Sa{P:Program}{a:Act}{w:World}{t u:Nat}{x y:Operand}{o:Oper}{m n:Int}(ho:o.op=.binOp .sub t x y u)(hx:a.eval x=.int .i64 m)(hy:a.eval y=.int .i64 n):(execOp a.eval o).run P w=.ok (.value (.int .i64 (IntKind.i64.wrap (m - n)))) w:=by
 obtain⟨v,h1,h2⟩:=Co (P:=P) (w:=w) (z:=.int .i64 (IntKind.i64.wrap (m - n))) ho hx hy rfl;cases h2;exact h1
def QV{P:Program}{a:Act}{w:World}{t f off b u n:Nat}{x:Operand}{o:Oper}(ho:o.op=.fieldAddr t x f)(hf:sM P t f=some off)(hx:a.eval x=.pointer (some ⟨b,u,none⟩))(hn:u+off=n):(execOp a.eval o).run P w=.ok (.value (.pointer (some ⟨b,n,none⟩))) w:=by
 cases o;cases ho;subst hn;exact fJ rfl (by rw[hx];exact z_ hf)
def R8{P:Program}{a:Act}{w:World}{T:Nat}{x:Operand}{o:Oper}{us:Array Value}(ho:o.op=.box T x)(hx:a.eval x=.agg us):(execOp a.eval o).run P w=.ok (.value (.pointer (some ⟨w.heap.size,0,none⟩))) (w.alloc (.cells us T)):=by
 cases o;cases ho;have:(a.eval x).cells=us:=by rw[hx];rfl
 simp[execOp,Instr.box,Sem.run_bind,newVar,newRow,newObj,pure,Sem.run,this]
def R9{P:Program}{a:Act}{w:World}{T:Nat}{o:Oper}{i:TypeInfo}{z:Value}(ho:o.op=.alloc T)(hi:P.info? T=some i)(hz:i.zero=some z):(execOp a.eval o).run P w=.ok (.value (.pointer (some ⟨w.heap.size,0,none⟩))) (w.alloc (.cells z.cells T)):=by
 cases o;cases ho;simp[execOp,Instr.alloc,Sem.run_bind,Ac hi hz,newVar,newRow,newObj,pure,Sem.run]
def RF{w:World}{us:Array Value}{T n:Nat}(hn:us.size=n):(w.alloc (.cells us T)).ownsRow 0 T n (.slice (some ⟨w.heap.size,0,none⟩) 1 1) 1 us.toList:=by
 subst hn;exact⟨by simp,.inr ⟨w.heap.size,1,us,rfl,Nat.zero_le _,by show(w.heap.push (.cells us T))[w.heap.size]?=_;exact Array.getElem?_push_size,Nat.le_refl _,by decide,by simp,by rw[Nat.one_mul,<- Array.length_toList,List.take_length]⟩⟩
def Q6{w:World}{T:TypeId}{sz b n c q:Nat}{us:List Value}{u:Value}(h:w.ownsRow 0 T sz (.slice (some ⟨b,0,none⟩) n c) n us)(hq:us[q]?=some u):w.cell? ⟨b,q,none⟩=some u:=zv h hq
def R0{M:Nat->Prop}{w:World}{es:List (List AV)}{v:Value}(h:VR M w (.arr es) v):eB v=true:=by cases h <;>rfl
def Ry{A:Nat->Prop}{w:World}{T g c n:Nat}{us:List Value}{es:List AV}(h:w.ownsRow 0 T 1 (.slice (some ⟨g,0,none⟩) n (c+1)) n us)(hn:es.length=n)(hl:n<=140737488351232)(hA:A g)(hr:∀(k:Nat) (x:AV) (u:Value),es[k]?=some x->us[k]?=some u->VR A w x u):VR A w (.arr (es.map fun x=>[x])) (.slice (some ⟨g,0,none⟩) n (c+1)):=by
 rcases h.2 with⟨e,_⟩|⟨g',cap,Z,e,_,hg,I,ab,ad,ag⟩
 ·cases e
 cases e;have al:=h.1
 cases es with
 |nil=>
  subst hn;exact .bS _ _
 |cons J es=>
  have v:((J::es).map fun x=>[x]).length=n:=by rw[List.length_map];exact hn
  have:=VR.arr (M:=A) (w:=w) g 0 (c+1) 1 ((J::es).map fun x=>[x]) (fun k _=>us.getD k undef) (by simp) (by rw[v];exact hl) (by rw[v];exact I) (Array.getElem?_eq_some_iff.1 hg).1 hA (fun k V z=>by
    obtain⟨y,_,rfl⟩:=rj z;rfl) (fun k j z G=>by
    obtain rfl:j=0:=by omega
    rw[v]at z;obtain⟨u,D⟩:=am (xs:=us) (k:=k) (by omega);have:=zv h D;rw[List.getD_eq_getElem?_getD,D];simpa using this) (fun k j V x z G=>by
    obtain⟨y,U,rfl⟩:=rj z;obtain rfl:j=0:=by have:=aC G;simpa using this
    cases G;obtain⟨u,D⟩:=am (xs:=us) (k:=k) (by have:=aC U;omega);rw[List.getD_eq_getElem?_getD,D];exact hr k _ u U D)
  rw[v]at this;exact this
def RZ{M:Nat->Prop}{w:World}{es:List (List AV)}{D:Value}(hv:VR M w (.arr es) D){k:Nat}{x:AV}(v:es[k]?=some [x]):∃b0 z c1 u,D=.slice (some ⟨b0,z,none⟩) es.length c1/\b0 <w.heap.size/\w.cell? ⟨b0,z+k,none⟩=some u/\VR M w x u:=by
 cases hv with
 |bS=>simp at v
 |arr b o c' sz _ us hne hlen hcap hbl hM hsz hcl hrr=>
  have y:1=sz:=hsz k _ v;subst y;have G:=aC v;have h1:=hcl k 0 G (by omega);exact⟨b,o,c',us k 0,rfl,hbl,by rw[<- h1];simp,hrr k 0 _ _ v rfl⟩
def Ri{P:Program}{M:Nat->Prop}{w0 wb:World}{t ty e z p:Nat}{es:List AV}{v0:Value}(ht:eQ P t=some (e,1,z))(hv:VR M w0 (.arr (es.map fun x=>[x])) v0)(hB:Below w0.heap.size w0 wb)(aN:0 <es.length)(hl:es.length<=1000000)(ap:z<=24)(aB:∀x∈es,∀u,VR M w0 x u->eB u=true):∃g c wc T us,(Builtin.append_ #[t,t] ty #[.slice (some ⟨p,0,none⟩) 0 0,v0]).run P wb=.ok (.slice (some ⟨g,0,none⟩) es.length (c+1)) wc/\wb.heap.size<=g/\wc.ownsRow 0 T 1 (.slice (some ⟨g,0,none⟩) es.length (c+1)) es.length us/\us.length=es.length/\Below wb.heap.size wb wc/\∀(j:Nat) (x:AV),es[j]?=some x->∃u:Value,us[j]?=some u/\VR M w0 x u:=by
 have av:(es.map fun x=>[x]).length=es.length:=by simp
 obtain⟨q0,c0,J,ag,G,I,aA⟩:=ua (sz:=1) (by omega) hv (fun j cs U=>by
  obtain⟨y,_,rfl⟩:=rj U;rfl)
 rw[av]at ag I;rw[Nat.mul_one]at I
 have ad:∀j y,es[j]?=some y->∃u,J[j]?=some u/\VR M w0 y u:=fun j y U=>by
  obtain⟨u,h1,h2⟩:=aA j 0 [y] y (by rw[List.getElem?_map,U];rfl) rfl;exact⟨u,by simpa using h1,h2⟩
 have ax:∀u∈J,eB u=true:=fun u hu=>by
  obtain⟨j,U,rfl⟩:=List.mem_iff_getElem.1 hu;obtain⟨y,hy⟩:=am (xs:=es) (k:=j) (by omega);obtain⟨u',e1,e2⟩:=ad j y hy;rw[List.getElem?_eq_getElem U]at e1;cases e1;exact aB y (List.mem_of_getElem? hy) _ e2
 obtain⟨b0,o0,aF,Z,D⟩:=G (by omega);have ab:mQ wb q0 J:=fun h=>⟨b0,o0,aF,Nat.lt_of_lt_of_le Z hB.size,fun j u U=>(hB.cell Z).trans (D j u U)⟩
 have ao:(0+es.length)*z<=140737488355328:=by
  have:(0+es.length)*z<=1000000*24:=Nat.mul_le_mul (by omega) ap;omega
 obtain⟨v1,w2,T1,V,al,au,an⟩:=tK (P:=P) (ty:=ty) (T:=0) (n:=0) (us:=[]) (m:=es.length) (c:=c0) ht (v:=.slice (some ⟨p,0,none⟩) 0 0) (.inl ⟨rfl,rfl,_,rfl⟩) ab (by rw[I,Nat.mul_one]) ax (by omega) ao;have ho:=al.own (by omega);rw[Nat.zero_add,List.nil_append]at ho;rw[ag];rcases ho.2 with⟨_,h0⟩|⟨g,cap,aG,e1,_,hg,aM,_⟩
 ·omega
 ·obtain⟨c,rfl⟩:∃c,cap=c+1:=⟨cap - 1,by omega⟩;subst e1;refine⟨g,c,w2,T1,J,V,?_,ho,I,(Below.refl _ _).grown au (Nat.le_refl _) (fun k hk=>by cases hk),ad⟩;rcases an with e|e|e
  ·cases e
  ·cases e;exact Nat.le_refl _
  ·cases e
def Rh(ops:Array Oper)(b c:Nat):Bool:=Nat.blt b c&&match ops[c]? with
 |some o=>o.after.any fun e=>Nat.beq e.on b&&Region.binds .any e
 |none=>false
def Q4(ops:Array Oper)(i j d:Nat):Bool:=match ops[i]?,ops[j]? with
 |some o,some u=>(o.after.toList.any fun e=>Nat.beq e.on j&&Region.binds .any e)&&(match u.dst with|some x=>Nat.beq x d|none=>false)
 |_,_=>false
def Rv{P:Program}{dn n m id:Nat}{ops:Array Oper}{Q:Exit->Act->World->Prop}{a:Act}{w wd wb wc:World}{kp:List (Nat×Value)}(b c:Nat)(G:World->Prop)(val:Nat->Value)(hm:P.follows .mixedOrders=true)(cf:{w with drawn:=w.drawn+1}=wd)(hk:Sl n kp a)(hB:Ra ops m n (kp.map (·.1))=true)(aT:(Rh ops b c&&Nat.blt c m)=true)(bo:G wd)(bl:G wb)(bm:G wc)
  (hx:∀i o w',i <m->i≠b->i≠c->ops[i]?=some o->G w'->∀Z,Sl n kp Z->(∀j d,Q4 ops i j d=true->Z.eval (.tmp d)=val j)->(execOp Z.eval o).run P w'=.ok (.value (val i)) w')
  (ch:∀o,ops[b]?=some o->∀Z,Sl n kp Z->(∀j d,Q4 ops b j d=true->Z.eval (.tmp d)=val j)->(execOp Z.eval o).run P wd=.ok (.value (val b)) wb)
  (cj:∀o,ops[c]?=some o->∀Z,Sl n kp Z->(∀j d,Q4 ops c j d=true->Z.eval (.tmp d)=val j)->(execOp Z.eval o).run P wb=.ok (.value (val c)) wc)
  (hl:∀o Z,ops[m]?=some o->Sl n kp Z->(∀j oj d,j <m->ops[j]?=some oj->oj.dst=some d->Z.eval (.tmp d)=val j)->o.wpIn (Fw none) dn P Z wc (fun ag ap=>Q .normal ag ap) Q):(Code.region id ops true).wpIn (Fw none) dn P Q a w:=by
 obtain⟨ct,aM⟩:=Sq hB;unfold Rh at aT;rw[Bool.and_eq_true,Bool.and_eq_true,Nat.blt_eq,Nat.blt_eq]at aT;obtain⟨⟨cp,bd⟩,bu⟩:=aT;refine wpIn_region_any hm ?_;rw[cf]
 have fin:∀u (listed:Array Bool) a w,(∀k,k <ops.size->listed.getD k true=true)->Q .normal a w->wpAnyIn (Fw none) dn P .any ops Q u listed a w:=fun u listed a w al hQ=>by
  have aG:Region.ready .any ops listed=[]:=by
   cases hr:Region.ready .any ops listed with
   |nil=>rfl
   |cons i l=>
    have ax:i∈Region.ready .any ops listed:=by rw[hr];simp
    obtain⟨hl,o,ho,_⟩:=mem_ready.1 ax;have:=al i (Array.getElem?_eq_some_iff.1 ho).1;rw[hl]at this;cases this
  cases u with
  |zero=>exact⟨aG,hQ⟩
  |succ u=>exact⟨fun _=>hQ,fun i hi=>by rw[aG]at hi;cases hi⟩
 have cl:∀u (listed:Array Bool) a wn,fC listed ops.size<=u->QM ops m n kp val listed a->(listed.getD c true=true->listed.getD b true=true)->(wn=if listed.getD c true=true then wc else if listed.getD b true=true then wb else wd)->wpAnyIn (Fw none) dn P .any ops Q u listed a wn:=by
  intro u
  induction u with
  |zero=>
   intro listed a wn hu U aR J;have:=t_ (listed:=listed) ops.size (by omega) m (by omega);rw[U.last]at this;cases this
  |succ u ih=>
   intro listed a wn hu U aR J;refine⟨fun hr=>?_,fun i hi=>?_⟩
   ·have al:∀k,k <ops.size->listed.getD k true=true:=by
     intro k
     induction k using Nat.strongRecOn with
     |_ k ihk=>
      intro hk;rw[<- Bool.not_eq_false];intro b4
      have ax:k∈Region.ready .any ops listed:=mem_ready.2 ⟨b4,ops[k],Array.getElem?_eq_getElem hk,fun e he hb=>by
       have b5:=(aM k _ (Array.getElem?_eq_getElem hk)).2.1 e he;exact CS (by rw[U.sz];omega) (ihk e.on b5 (by omega))⟩
      rw[hr]at ax;cases ax
    have:=al m (by omega);rw[U.last]at this;cases this
   ·obtain⟨ao,o,ho,z⟩:=mem_ready.1 hi;have aF:=(Array.getElem?_eq_some_iff.1 ho).1;obtain⟨hg,aN,ab,bf⟩:=aM i o ho
    have b7:fC (listed.setIfInBounds i true) ops.size<=u:=by
     have:=rV ao ops.size;rw[if_pos aF]at this;omega
    have I:∀j,j≠i->(listed.setIfInBounds i true).getD j true=listed.getD j true:=fun j hj=>by
     rw[Array.getD_eq_getD_getElem?,Array.getElem?_setIfInBounds,if_neg (Ne.symm hj),<- Array.getD_eq_getD_getElem?]
    have aA:(listed.setIfInBounds i true).getD i true=true:=by
     rw[Array.getD_eq_getD_getElem?,Array.getElem?_setIfInBounds];simp[U.sz,aF]
    unfold wpOpIn;simp only[ho];have hw:Region.wanted o (yielded ops a.tmps)=true:=by simp[Region.wanted,hg]
    rw[if_pos hw];by_cases aY:i=m
    ·subst aY
     have bt:listed.getD c true=true:=by
      obtain⟨e,he,h1,h2⟩:=ab rfl c bu;rw[<- h1];exact iB (z e he h2)
     rw[if_pos bt]at J;subst J;refine Oper.wpIn_mono (K:=fun ag ap=>Q .normal ag ap) (fun ag ap hq=>fin u _ ag ap (fun k hk=>?_) hq) (hl o a ho U.sl fun j oj d hj D hd=>?_)
     ·by_cases bi:k=i
      ·subst bi;exact aA
      ·obtain⟨e,he,rfl,hb⟩:=ab rfl k (by omega);have h1:=z e he hb;rw[I _ bi];exact iB h1
     ·obtain⟨e,he,rfl,hb⟩:=ab rfl j hj;exact U.done e.on oj d hj D hd (iB (z e he hb))
    ·have a1:i <m:=by omega
     obtain⟨d,hd,b1,bZ,bS⟩:=bf aY
     have an:∀j d,Q4 ops i j d=true->a.eval (.tmp d)=val j:=fun j d' hj=>by
      unfold Q4 at hj;rw[ho]at hj
      cases D:ops[j]? with
      |none=>rw[D]at hj;cases hj
      |some oj=>
       rw[D]at hj;simp only[Bool.and_eq_true]at hj;obtain⟨h1,h2⟩:=hj;obtain⟨e,b2,h3⟩:=List.any_eq_true.1 h1;have he:e∈o.after:=by simpa using b2
       rw[Bool.and_eq_true,Nat.beq_eq]at h3;obtain⟨rfl,hb⟩:=h3
       have bH:oj.dst=some d':=by
        cases hx:oj.dst with
        |none=>rw[hx]at h2;cases h2
        |some y=>rw[hx]at h2;simp only[Nat.beq_eq]at h2;rw[h2]
       exact U.done e.on oj d' (by have:=aN e he;omega) D bH (iB (z e he hb))
     have step:∃aB,(execOp a.eval o).run P wn=.ok (.value (val i)) aB/\((listed.setIfInBounds i true).getD c true=true->(listed.setIfInBounds i true).getD b true=true)/\(aB=if(listed.setIfInBounds i true).getD c true=true then wc else if(listed.setIfInBounds i true).getD b true=true then wb else wd):=by
      by_cases au:i=b
      ·subst au
       have be:listed.getD c true=false:=by
        rw[<- Bool.not_eq_true];intro h;rw[aR h]at ao;cases ao
       rw[if_neg (by rw[be];simp),if_neg (by rw[ao];simp)]at J;subst J;refine⟨wb,ch o ho a U.sl an,fun _=>aA,?_⟩;rw[I c (by omega),be,aA];rfl
      ·by_cases av:i=c
       ·subst av
        have a6:listed.getD b true=true:=by
         rw[ho]at bd;obtain⟨e,he,h1⟩:=Array.any_eq_true'.1 bd;rw[Bool.and_eq_true,Nat.beq_eq]at h1;rw[<- h1.1];exact iB (z e he h1.2)
        rw[if_neg (by rw[ao];simp),if_pos a6]at J;subst J;refine⟨wc,cj o ho a U.sl an,fun _=>by rw[I b (by omega)];exact a6,?_⟩;rw[aA];rfl
       ·refine⟨wn,hx i o wn a1 au av ho ?_ a U.sl an,fun h=>?_,?_⟩
        ·rw[J];split
         ·exact bm
         ·split
          ·exact bl
          ·exact bo
        ·rw[I c (Ne.symm av)]at h;rw[I b (Ne.symm au)];exact aR h
        ·rw[I c (Ne.symm av),I b (Ne.symm au)];exact J
     obtain⟨aB,b3,bb,bk⟩:=step;refine cN.wpIn (R:=fun v w'=>v=val i/\w'=aB) (by unfold cN;rw[b3];exact⟨rfl,rfl⟩) fun v w' ⟨hv,cc⟩=>?_;subst hv;rw[cc];refine ih _ _ _ b7 ⟨⟨by rw[bR];exact U.sl.sz,by rw[put_defers];exact U.sl.df,fun p hp=>?_⟩,by simp[U.sz],?_,fun j oj dj hj D ad bj=>?_⟩ bb bk
     ·rw[cg (by rw[hd];intro e;cases e;exact bZ (List.mem_map.2 ⟨p,hp,rfl⟩))];exact U.sl.kp p hp
     ·rw[I m (fun e=>aY e.symm)];exact U.last
     ·by_cases aX:i=j
      ·subst aX;rw[ho]at D;cases D;rw[hd]at ad;cases ad;rw[hd];exact fx (by rw[U.sl.sz];exact b1)
      ·rw[I j (Ne.symm aX)]at bj;have:=bS j oj dj hj aX D ad;show(a.put o.dst (val i)).tmps.getD dj undef=val j
       rw[cg (by rw[hd];intro e;cases e;exact this rfl)];exact U.done j oj dj hj D ad bj
 have V:∀k,k <ops.size->(Array.replicate ops.size false).getD k true=false:=fun k hk=>by
  rw[Array.getD_eq_getD_getElem?,Array.getElem?_replicate,if_pos hk];rfl
 refine cl _ _ _ _ ?_ ⟨hk,by simp,V m (by omega),fun i o d hi ho hd hl=>?_⟩ (fun h=>?_) ?_
 ·unfold fC;exact Nat.le_trans (List.countP_le_length) (by simp)
 ·rw[V i (by omega)]at hl;cases hl
 ·rw[V c (by omega)]at h;cases h
 ·rw[V c (by omega),V b (by omega)];rfl
def Ru{P:Program}{dn n m id:Nat}{ops:Array Oper}{Q:Exit->Act->World->Prop}{a:Act}{w v:World}{kp:List (Nat×Value)}(val:Nat->Value)(hm:P.follows .mixedOrders=true)(G:{w with drawn:=w.drawn+1}=v)(hk:Sl n kp a)(U:Ra ops m n (kp.map (·.1))=true)(y:(Rh ops 1 2&&Nat.blt 2 m)=true)
  (hx:∀i o,i <m->ops[i]?=some o->∀u,Sl n kp u->(∀j d,Q4 ops i j d=true->u.eval (.tmp d)=val j)->(execOp u.eval o).run P v=.ok (.value (val i)) v)
  (hl:∀o u,ops[m]?=some o->Sl n kp u->(∀j J d,j <m->ops[j]?=some J->J.dst=some d->u.eval (.tmp d)=val j)->o.wpIn (Fw none) dn P u v (fun D I=>Q .normal D I) Q):(Code.region id ops true).wpIn (Fw none) dn P Q a w:=by
 have h2:=y;rw[Bool.and_eq_true,Nat.blt_eq]at h2;exact Rv (wb:=v) (wc:=v) 1 2 (fun x=>x=v) val hm G hk U y rfl rfl rfl (fun i o w' Z _ _ z V u hs hd=>by rw[V];exact hx i o Z z u hs hd) (fun o z=>hx 1 o (by omega) z) (fun o z=>hx 2 o h2.2 z) hl
def Rt{us:List Value}{q:Nat}{v:Value}(hq:q <us.length){j:Nat}:(fw us q [v])[j]?=if j=q then some v else us[j]?:=by
 rw[zE _ _ _ _ (by simp;omega)];by_cases h:j=q
 ·subst h;simp
 ·rw[if_neg (by simp;omega),if_neg h]
def Q2{w:World}{T:TypeId}{sz b n c:Nat}{us:List Value}(h:w.ownsRow 0 T sz (.slice (some ⟨b,0,none⟩) n c) n us):b <w.heap.size:=by
 rcases h.2 with⟨e,_⟩|⟨g,cap,u,e,_,v,_⟩
 ·cases e
 ·cases e;exact(Array.getElem?_eq_some_iff.1 v).1
def RS{us:List Value}{y:List Int}{q:Nat}{v:Int}(h:∀(j:Nat) (z:Int),y[j]?=some z->us[j]?=some (Value.int .i64 z))(hl:us.length=y.length)(hq:q <y.length):(∀(j:Nat) (z:Int),(y.set q v)[j]?=some z->(fw us q [.int .i64 v])[j]?=some (Value.int .i64 z))/\(fw us q [.int .i64 v]).length=(y.set q v).length:=by
 refine⟨fun j z u=>?_,by rw[EE,List.length_set,hl]⟩;rw[Rt (by omega)];by_cases e:j=q
 ·subst e;rw[List.getElem?_set_self hq]at u;cases u;rw[if_pos rfl]
 ·rw[List.getElem?_set_ne (Ne.symm e)]at u;rw[if_neg e];exact h j z u
def RV{M:Nat->Prop}{w0 w:World}{es:List AV}{us:List Value}{q:Nat}{z:AV}{v:Value}(h:∀(j:Nat) (x:AV),es[j]?=some x->∃u:Value,us[j]?=some u/\VR M w0 x u)(hb:Below w0.heap.size w0 w)(hl:us.length=es.length)(hq:q <es.length)(hv:VR (fun b=>M b\/w0.heap.size<=b) w z v):∀(j:Nat) (x:AV) (u:Value),(es.set q z)[j]?=some x->(fw us q [v])[j]?=some u->VR (fun b=>M b\/w0.heap.size<=b) w x u:=fun j x u D y=>by
 rw[Rt (by omega)]at y;by_cases e:j=q
 ·subst e;rw[List.getElem?_set_self hq]at D;cases D;rw[if_pos rfl]at y;cases y;exact hv
 ·rw[List.getElem?_set_ne (Ne.symm e)]at D;rw[if_neg e]at y;obtain⟨V,I,J⟩:=h j x D;rw[I]at y;cases y;exact VR.on hb.size (fun b G U=>⟨.inl U,hb.block b G⟩) J
structure Mv (w0 w:World) (p0 p1:Nat) (us rus:List Value):Prop where
 b:Below w0.heap.size w0 w
 e:w.ownsRow 0 53 13 (.slice (some ⟨p0,0,none⟩) 1 1) 1 us
 r:w.ownsRow 0 49 3 (.slice (some ⟨p1,0,none⟩) 1 1) 1 rus
def Mv.below{w0 w w':World}{v y:Nat}{us u:List Value}(h:Mv w0 w v y us u)(hb:Below w.heap.size w w'):Mv w0 w' v y us u:=⟨h.b.trans (hb.mono h.b.size),Ep h.e hb,Ep h.r hb⟩
theorem Mv.grown{w0 w w':World}{v y g:Nat}{us u:List Value}(h:Mv w0 w v y us u)(hg:w.grownBy w' (some g))(h0:w0.heap.size<=g)(D:v≠g)(G:y≠g):Mv w0 w' v y us u:=⟨h.b.grown hg h.b.size (fun b z=>by cases z;exact h0),h.e.kept hg (.inr fun e=>D (Option.some.inj e)),h.r.kept hg (.inr fun e=>G (Option.some.inj e))⟩
theorem Mv.drew{w0 w:World}{v y:Nat}{us u:List Value}(h:Mv w0 w v y us u):Mv w0 {w with drawn:=w.drawn+1} v y us u:=⟨Below.drew h.b,h.e,h.r⟩
def Sh{M:Nat->Prop}{l:aO}{w0:World}{v0:Value}{us:Array Value}(hv:VR M w0 (p8 l) v0)(hl:l.length<=1000000)(hS:∀x∈l,x.length<=1000000/\∀y∈x,y.length<=1000000){i k r t:Nat}{x:List (List Int)}{y:List Int}{g n n' a:Int}(fS:us.size=13)(e0:us[0]?=some (.int .i64 r))(e6:us[6]?=some (.int .i64 g))(e7:us[7]?=some (.int .i64 i))(e8:us[8]?=some (.int .i64 k))(e9:us[9]?=some (.int .i64 a))(hI:us[10]?=some (.int .i64 t))
  (hx:l[i]?=some x)(hy:x[k]?=some y)(hn:y[r]?=some n)(e4:(y.set r (IntKind.i64.wrap (n - a)))[t]?=some n'):Calls Tryz.prog 52 #[v0,.agg us] w0 fun e w'=>∃v,e=.returned v/\Below w0.heap.size w0 w'/\VR (fun b=>M b\/w0.heap.size<=b) w' (p8 (l.set i (x.set k ((y.set r (IntKind.i64.wrap (n - a))).set t (IntKind.i64.wrap (n'+a)))))) v:=by
 have aG:Tryz.prog.follows .mixedOrders=true:=by kernel_rfl
 have fz:eQ Tryz.prog 36=some (55,1,24):=by kernel_rfl
 have ft:eQ Tryz.prog 55=some (22,1,24):=by kernel_rfl
 have fm:eQ Tryz.prog 22=some (3,1,8):=by kernel_rfl
 have eM:=aC hx;have eR:=aC hy;have fi:=aC hn;have en:=aC e4;rw[List.length_set]at en;obtain⟨jf,h6⟩:=hS x (List.mem_of_getElem? hx);have jn:=h6 y (List.mem_of_getElem? hy);obtain⟨b0,o0,c0,u0,fZ,hN,hZ,dr⟩:=RZ hv (mG hx);rw[mH]at fZ;obtain⟨b2,o2,c2,u2,dc,hO,h5,gb⟩:=RZ dr (lf hy);rw[H3]at dc;have hJ:aU l=(l.map jp).map fun x=>[x]:=by rw[List.map_map];rfl
 have hK:bA x=(x.map aD).map fun x=>[x]:=by rw[List.map_map];rfl
 have hL:aL y=(y.map (AV.int .i64)).map fun x=>[x]:=by rw[List.map_map];rfl
 -- what is read before anything is made
 refine JP Tryz.func52 rfl ?_
 have J:=Sl.start (us:=#[v0,.agg us]) (n:=72) (m:=70) (kp:=[(0,v0),(1,.agg us)]) rfl (fun p hp=>by
  simp only[List.mem_cons,List.not_mem_nil,or_false]at hp;rcases hp with rfl|rfl <;>rfl)
 show Code.wpIn _ _ _ _ _ {tmps:=#[v0,.agg us]++Array.replicate 70 undef,defers:=[]} _
 generalize({tmps:=#[v0,.agg us]++Array.replicate 70 undef,defers:=[]}:Act)=A at J⊢;refine wpIn_seq ?_;refine wpIn_region_lit ?_;have hB:=(Below.refl w0.heap.size w0).alloc (Nat.le_refl _) (.cells us 53);have aN:=RF (w:=w0) (T:=53) fS;have ch:w0.heap.size <(w0.alloc (.cells us 53)).heap.size:=by show _ <(_:Array _).size;simp
 obtain⟨p0,c8⟩:∃p,w0.heap.size=p:=⟨_,rfl⟩;refine cD J rfl rfl (by decide) (v:=pt p0 0) (w':=w0.alloc (.cells us 53)) (by rw[<- c8];exact R8 rfl (J.at (by simp[bQ]))) fun A J=>?_;rw[c8]at aN ch;generalize w0.alloc (.cells us 53)=w1 at hB aN ch⊢;refine cD J rfl rfl (by decide) (v:=.slice none 0 0) (n_ rfl rfl) fun A J=>?_;show Code.wpIn _ _ _ _ _ _ _
 refine wpIn_seq ?_;refine wpIn_region_lit ?_;have Bm:∀{w:World} {q:Nat} {u:Value},w.ownsRow 0 53 13 (.slice (some ⟨p0,0,none⟩) 1 1) 1 us.toList->us[q]?=some u->w.cell? ⟨p0,q,none⟩=some u:=fun h e=>Q6 h (by rw[Array.getElem?_toList];exact e);refine cD J rfl rfl (by decide) (v:=pt p0 6) (QV (off:=6) rfl (by kernel_rfl) (J.at (v:=pt p0 0) (by simp[bQ])) rfl) fun A J=>?_;refine cD J rfl rfl (by decide) (v:=pt p0 6) (QV (off:=0) rfl (by kernel_rfl) (J.at (v:=pt p0 6) (by simp[bQ])) rfl) fun A J=>?_
 refine cD J rfl rfl (by decide) (v:=.agg #[.int .i64 g,.int .i64 i,.int .i64 k]) (Cr rfl (J.at (v:=pt p0 6) (by simp[bQ])) (by
  have:=wg (P:=Tryz.prog) (t:=49) (n:=3) (b:=p0) (o:=6) (w:=w1) (us:=fun j=>match j with|0=>.int .i64 g|1=>.int .i64 i|_=>.int .i64 k) (by kernel_rfl) (fun j hj=>by
   match j,hj with
   |0,_=>exact Bm aN e6
   |1,_=>exact Bm aN e7
   |2,_=>exact Bm aN e8)
  exact this)) fun A J=>?_
 obtain⟨iR,zR,eL,gd,cj⟩:∃i z,Tryz.prog.info? 49=some i/\i.zero=some z/\z.cells.size=3:=by
  have h:((Tryz.prog.info? 49).bind fun i=>i.zero.map fun z=>z.cells.size)=some 3:=by kernel_rfl
  cases hi:Tryz.prog.info? 49 with
  |none=>rw[hi]at h;cases h
  |some i=>
   rw[hi,Option.bind_some]at h
   cases hz:i.zero with
   |none=>rw[hz]at h;cases h
   |some z=>
    rw[hz]at h;exact⟨i,z,rfl,hz,Option.some.inj h⟩
 have b7:=hB.alloc (by have:=hB.size;omega) (.cells zR.cells 49);have bH:=Ep aN ((Below.refl w1.heap.size w1).alloc (Nat.le_refl _) (.cells zR.cells 49));have cl:=RF (w:=w1) (T:=49) cj;have ei:w1.heap.size <(w1.alloc (.cells zR.cells 49)).heap.size:=by show _ <(_:Array _).size;simp
 obtain⟨p1,c_⟩:∃p,w1.heap.size=p:=⟨_,rfl⟩;refine cD J rfl rfl (by decide) (v:=pt p1 0) (w':=w1.alloc (.cells zR.cells 49)) (by rw[<- c_];exact R9 rfl eL gd) fun A J=>?_;rw[c_]at cl ei ch;clear aN;generalize w1.alloc (.cells zR.cells 49)=w2 at b7 bH cl ei⊢
 have gg:zR.cells.toList.length=3:=by
  rw[Array.length_toList];exact cj
 obtain⟨w3,bt,bS,bj⟩:=Er cl (q:=0) (vs:=[.int .i64 g,.int .i64 i,.int .i64 k]) (by rw[gg];simp) (fun v hv=>by
  simp only[List.mem_cons,List.not_mem_nil,or_false]at hv;rcases hv with rfl|rfl|rfl <;>rfl) Tryz.prog
 refine SF J rfl rfl (w':=w3) (Q7 (n:=3) rfl (by kernel_rfl:bn Tryz.prog 49=some (true,3)) (J.at (v:=pt p1 0) (by simp[bQ])) (J.at (v:=.agg #[.int .i64 g,.int .i64 i,.int .i64 k]) (by simp[bQ])) rfl bt) fun A J=>?_;have aN:=bH.kept bj (.inr (fun e=>by have e':(some p0:Option Nat)=some p1:=e;simp at e';omega));have cc:=b7.grown bj (by have:=b7.size;omega) (fun b hb=>by cases hb;have:=hB.size;omega);have ix:p0 <w3.heap.size:=by have:=bj.size;omega
 have iJ:p1 <w3.heap.size:=by have:=bj.size;omega
 have gf:zR.cells.toList.length=3:=by rw[Array.length_toList,cj]
 have aX:∀{w:World},w.ownsRow 0 49 3 (.slice (some ⟨p1,0,none⟩) 1 1) 1 (fw zR.cells.toList 0 [.int .i64 g,.int .i64 i,.int .i64 k])->w.cell? ⟨p1,1,none⟩=some (.int .i64 i)/\w.cell? ⟨p1,2,none⟩=some (.int .i64 k):=fun h=>⟨Q6 h (by rw[zE _ _ _ _ (by simp[gf])];rfl),Q6 h (by rw[zE _ _ _ _ (by simp[gf])];rfl)⟩;generalize fw zR.cells.toList 0 [.int .i64 g,.int .i64 i,.int .i64 k]=ih at bS aX;have jo:p0≠p1:=by omega
 have iI:w0.heap.size<=p0:=by omega
 have iL:w0.heap.size<=p1:=by have:=hB.size;omega
 clear hB b7 bH cl bt bj ch ei cj eL gd;have ey:=Below.size cc;show Code.wpIn _ _ _ _ _ _ _
 refine wpIn_seq ?_;refine wpIn_region_lit ?_;have ad:Below w3.heap.size w3 (w3.alloc (.cells #[] 55)):=(Below.refl _ _).alloc (Nat.le_refl _) _;refine cD J rfl rfl (by decide) (v:=.slice (some ⟨w3.heap.size,0,none⟩) 0 0) (w':=w3.alloc (.cells #[] 55)) (Rk rfl fz) fun A J=>?_;generalize w3.alloc (.cells #[] 55)=w4 at ad⊢;have et:=cc.trans (ad.mono ey);refine cD J rfl rfl (by decide) (v:=v0) (lw rfl (J.at (by simp[bQ]))) fun A J=>?_
 obtain⟨g1,c1,w5,T1,b5,aB,hT,ax,dY,be,hX⟩:=Ri (P:=Tryz.prog) (ty:=36) (p:=w3.heap.size) (wb:=w4) fz (by rw[<- hJ];exact hv) et (by rw[List.length_map];omega) (by rw[List.length_map];omega) (by omega) (fun z hz u hu=>by
  obtain⟨z',_,rfl⟩:=List.mem_map.1 hz;exact R0 hu)
 rw[List.length_map]at aB ax dY;refine cD J rfl rfl (by decide) (v:=sl g1 l.length c1) (w':=w5) (Cm rfl (J.at (v:=.slice (some ⟨w3.heap.size,0,none⟩) 0 0) (by simp[bQ])) (J.at (v:=v0) (by simp[bQ])) aB) fun A J=>?_;refine cD J rfl rfl (by decide) (v:=sl g1 l.length c1) (n_ rfl (J.at (by simp[bQ]))) fun A J=>?_;have fl:=ad.size;have iM:=be.size;have bb:=ad.trans (be.mono fl);have ev:=cc.trans (bb.mono ey);have Z:Mv w0 w5 p0 p1 us.toList ih:=⟨ev,Ep aN bb,Ep bS bb⟩;have h9:p0≠g1:=by omega
 have ic:p1≠g1:=by omega
 have cC:w0.heap.size<=g1:=by omega
 clear aB ad be et bb cc ev aN bS
 have gj:∀w:World,(Instr.indexAt 36 v0 (.int .i64 i)).run Tryz.prog w=.ok (pt b0 (o0+i)) w:=fun w=>by
  rw[fZ];have:=rJ (P:=Tryz.prog) (w:=w) (t:=36) (e:=55) (sz:=1) (b:=b0) (o:=o0) (n:=l.length) (c:=c0) (k:=.i64) (m:=(i:Int)) (by kernel_rfl) (by omega) (by simpa using eM);simpa using this
 have gr:∀w:World,(Instr.indexAt 36 (sl g1 l.length c1) (.int .i64 i)).run Tryz.prog w=.ok (pt g1 i) w:=fun w=>by
  have:=rJ (P:=Tryz.prog) (w:=w) (t:=36) (e:=55) (sz:=1) (b:=g1) (o:=0) (n:=l.length) (c:=c1+1) (k:=.i64) (m:=(i:Int)) (by kernel_rfl) (by omega) (by simpa using eM);simpa using this
 have h7:∀w:World,(Instr.indexAt 55 u0 (.int .i64 k)).run Tryz.prog w=.ok (pt b2 (o2+k)) w:=fun w=>by
  rw[dc];have:=rJ (P:=Tryz.prog) (w:=w) (t:=55) (e:=22) (sz:=1) (b:=b2) (o:=o2) (n:=x.length) (c:=c2) (k:=.i64) (m:=(k:Int)) (by kernel_rfl) (by omega) (by simpa using eR);simpa using this
 have bd:∀{w:World},Below w0.heap.size w0 w->w.cell? ⟨b0,o0+i,none⟩=some u0/\w.cell? ⟨b2,o2+k,none⟩=some u2:=fun h=>⟨(h.cell hN).trans hZ,(h.cell hO).trans h5⟩;show Code.wpIn _ _ _ _ _ _ _
 refine wpIn_seq ?_;obtain⟨U,ag⟩:∃U,{w5 with drawn:=w5.drawn+1}=U:=⟨_,rfl⟩;replace Z:=Z.drew;replace ax:World.ownsRow {w5 with drawn:=w5.drawn+1} 0 T1 1 (sl g1 l.length c1) l.length b5:=ax;rw[ag]at Z ax;have ad:Below U.heap.size U (U.alloc (.cells #[] 22)):=(Below.refl _ _).alloc (Nat.le_refl _) _;have a1:∀(o:Oper) (a:Act),o.op=.buildSlice 55 0 #[]->(execOp a.eval o).run Tryz.prog U=.ok (.value (.slice (some ⟨U.heap.size,0,none⟩) 0 0)) (U.alloc (.cells #[] 22)):=fun o a D=>Rk D ft;generalize U.alloc (.cells #[] 22)=wb at ad a1;have aA:=Z.below ad
 obtain⟨g3,c3,wc,T3,cp,aB,hU,I,ea,aM,hY⟩:=Ri (P:=Tryz.prog) (ty:=55) (p:=U.heap.size) (wb:=wb) ft (by rw[<- hK];exact dr) aA.b (by rw[List.length_map];omega) (by rw[List.length_map];omega) (by omega) (fun z hz u hu=>by
  obtain⟨z',_,rfl⟩:=List.mem_map.1 hz;exact R0 hu)
 rw[List.length_map]at aB I ea;have aR:=aA.below aM;have ek:=ad.size;have ej:=aM.size;have bl:=Q2 ax;replace ax:=Ep (Ep ax ad) aM;have q1:=(aX Z.r).1;have bZ:=(aX aA.r).1;have b1:=(aX aR.r).1;have q2:=(bd Z.b).1;have b3:=(bd aA.b).1;have b4:=(bd aR.b).1;have bm:=Q2 Z.e;have bo:=Q2 Z.r;have ia:p0≠g3:=by omega
 have ie:p1≠g3:=by omega
 have cR:w0.heap.size<=g3:=by have:=Z.b.size;omega
 have gN:g3≠g1:=by omega
 refine Rv (m:=11) (wb:=wb) (wc:=wc) 3 9 (fun w'=>w'.cell? ⟨p1,1,none⟩=some (.int .i64 i)/\w'.cell? ⟨b0,o0+i,none⟩=some u0) (fun qq=>match qq with
  |0=>sl g1 l.length c1
  |1=>pt p1 1
  |2=>.int .i64 i
  |3=>.slice (some ⟨U.heap.size,0,none⟩) 0 0
  |4=>v0
  |5=>pt p1 1
  |6=>.int .i64 i
  |7=>pt b0 (o0+i)
  |8=>u0
  |9=>sl g3 x.length c3
  |_=>pt g1 i) aG ag (J.sub (kp':=[(0,v0),(3,pt p0 0),(5,pt p1 0),(6,sl g1 l.length c1)]) (by simp[bQ])) (by kernel_rfl) (by kernel_rfl) ⟨q1,q2⟩ ⟨bZ,b3⟩ ⟨b1,b4⟩ ?_ ?_ ?_ ?_
 ·intro qq o w' hi dF dK D hG A' V hd
  match qq,hi,dF,dK,D with
  |0,_,_,_,D=>cases D;exact lw rfl (V.at (by simp))
  |1,_,_,_,D=>cases D;exact QV (off:=1) rfl (by kernel_rfl) (V.at (by simp)) rfl
  |2,_,_,_,D=>cases D;exact Cr rfl (hd 1 15 rfl) (p6 (n:=1) (by kernel_rfl) hG.1)
  |3,_,h1,h2,_=>exact absurd rfl h1
  |4,_,_,_,D=>cases D;exact lw rfl (V.at (by simp))
  |5,_,_,_,D=>cases D;exact QV (off:=1) rfl (by kernel_rfl) (V.at (by simp)) rfl
  |6,_,_,_,D=>cases D;exact Cr rfl (hd 5 19 rfl) (p6 (n:=1) (by kernel_rfl) hG.1)
  |7,_,_,_,D=>cases D;exact Cp rfl (hd 4 18 rfl) (hd 6 20 rfl) (gj w')
  |8,_,_,_,D=>cases D;exact Cr rfl (hd 7 21 rfl) (p6 (n:=1) (by kernel_rfl) hG.2)
  |9,_,h1,h2,_=>exact absurd rfl h2
  |10,_,_,_,D=>cases D;exact Cp rfl (hd 0 14 rfl) (hd 2 16 rfl) (gr w')
 ·intro o D A' V hd;cases D;exact a1 _ _ rfl
 ·intro o D A' V hd;cases D;exact Cm rfl (hd 3 17 rfl) (hd 8 22 rfl) aB
 ·intro o A' D V hd;have aT:o.op=.store 55 (.tmp 24) (.tmp 23):=by cases D;rfl
  have au:o.dst=none:=by cases D;rfl
  clear D;obtain⟨w6,an,G,al⟩:=Er ax (q:=i) (vs:=[sl g3 x.length c3]) (by rw[dY];simp;omega) (fun v hv=>by rw[List.mem_singleton.1 hv];rfl) Tryz.prog;have av:=Q7 (P:=Tryz.prog) (a:=A') (w:=wc) (w':=w6) (n:=1) aT (by kernel_rfl:bn Tryz.prog 55=some (false,1)) (hd 10 _ 24 (by decide) rfl rfl) (hd 9 _ 23 (by decide) rfl rfl) rfl an;refine cN.wpIn (R:=fun xx yy=>yy=w6) (by unfold cN;rw[av]) fun xx yy ap=>?_;rw[ap];clear ap;rw[au];have J:Sl 72 [(0,v0),(3,pt p0 0),(5,pt p1 0),(6,sl g1 l.length c1)] (A'.put none xx):=V;clear V;generalize A'.put none xx=A at J⊢;clear hd av an;replace Z:=aR.grown al cC h9 ic;replace I:=I.kept al (.inr fun e=>gN (Option.some.inj e));clear aA aR ad aM a1 aB ax al q1 bZ b1 q2 b3 b4 ek ej bm bo bl ag;show Code.wpIn _ _ _ _ _ _ _
  refine wpIn_seq ?_;obtain⟨U,ag⟩:∃U,{w6 with drawn:=w6.drawn+1}=U:=⟨_,rfl⟩;replace Z:=Z.drew;replace G:World.ownsRow {w6 with drawn:=w6.drawn+1} 0 T1 1 (sl g1 l.length c1) l.length (fw b5 i [sl g3 x.length c3]):=G;replace I:World.ownsRow {w6 with drawn:=w6.drawn+1} 0 T3 1 (sl g3 x.length c3) x.length cp:=I;rw[ag]at Z G I;have ad:Below U.heap.size U (U.alloc (.cells #[] 3)):=(Below.refl _ _).alloc (Nat.le_refl _) _;have a1:∀(o:Oper) (a:Act),o.op=.buildSlice 22 0 #[]->(execOp a.eval o).run Tryz.prog U=.ok (.value (.slice (some ⟨U.heap.size,0,none⟩) 0 0)) (U.alloc (.cells #[] 3)):=fun o a D=>Rk D fm;generalize U.alloc (.cells #[] 3)=wb at ad a1;have aA:=Z.below ad
  obtain⟨g4,c4,wc,T4,er,aB,hV,aF,eb,aM,e5⟩:=Ri (P:=Tryz.prog) (ty:=22) (p:=U.heap.size) (wb:=wb) fm (by rw[<- hL];exact gb) aA.b (by rw[List.length_map];omega) (by rw[List.length_map];omega) (by omega) (fun z hz u hu=>by
   obtain⟨z',_,rfl⟩:=List.mem_map.1 hz;cases hu;rfl)
  rw[List.length_map]at aB aF eb;have aR:=aA.below aM;have ek:=ad.size;have ej:=aM.size;have bl:=Q2 G;have e3:=Q2 I;replace G:=Ep (Ep G ad) aM;replace I:=Ep (Ep I ad) aM;obtain⟨q1,q3⟩:=aX Z.r;obtain⟨bZ,hA⟩:=aX aA.r;obtain⟨b1,hD⟩:=aX aR.r;obtain⟨q2,q4⟩:=bd Z.b;obtain⟨b3,hE⟩:=bd aA.b;obtain⟨b4,hF⟩:=bd aR.b;have bm:=Q2 Z.e;have bo:=Q2 Z.r;have gv:p0≠g4:=by omega
  have gA:p1≠g4:=by omega
  have bk:w0.heap.size<=g4:=by have:=Z.b.size;omega
  have gY:g1≠g4:=by omega
  have eo:g3≠g4:=by omega
  have dd:∀j z,y[j]?=some z->er[j]?=some (Value.int .i64 z):=fun j z hj=>by
   obtain⟨u,h1,h2⟩:=e5 j (.int .i64 z) (by rw[List.getElem?_map,hj];rfl);cases h2;exact h1
  refine Rv (m:=11) (wb:=wb) (wc:=wc) 0 10 (fun w'=>w'.cell? ⟨p1,1,none⟩=some (.int .i64 i)/\w'.cell? ⟨b0,o0+i,none⟩=some u0/\w'.cell? ⟨p1,2,none⟩=some (.int .i64 k)/\w'.cell? ⟨b2,o2+k,none⟩=some u2) (fun qq=>match qq with
   |0=>.slice (some ⟨U.heap.size,0,none⟩) 0 0
   |1=>v0
   |2=>pt p1 1
   |3=>.int .i64 i
   |4=>pt b0 (o0+i)
   |5=>u0
   |6=>pt p1 2
   |7=>.int .i64 k
   |8=>pt b2 (o2+k)
   |9=>u2
   |_=>sl g4 y.length c4) aG ag (J.sub (kp':=[(0,v0),(3,pt p0 0),(5,pt p1 0),(6,sl g1 l.length c1)]) (by simp[bQ])) (by kernel_rfl) (by kernel_rfl) ⟨q1,q2,q3,q4⟩ ⟨bZ,b3,hA,hE⟩ ⟨b1,b4,hD,hF⟩ ?_ ?_ ?_ ?_
  ·intro qq o w' hi dF dK D hG A' V hd
   match qq,hi,dF,dK,D with
   |0,_,h1,h2,_=>exact absurd rfl h1
   |1,_,_,_,D=>cases D;exact lw rfl (V.at (by simp))
   |2,_,_,_,D=>cases D;exact QV (off:=1) rfl (by kernel_rfl) (V.at (by simp)) rfl
   |3,_,_,_,D=>cases D;exact Cr rfl (hd 2 27 rfl) (p6 (n:=1) (by kernel_rfl) hG.1)
   |4,_,_,_,D=>cases D;exact Cp rfl (hd 1 26 rfl) (hd 3 28 rfl) (gj w')
   |5,_,_,_,D=>cases D;exact Cr rfl (hd 4 29 rfl) (p6 (n:=1) (by kernel_rfl) hG.2.1)
   |6,_,_,_,D=>cases D;exact QV (off:=2) rfl (by kernel_rfl) (V.at (by simp)) rfl
   |7,_,_,_,D=>cases D;exact Cr rfl (hd 6 31 rfl) (p6 (n:=1) (by kernel_rfl) hG.2.2.1)
   |8,_,_,_,D=>cases D;exact Cp rfl (hd 5 30 rfl) (hd 7 32 rfl) (h7 w')
   |9,_,_,_,D=>cases D;exact Cr rfl (hd 8 33 rfl) (p6 (n:=1) (by kernel_rfl) hG.2.2.2)
   |10,_,h1,h2,_=>exact absurd rfl h2
  ·intro o D A' V hd;cases D;exact a1 _ _ rfl
  ·intro o D A' V hd;cases D;exact Cm rfl (hd 0 25 rfl) (hd 9 34 rfl) aB
  ·intro o A' D V hd;have aT:o.op=.assign (.tmp 35):=by cases D;rfl
   have au:o.dst=some 7:=by cases D;rfl
   clear D;have av:=n_ (P:=Tryz.prog) (a:=A') (w:=wc) aT (hd 10 _ 35 (by decide) rfl rfl);refine cN.wpIn (R:=fun xx yy=>xx=sl g4 y.length c4/\yy=wc) (by unfold cN;rw[av];exact⟨rfl,rfl⟩) fun xx yy ap=>?_;rw[ap.1,ap.2];clear ap;rw[au];have J:=V.put (d:=7) (v:=sl g4 y.length c4) (by decide);clear V;generalize A'.put (some 7) (sl g4 y.length c4)=A at J⊢;clear hd av;replace Z:=aR;clear aA aR ad aM a1 aB q1 bZ b1 q2 b3 b4 q3 hA hD q4 hE hF ek ej bm bo bl e3 ag e5;show Code.wpIn _ _ _ _ _ _ _
   refine wpIn_seq ?_;obtain⟨U,ag⟩:∃U,{wc with drawn:=wc.drawn+1}=U:=⟨_,rfl⟩;replace Z:=Z.drew;replace G:World.ownsRow {wc with drawn:=wc.drawn+1} 0 T1 1 (sl g1 l.length c1) l.length (fw b5 i [sl g3 x.length c3]):=G;replace I:World.ownsRow {wc with drawn:=wc.drawn+1} 0 T3 1 (sl g3 x.length c3) x.length cp:=I;replace aF:World.ownsRow {wc with drawn:=wc.drawn+1} 0 T4 1 (sl g4 y.length c4) y.length er:=aF;rw[ag]at Z G I aF;have aY:=Bm Z.e e0;have bf:=Bm Z.e e9;have bi:=Q6 aF (dd r n hn)
   have a6:(Instr.indexAt 22 (sl g4 y.length c4) (.int .i64 r)).run Tryz.prog U=.ok (pt g4 r) U:=by
    have:=rJ (P:=Tryz.prog) (w:=U) (t:=22) (e:=3) (sz:=1) (b:=g4) (o:=0) (n:=y.length) (c:=c4+1) (k:=.i64) (m:=(r:Int)) (by kernel_rfl) (by omega) (by simpa using fi);simpa using this
   refine Ru (m:=13) (fun qq=>match qq with
    |0=>sl g4 y.length c4
    |1=>pt p0 0
    |2=>.int .i64 r
    |3=>sl g4 y.length c4
    |4=>pt p0 0
    |5=>.int .i64 r
    |6=>pt g4 r
    |7=>.int .i64 n
    |8=>pt p0 6
    |9=>pt p0 9
    |10=>.int .i64 a
    |11=>.int .i64 (IntKind.i64.wrap (n - a))
    |_=>pt g4 r) aG ag (J.sub (kp':=[(0,v0),(3,pt p0 0),(5,pt p1 0),(6,sl g1 l.length c1),(7,sl g4 y.length c4)]) (by simp[bQ])) (by kernel_rfl) (by kernel_rfl) ?_ ?_
   ·intro qq o hi D A' V hd
    match qq,hi,D with
    |0,_,D=>cases D;exact lw rfl (V.at (by simp))
    |1,_,D=>cases D;exact QV (off:=0) rfl (by kernel_rfl) (V.at (by simp)) rfl
    |2,_,D=>cases D;exact Cr rfl (hd 1 37 rfl) (p6 (n:=1) (by kernel_rfl) aY)
    |3,_,D=>cases D;exact lw rfl (V.at (by simp))
    |4,_,D=>cases D;exact QV (off:=0) rfl (by kernel_rfl) (V.at (by simp)) rfl
    |5,_,D=>cases D;exact Cr rfl (hd 4 40 rfl) (p6 (n:=1) (by kernel_rfl) aY)
    |6,_,D=>cases D;exact Cp rfl (hd 3 39 rfl) (hd 5 41 rfl) a6
    |7,_,D=>cases D;exact Cr rfl (hd 6 42 rfl) (p6 (n:=1) (by kernel_rfl) bi)
    |8,_,D=>cases D;exact QV (off:=6) rfl (by kernel_rfl) (V.at (by simp)) rfl
    |9,_,D=>cases D;exact QV (off:=3) rfl (by kernel_rfl) (hd 8 44 rfl) rfl
    |10,_,D=>cases D;exact Cr rfl (hd 9 45 rfl) (p6 (n:=1) (by kernel_rfl) bf)
    |11,_,D=>cases D;exact Sa rfl (hd 7 43 rfl) (hd 10 46 rfl)
    |12,_,D=>cases D;exact Cp rfl (hd 0 36 rfl) (hd 2 38 rfl) a6
   ·intro o A' D V hd;have aT:o.op=.store 3 (.tmp 48) (.tmp 47):=by cases D;rfl
    have au:o.dst=none:=by cases D;rfl
    clear D;obtain⟨w8,an,ao,al⟩:=Er aF (q:=r) (vs:=[.int .i64 (IntKind.i64.wrap (n - a))]) (by rw[eb];simp;omega) (fun v hv=>by rw[List.mem_singleton.1 hv];rfl) Tryz.prog;have av:=Q7 (P:=Tryz.prog) (a:=A') (w:=U) (w':=w8) (n:=1) aT (by kernel_rfl:bn Tryz.prog 3=some (false,1)) (hd 12 _ 48 (by decide) rfl rfl) (hd 11 _ 47 (by decide) rfl rfl) rfl an;refine cN.wpIn (R:=fun xx yy=>yy=w8) (by unfold cN;rw[av]) fun xx yy ap=>?_;rw[ap];clear ap;rw[au];have J:Sl 72 [(0,v0),(3,pt p0 0),(5,pt p1 0),(6,sl g1 l.length c1),(7,sl g4 y.length c4)] (A'.put none xx):=V;clear V;generalize A'.put none xx=A at J⊢;clear hd av an;replace Z:=Z.grown al bk gv gA;replace G:=G.kept al (.inr fun e=>gY (Option.some.inj e));replace I:=I.kept al (.inr fun e=>eo (Option.some.inj e));obtain⟨bu,cf⟩:=RS (v:=IntKind.i64.wrap (n - a)) dd eb fi;rw[List.length_set]at cf;generalize fw er r [.int .i64 (IntKind.i64.wrap (n - a))]=hH at ao bu cf;clear al aY bf bi a6 ag aF;show Code.wpIn _ _ _ _ _ _ _
    refine wpIn_seq ?_;obtain⟨U,ag⟩:∃U,{w8 with drawn:=w8.drawn+1}=U:=⟨_,rfl⟩;replace Z:=Z.drew;replace G:World.ownsRow {w8 with drawn:=w8.drawn+1} 0 T1 1 (sl g1 l.length c1) l.length (fw b5 i [sl g3 x.length c3]):=G;replace I:World.ownsRow {w8 with drawn:=w8.drawn+1} 0 T3 1 (sl g3 x.length c3) x.length cp:=I;replace ao:World.ownsRow {w8 with drawn:=w8.drawn+1} 0 T4 1 (sl g4 y.length c4) y.length hH:=ao;rw[ag]at Z G I ao;have aY:=Bm Z.e hI;have bf:=Bm Z.e e9;have bi:=Q6 ao (bu t n' e4)
    have a6:(Instr.indexAt 22 (sl g4 y.length c4) (.int .i64 t)).run Tryz.prog U=.ok (pt g4 t) U:=by
     have:=rJ (P:=Tryz.prog) (w:=U) (t:=22) (e:=3) (sz:=1) (b:=g4) (o:=0) (n:=y.length) (c:=c4+1) (k:=.i64) (m:=(t:Int)) (by kernel_rfl) (by omega) (by simpa using en);simpa using this
    refine Ru (m:=13) (fun qq=>match qq with
     |0=>sl g4 y.length c4
     |1=>pt p0 10
     |2=>.int .i64 t
     |3=>sl g4 y.length c4
     |4=>pt p0 10
     |5=>.int .i64 t
     |6=>pt g4 t
     |7=>.int .i64 n'
     |8=>pt p0 6
     |9=>pt p0 9
     |10=>.int .i64 a
     |11=>.int .i64 (IntKind.i64.wrap (n'+a))
     |_=>pt g4 t) aG ag (J.sub (kp':=[(0,v0),(3,pt p0 0),(5,pt p1 0),(6,sl g1 l.length c1),(7,sl g4 y.length c4)]) (by simp[bQ])) (by kernel_rfl) (by kernel_rfl) ?_ ?_
    ·intro qq o hi D A' V hd
     match qq,hi,D with
     |0,_,D=>cases D;exact lw rfl (V.at (by simp))
     |1,_,D=>cases D;exact QV (off:=10) rfl (by kernel_rfl) (V.at (by simp)) rfl
     |2,_,D=>cases D;exact Cr rfl (hd 1 50 rfl) (p6 (n:=1) (by kernel_rfl) aY)
     |3,_,D=>cases D;exact lw rfl (V.at (by simp))
     |4,_,D=>cases D;exact QV (off:=10) rfl (by kernel_rfl) (V.at (by simp)) rfl
     |5,_,D=>cases D;exact Cr rfl (hd 4 53 rfl) (p6 (n:=1) (by kernel_rfl) aY)
     |6,_,D=>cases D;exact Cp rfl (hd 3 52 rfl) (hd 5 54 rfl) a6
     |7,_,D=>cases D;exact Cr rfl (hd 6 55 rfl) (p6 (n:=1) (by kernel_rfl) bi)
     |8,_,D=>cases D;exact QV (off:=6) rfl (by kernel_rfl) (V.at (by simp)) rfl
     |9,_,D=>cases D;exact QV (off:=3) rfl (by kernel_rfl) (hd 8 57 rfl) rfl
     |10,_,D=>cases D;exact Cr rfl (hd 9 58 rfl) (p6 (n:=1) (by kernel_rfl) bf)
     |11,_,D=>cases D;exact R_ rfl (hd 7 56 rfl) (hd 10 59 rfl)
     |12,_,D=>cases D;exact Cp rfl (hd 0 49 rfl) (hd 2 51 rfl) a6
    ·intro o A' D V hd;have aT:o.op=.store 3 (.tmp 61) (.tmp 60):=by cases D;rfl
     have au:o.dst=none:=by cases D;rfl
     clear D;obtain⟨w9,an,ab,al⟩:=Er ao (q:=t) (vs:=[.int .i64 (IntKind.i64.wrap (n'+a))]) (by rw[cf];simp;omega) (fun v hv=>by rw[List.mem_singleton.1 hv];rfl) Tryz.prog;have av:=Q7 (P:=Tryz.prog) (a:=A') (w:=U) (w':=w9) (n:=1) aT (by kernel_rfl:bn Tryz.prog 3=some (false,1)) (hd 12 _ 61 (by decide) rfl rfl) (hd 11 _ 60 (by decide) rfl rfl) rfl an;refine cN.wpIn (R:=fun xx yy=>yy=w9) (by unfold cN;rw[av]) fun xx yy ap=>?_;rw[ap];clear ap;rw[au];have J:Sl 72 [(0,v0),(3,pt p0 0),(5,pt p1 0),(6,sl g1 l.length c1),(7,sl g4 y.length c4)] (A'.put none xx):=V;clear V;generalize A'.put none xx=A at J⊢;clear hd av an;replace Z:=Z.grown al bk gv gA;replace G:=G.kept al (.inr fun e=>gY (Option.some.inj e));replace I:=I.kept al (.inr fun e=>eo (Option.some.inj e));obtain⟨dj,e1⟩:=RS (v:=IntKind.i64.wrap (n'+a)) bu (by rw[List.length_set];exact cf) (by rw[List.length_set];exact en);rw[List.length_set,List.length_set]at e1;generalize fw hH t [.int .i64 (IntKind.i64.wrap (n'+a))]=it at ab dj e1;clear al aY bf bi a6 ag ao;show Code.wpIn _ _ _ _ _ _ _
     refine wpIn_seq ?_;obtain⟨U,ag⟩:∃U,{w9 with drawn:=w9.drawn+1}=U:=⟨_,rfl⟩;replace Z:=Z.drew;replace G:World.ownsRow {w9 with drawn:=w9.drawn+1} 0 T1 1 (sl g1 l.length c1) l.length (fw b5 i [sl g3 x.length c3]):=G;replace I:World.ownsRow {w9 with drawn:=w9.drawn+1} 0 T3 1 (sl g3 x.length c3) x.length cp:=I;replace ab:World.ownsRow {w9 with drawn:=w9.drawn+1} 0 T4 1 (sl g4 y.length c4) y.length it:=ab;rw[ag]at Z G I ab;obtain⟨hQ,hR⟩:=aX Z.r;have hP:=Q6 G (q:=i) (u:=sl g3 x.length c3) (by rw[Rt (by omega),if_pos rfl])
     have h8:(Instr.indexAt 55 (sl g3 x.length c3) (.int .i64 k)).run Tryz.prog U=.ok (pt g3 k) U:=by
      have:=rJ (P:=Tryz.prog) (w:=U) (t:=55) (e:=22) (sz:=1) (b:=g3) (o:=0) (n:=x.length) (c:=c3+1) (k:=.i64) (m:=(k:Int)) (by kernel_rfl) (by omega) (by simpa using eR);simpa using this
     refine Ru (m:=9) (fun qq=>match qq with
      |0=>sl g1 l.length c1
      |1=>pt p1 1
      |2=>.int .i64 i
      |3=>pt g1 i
      |4=>sl g3 x.length c3
      |5=>pt p1 2
      |6=>.int .i64 k
      |7=>sl g4 y.length c4
      |_=>pt g3 k) aG ag (J.sub (kp':=[(3,pt p0 0),(5,pt p1 0),(6,sl g1 l.length c1),(7,sl g4 y.length c4)]) (by simp[bQ])) (by kernel_rfl) (by kernel_rfl) ?_ ?_
     ·intro qq o hi D A' V hd
      match qq,hi,D with
      |0,_,D=>cases D;exact lw rfl (V.at (by simp))
      |1,_,D=>cases D;exact QV (off:=1) rfl (by kernel_rfl) (V.at (by simp)) rfl
      |2,_,D=>cases D;exact Cr rfl (hd 1 63 rfl) (p6 (n:=1) (by kernel_rfl) hQ)
      |3,_,D=>cases D;exact Cp rfl (hd 0 62 rfl) (hd 2 64 rfl) (gr U)
      |4,_,D=>cases D;exact Cr rfl (hd 3 65 rfl) (p6 (n:=1) (by kernel_rfl) hP)
      |5,_,D=>cases D;exact QV (off:=2) rfl (by kernel_rfl) (V.at (by simp)) rfl
      |6,_,D=>cases D;exact Cr rfl (hd 5 67 rfl) (p6 (n:=1) (by kernel_rfl) hR)
      |7,_,D=>cases D;exact lw rfl (V.at (by simp))
      |8,_,D=>cases D;exact Cp rfl (hd 4 66 rfl) (hd 6 68 rfl) h8
     ·intro o A' D V hd;have aT:o.op=.store 22 (.tmp 70) (.tmp 69):=by cases D;rfl
      have au:o.dst=none:=by cases D;rfl
      clear D;obtain⟨ct,an,ef,al⟩:=Er I (q:=k) (vs:=[sl g4 y.length c4]) (by rw[ea];simp;omega) (fun v hv=>by rw[List.mem_singleton.1 hv];rfl) Tryz.prog;have av:=Q7 (P:=Tryz.prog) (a:=A') (w:=U) (w':=ct) (n:=1) aT (by kernel_rfl:bn Tryz.prog 22=some (false,1)) (hd 8 _ 70 (by decide) rfl rfl) (hd 7 _ 69 (by decide) rfl rfl) rfl an;refine cN.wpIn (R:=fun xx yy=>yy=ct) (by unfold cN;rw[av]) fun xx yy ap=>?_;rw[ap];clear ap;rw[au];have J:Sl 72 [(3,pt p0 0),(5,pt p1 0),(6,sl g1 l.length c1),(7,sl g4 y.length c4)] (A'.put none xx):=V;clear V;generalize A'.put none xx=A at J⊢;clear hd av an;replace Z:=Z.grown al cR ia ie;replace G:=G.kept al (.inr fun e=>(Ne.symm gN) (Option.some.inj e));replace ab:=ab.kept al (.inr fun e=>(Ne.symm eo) (Option.some.inj e));show Code.wpIn _ _ _ _ _ _ _
      refine wpIn_seq ?_;refine wpIn_region_lit ?_;refine cD J rfl rfl (by decide) (v:=sl g1 l.length c1) (lw rfl (J.at (by simp))) fun A J=>?_;refine cD J rfl rfl (by decide) (v:=sl g1 l.length c1) (n_ rfl (J.at (by simp[bQ]))) fun A J=>?_;show Code.wpIn _ _ _ _ _ _ _
      refine wpIn_ret ?_;refine⟨.inr rfl,J.df,sl g1 l.length c1,?_,sl g1 l.length c1,rfl,Z.b,?_⟩
      ·have e2:A.tmps.getD 4 undef=sl g1 l.length c1:=J.at (t:=4) (by simp[bQ]);rw[Array.getD_eq_getD_getElem?]at e2;simp[results,Tryz.f52,e2,pure,Sem.run]
      ·have h4:VR (fun b=>M b\/w0.heap.size<=b) ct (aD ((y.set r (IntKind.i64.wrap (n - a))).set t (IntKind.i64.wrap (n'+a)))) (sl g4 y.length c4):=by
        have:=Ry (A:=fun b=>M b\/w0.heap.size<=b) (es:=((y.set r (IntKind.i64.wrap (n - a))).set t (IntKind.i64.wrap (n'+a))).map (.int .i64)) ab (by simp) (by omega) (.inr bk) fun j z u hj hu=>by
         rw[List.getElem?_map]at hj
         cases hz:((y.set r (IntKind.i64.wrap (n - a))).set t (IntKind.i64.wrap (n'+a)))[j]? with
         |none=>rw[hz]at hj;cases hj
         |some z'=>
          rw[hz]at hj;cases hj;rw[dj j z' hz]at hu;cases hu;exact .int _ _
        rw[List.map_map]at this;exact this
       have h3:VR (fun b=>M b\/w0.heap.size<=b) ct (jp (x.set k ((y.set r (IntKind.i64.wrap (n - a))).set t (IntKind.i64.wrap (n'+a))))) (sl g3 x.length c3):=by
        have:=Ry (A:=fun b=>M b\/w0.heap.size<=b) (es:=(x.map aD).set k (aD ((y.set r (IntKind.i64.wrap (n - a))).set t (IntKind.i64.wrap (n'+a))))) ef (by simp) (by omega) (.inr cR) (RV hY Z.b (by rw[ea];simp) (by simp;omega) h4);rw[<- List.map_set,List.map_map]at this;exact this
       have:=Ry (A:=fun b=>M b\/w0.heap.size<=b) (es:=(l.map jp).set i (jp (x.set k ((y.set r (IntKind.i64.wrap (n - a))).set t (IntKind.i64.wrap (n'+a)))))) G (by simp) (by omega) (.inr cC) (RV hX Z.b (by rw[dY];simp) (by simp;omega) h3);rw[<- List.map_set,List.map_map]at this;exact this
def Sg{es:List (List AV)}{i0 k0 r0 t0 a n1 n2 k1 k2 g pl se:Int}{ps:List (List AV)}{an:SV}{fr':Fr}(γ:Glob)(h:Q8 es i0 k0 r0 t0 a=some (an,fr')):gR Tryz.prog 52/\∀(κ:Ctx) (w:World) (us:Array Value),ar γ κ [] κ.L w->κ.W=w->us.size=2->(∀(j:Nat) (x:AV) (u:Value),[AV.arr es,.agg [.int .i64 r0,.int .i64 n1,.int .i64 n2,.arr ps,.int .i64 k1,.int .i64 k2,.int .i64 g,.int .i64 i0,.int .i64 k0,.int .i64 a,.int .i64 t0,.int .i64 pl,.int .i64 se]][j]?=some x->us[j]?=some u->VR (MA κ.M [] κ.L) w x u)->
  Calls Tryz.prog 52 us w fun e w'=>∃v L',e=.returned v/\ar γ κ fr' L' w'/\SR (MA κ.M fr' L') L' w' an v:=by
 refine⟨⟨_,Tryz.func52,by kernel_rfl,by kernel_rfl⟩,fun κ w us hC hκ hs hv=>?_⟩;unfold Q8 at h;split at h
 rotate_left
 ·cases h
 rename_i hh;rw[Bool.and_eq_true,Bool.and_eq_true,Nat.ble_eq]at hh;obtain⟨⟨h1,h2⟩,h3⟩:=hh;obtain⟨⟨av,ax⟩,aA,aB⟩:=of_decide_eq_true h3;obtain⟨i,rfl⟩:=Int.eq_ofNat_of_zero_le av;obtain⟨k,rfl⟩:=Int.eq_ofNat_of_zero_le ax;obtain⟨r,rfl⟩:=Int.eq_ofNat_of_zero_le aA;obtain⟨t,rfl⟩:=Int.eq_ofNat_of_zero_le aB;obtain⟨l,rfl,hl⟩:=C7 h1;simp only[Int.toNat_natCast]at h;split at h
 rotate_left
 ·cases h
 rename_i xs D;split at h
 rotate_left
 ·cases h
 rename_i ys G;split at h
 rotate_left
 ·cases h
 rename_i n U;split at h
 rotate_left
 ·cases h
 rename_i n' Z;cases h
 have hc:∃x,l[i]?=some x/\xs=bA x:=by
  unfold aU at D;rw[List.getElem?_map]at D
  cases I:l[i]? with
  |none=>rw[I]at D;cases D
  |some c=>rw[I]at D;cases D;exact⟨c,rfl,rfl⟩
 obtain⟨x,hx,rfl⟩:=hc
 have hc:∃y,x[k]?=some y/\ys=aL y:=by
  unfold bA at G;rw[List.getElem?_map]at G
  cases I:x[k]? with
  |none=>rw[I]at G;cases G
  |some c=>rw[I]at G;cases G;exact⟨c,rfl,rfl⟩
 obtain⟨y,hy,rfl⟩:=hc
 have ab:∀{c:List Int} {q:Nat} {n:Int},(aL c)[q]?=some [.int .i64 n]->c[q]?=some n:=fun{c q n} U=>by
  unfold aL at U;rw[List.getElem?_map]at U
  cases ad:c[q]? with
  |none=>rw[ad]at U;cases U
  |some m=>rw[ad]at U;cases U;rfl
 have J:∀(c:List Int) (q:Nat) (n:Int),(aL c).set q [.int .i64 n]=aL (c.set q n):=fun c q n=>by unfold aL;rw[List.map_set]
 rw[J]at Z;have U:=ab U;have Z:=ab Z;have h0:=hv 0 _ us[0] rfl (by rw[Array.getElem?_eq_getElem (by omega)]);have h4:=hv 1 _ us[1] rfl (by rw[Array.getElem?_eq_getElem (by omega)])
 have aF:us=#[us[0],us[1]]:=by
  apply Array.ext
  ·simp[hs]
  ·intro i h2 h3;have:i=0\/i=1:=by simp at h3;omega
   rcases this with rfl|rfl <;>rfl
 rw[aF];generalize us[0]=u0 at h0;generalize us[1]=u1 at h4
 have ao:∃V:Array Value,u1=.agg V/\V.size=13/\∀(j:Nat) (x:AV) (u:Value),[AV.int .i64 r,.int .i64 n1,.int .i64 n2,.arr ps,.int .i64 k1,.int .i64 k2,.int .i64 g,.int .i64 i,.int .i64 k,.int .i64 a,.int .i64 t,.int .i64 pl,.int .i64 se][j]?=some x->V[j]?=some u->VR (MA κ.M [] κ.L) w x u:=by
  cases h4 with
  |agg _ V hl hr=>exact⟨V,rfl,hl,hr⟩
 obtain⟨V,rfl,au,ap⟩:=ao
 have z:∀{j:Nat} {m:Int},[AV.int .i64 r,.int .i64 n1,.int .i64 n2,.arr ps,.int .i64 k1,.int .i64 k2,.int .i64 g,.int .i64 i,.int .i64 k,.int .i64 a,.int .i64 t,.int .i64 pl,.int .i64 se][j]?=some (.int .i64 m)->j <13->V[j]?=some (.int .i64 m):=fun{j m} hj aM=>by
  have hg:V[j]?=some V[j]:=Array.getElem?_eq_getElem (by omega);rw[hg,ub (ap j _ _ hj hg)]
 have ag:l.length<=1000000:=by rw[mH]at h2;exact h2
 refine(Sh (g:=g) (a:=a) h0 ag hl au (z (j:=0) rfl (by decide)) (z (j:=6) rfl (by decide)) (z (j:=7) rfl (by decide)) (z (j:=8) rfl (by decide)) (z (j:=9) rfl (by decide)) (z (j:=10) rfl (by decide)) hx hy U Z).mono fun e w' ⟨v,he,hb,aG⟩=>?_;refine⟨v,κ.L,he,hC.later hb,.t _ _ ?_⟩
 have al:(aU l).set i [.arr ((bA x).set k [.arr (((aL y).set r [.int .i64 (IntKind.i64.wrap (n - a))]).set t [.int .i64 (IntKind.i64.wrap (n'+a))])])]=aU (l.set i (x.set k ((y.set r (IntKind.i64.wrap (n - a))).set t (IntKind.i64.wrap (n'+a))))):=by
  rw[J,J];unfold aU jp bA aD;rw[List.map_set,List.map_set]
 rw[al]
 exact VR.on (Nat.le_refl _) (fun b _ hb=>⟨by
  rcases hb with hb|hb
  ·exact hb
  ·exact⟨hC.fresh b (by rw[hκ];exact hb),fun⟨i,_,_,h,_⟩=>by have:=hC.lim i _ h;simp at this⟩,rfl⟩) aG
end Go.Proofs.YtcgdbhlnkificaaGreatDoor
