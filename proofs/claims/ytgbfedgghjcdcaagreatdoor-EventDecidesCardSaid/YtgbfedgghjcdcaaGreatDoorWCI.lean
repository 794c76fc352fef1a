/- Law 32: copies of lists of integers: the empty one,and. No condition. -/
import Derived.Test.YtgbfedgghjcdcaaGreatDoorWQ
import Derived.Test.YtgbfedgghjcdcaaGreatDoorTBB
set_option linter.all false
namespace Go.Proofs.YtgbfedgghjcdcaaGreatDoor
open Go.RowKit
set_option maxRecDepth 100000
set_option maxHeartbeats 8000000
def Cx(c:Nat)(w:World):Calls Tryz.prog 82 #[.slice none 0 c] w (fun e w'=>∃A' u,e=.returned (.slice A' 0 u)/\Below w.heap.size w w'):=by
 go_enter Tryz.func82,Tryz.ntmps82
 have v:(binOp BinOp.eql 22 (Value.slice none 0 c) (Value.slice none 0 0)).run Tryz.prog w=.ok (.bool true) w:=by kernel_rfl
 go_wp2
 go_ret
 exact⟨none,0,rfl,Below.refl _ _⟩
noncomputable def qk:Cfg:={P:=Tryz.prog,ok:=fun f=>Nat.beq f 82,ext:=fun _ _=>none,lv:=fun _ _=>none,own:=fun _ _=>[],eff:=fun _ _=>[],hand:=fun _ _=>false}
def AY(γ:Glob):Wf qk γ where
 mixed:=(by kernel_rfl:(Tryz.prog).follows .mixedOrders=true)
 nh:=fun f u=>by
  have u:Nat.beq f 82=true:=u;have u:f=82:=by simpa using u
  subst u;show ot qk _=true
  kernel_rfl
 ext:=fun _ _ _ _ h=>by cases h
def Cu:Cl qk 82 [.nn []] [] (.ls 0) [.row false false 1 []]:=⟨4,by kernel_rfl⟩
def CA{e:List AV}{es:List (List AV)}(h:cP 1 (e::es)=true)(hl:Nat.ble es.length 999999=true):Cl qk 82 [.t (.arr (e::es))] [] (.ls 0) [.row false false 1 (e::es)]:=by
 have hl:es.length<=999999:=by simpa using hl
 have y:bD (([]:List (List AV)).length+(e::es).length) 8=true:=by simp[bD];omega
 refine Cl.aE rfl Tryz.func82 rfl rfl rfl ?_
 repeat'(first
|(with_reducible first|apply aa.seq|apply aa.block)
|((with_reducible apply aa.text);(try case hm=>exact rfl))
|((with_reducible apply aa.drawn);(case hm=>exact rfl))
|((with_reducible apply aa.tM);(case hm=>exact rfl))
|((with_reducible apply aa.lR);(case hm|he=>exact rfl))
|(with_reducible first|apply ab.mL|apply ab.mM|apply ab.oH|apply aa.skip|apply aa.exit|apply aa.ret|apply ai|apply aA|apply ay|apply aG|apply aO|apply az)
|((with_reducible apply mQ);(case hj=>exact rfl))
|((with_reducible apply aa.am);(case hc=>exact rfl))
|((with_reducible apply aa.ak);(case hc=>exact rfl))
|((with_reducible apply ab.ao);(case hp=>exact ae))
|((with_reducible apply ab.aw);(case hp=>exact ae))
|((with_reducible apply ab.aU)<;>intro v)
|((with_reducible apply ab.fa);(case hp=>exact ae))
|((with_reducible apply ab.cz);(case hp=>exact ae))
|((with_reducible apply ab.fV)<;>intro v)
|((with_reducible apply ab.bh);(case hp=>exact ae))
|((with_reducible apply ab.aV);(case hp=>exact ae))
|((with_reducible apply ab.a_)<;>intro v)
|((with_reducible apply ab.dQ);(case hp=>exact ae))
|((with_reducible apply ab.dF);(case hp=>exact ae))
|((with_reducible apply ab.ed)<;>intro v)
|(with_reducible first|apply ab.af|apply ab.bM|apply ab.nil)
|((with_reducible apply ab.gf);(case hW=>exact rfl))
|(with_reducible first|apply ax.mL|apply ax.mM|apply ax.oH)
|((with_reducible apply ax.ao);(case hp=>exact ae))
|((with_reducible apply ax.aw);(case hp=>exact ae))
|((with_reducible apply ax.aU)<;>intro v)
|((with_reducible apply ax.fa);(case hp=>exact ae))
|((with_reducible apply ax.cz);(case hp=>exact ae))
|((with_reducible apply ax.fV)<;>intro v)
|((with_reducible apply ax.bh);(case hp=>exact ae))
|((with_reducible apply ax.aV);(case hp=>exact ae))
|((with_reducible apply ax.a_)<;>intro v)
|((with_reducible apply ax.dQ);(case hp=>exact ae))
|((with_reducible apply ax.dF);(case hp=>exact ae))
|((with_reducible apply ax.ed)<;>intro v)
|((with_reducible apply ax.mb);(case hck=>kernel_rfl))
|((with_reducible apply ax.yF);(case hck=>kernel_rfl))
|(with_reducible first|apply ax.af|apply ax.bM|apply ax.nil)
|((with_reducible apply ax.gf);(case hfl=>kernel_rfl);(case hW=>exact rfl))
|((with_reducible apply ab.gt);(case hW=>exact rfl);(case hx=>((with_reducible apply ah.dI);(case hs=>exact fun _=>rfl);(case ha|ht=>exact rfl);(case hr=>first|(with_reducible exact dB)|(with_reducible exact dC)|(with_reducible exact dD)|(with_reducible exact rw3)|(with_reducible exact rw4)|exact rfl);(case hx|hy|hn|hb=>exact rfl);(case hok=>exact h);(case hlen=>exact y);(case hv=>exact List.nil_append _);(case hk=>exact dL);(case hf=>exact leq))))
|((with_reducible apply ab.u);(case hx=>((with_reducible apply ah.dI);(case hs=>exact fun _=>rfl);(case ha|ht=>exact rfl);(case hr=>first|(with_reducible exact dB)|(with_reducible exact dC)|(with_reducible exact dD)|(with_reducible exact rw3)|(with_reducible exact rw4)|exact rfl);(case hx|hy|hn|hb=>exact rfl);(case hok=>exact h);(case hlen=>exact y);(case hv=>exact List.nil_append _);(case hk=>exact dL);(case hf=>exact leq))))
|((with_reducible apply ax.gt);(case hfl=>kernel_rfl);(case hW=>exact rfl);(case hx=>exact ac))
|((with_reducible apply ax.u);(case hfl=>kernel_rfl);(case hx=>exact ac))
|((with_reducible apply ab.au);(case hW=>exact rfl);(case hx=>exact ac))
|((with_reducible apply ab.u0);(case hx=>exact ac))
|((with_reducible apply ab.u);(case hx=>exact ah.r fun _=>rfl))
|((with_reducible apply ab.gt);(case hW=>exact rfl);(case hx=>exact ah.r fun _=>rfl))
|fail)
 exact⟨.inr rfl,rfl⟩
def Ja{es:List (List AV)}{r:SV}{fr':Fr}(γ:Glob)(h:oO 1 es=some (r,fr')):eS Tryz.prog 82/\∀(κ:Ctx) (w:World) (us:Array Value),ar γ κ [] κ.L w->κ.W=w->us.size=1->(∀(j:Nat) (x:AV) (u:Value),[AV.arr es][j]?=some x->us[j]?=some u->VR (MA κ.M [] κ.L) w x u)->
  Calls Tryz.prog 82 us w fun e w'=>∃v L',e=.returned v/\ar γ κ fr' L' w'/\SR (MA κ.M fr' L') L' w' r v:=by
 have O:eS Tryz.prog 82:=⟨_,Tryz.func82,by kernel_rfl,by kernel_rfl⟩
 cases es with
 |nil=>
  cases h;refine⟨O,fun κ w us I hκ hs hv=>?_⟩;have z:=hv 0 _ us[0] rfl (by rw[Array.getElem?_eq_getElem (by omega)])
  have G:us=#[us[0]]:=by
   apply Array.ext
   ·simp[hs]
   ·intro i h2 h3;have:i=0:=by simp at h3;omega
    subst this;rfl
  rw[G]
  cases Q:us[0]with
  |slice A n c=>
   rw[Q]at z
   cases z with
   |bj A c=>
    cases A with
    |none=>exact(Cx c w).mono fun e w' ⟨A',c',U,hb⟩=>⟨_,κ.L,U,I.later hb,.t _ _ (.bj _ _)⟩
    |some p=>
     obtain⟨n,hn⟩:=Cu;refine(((sound (AY γ) n).1 _ _ _ _ _ hn).2 κ w #[.slice (some p) 0 c] I hκ rfl fun j x u D G=>?_).mono fun e w' ⟨v,L',U,y,hS⟩=>?_
     ·match j with
      |0=>
       simp at D G;subst D G;exact .nn [] p c (.bj _ _)
      |j+1=>simp at D
     ·cases hS with
      |ls i v hL hp=>
       obtain⟨T,v',ag,J,hR,_⟩:=y.row 0 false false 1 [] rfl;rw[hL]at J;cases J;obtain⟨q,c',rfl⟩:=hR.form
       have af:∀(j:Nat) (v:Value),κ.L j=some v->False:=fun j v h=>by
        obtain⟨lb,Z,_⟩:=I.hand j v h;simp at Z
       have z:ar γ κ [] (fun _=>none) w':={
        bN:=y.bN
        gn:=y.gn
        gx:=y.gx
        fresh:=y.fresh
        os:=y.os
        tape:=y.tape
        output:=y.output
        size:=y.size
        kept:=y.kept
        lim:=fun i v h=>nomatch h
        new:=fun i v b lb h=>nomatch h
        bW:=fun i j v v' b h=>nomatch h
        hand:=fun j v h=>(af j v h).elim
        blk:=fun i lb h=>nomatch h}
       exact⟨_,fun _=>none,U,z,.t _ _ (.bj _ _)⟩
   |arr b o c sz es us ad=>exact absurd rfl ad
  |_=>rw[Q]at z;cases z
 |cons e es=>
  have h:(match cP 1 (e::es)&&Nat.ble es.length 999999 with|true=>some (.ls 0,[.row false false 1 (e::es)])|false=>none)=some (r,fr'):=h;split at h
  ·rename_i V;cases h;rw[Bool.and_eq_true]at V;obtain⟨n,hn⟩:=CA V.1 V.2;refine⟨O,fun κ w us I hκ hs hv=>?_⟩;refine((sound (AY γ) n).1 _ _ _ _ _ hn).2 κ w us I hκ hs fun j x u D G=>?_
   match j with
   |0=>
    have Q:x=.t (.arr (e::es)):=by simpa using D.symm
    subst Q;exact .t _ _ (hv 0 _ u rfl G)
   |j+1=>simp at D
  ·cases h
end Go.Proofs.YtgbfedgghjcdcaaGreatDoor
