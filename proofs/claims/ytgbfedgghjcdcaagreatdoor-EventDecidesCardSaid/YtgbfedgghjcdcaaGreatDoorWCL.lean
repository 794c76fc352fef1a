/- Law 32: copies of lists of events: the empty one,and. No condition. -/
import Derived.Test.YtgbfedgghjcdcaaGreatDoorWQ
import Derived.Test.YtgbfedgghjcdcaaGreatDoorTBB
set_option linter.all false
namespace Go.Proofs.YtgbfedgghjcdcaaGreatDoor
open Go.RowKit
set_option maxRecDepth 100000
set_option maxHeartbeats 8000000
def Cw(c:Nat)(w:World):Calls Tryz.prog 27 #[.slice none 0 c] w (fun e w'=>∃A' u,e=.returned (.slice A' 0 u)/\Below w.heap.size w w'):=by
 go_enter Tryz.func27,Tryz.ntmps27
 have v:(binOp BinOp.eql 39 (Value.slice none 0 c) (Value.slice none 0 0)).run Tryz.prog w=.ok (.bool true) w:=by kernel_rfl
 go_wp2
 go_ret
 exact⟨none,0,rfl,Below.refl _ _⟩
noncomputable def oM:Cfg:={P:=Tryz.prog,ok:=fun f=>Nat.beq f 27,ext:=fun _ _=>none,lv:=fun _ _=>none,own:=fun _ _=>[],eff:=fun _ _=>[],hand:=fun _ _=>false}
def AX(γ:Glob):Wf oM γ where
 mixed:=(by kernel_rfl:(Tryz.prog).follows .mixedOrders=true)
 nh:=fun f u=>by
  have u:Nat.beq f 27=true:=u;have u:f=27:=by simpa using u
  subst u;show ot oM _=true
  kernel_rfl
 ext:=fun _ _ _ _ h=>by cases h
def Ct:Cl oM 27 [.nn []] [] (.ls 0) [.row false false 13 []]:=⟨4,by kernel_rfl⟩
def dC:iC oM.P 39=some (36,13,120):=by kernel_rfl
def Cz{e:List AV}{es:List (List AV)}(h:cP 13 (e::es)=true)(hl:Nat.ble es.length 999999=true):Cl oM 27 [.t (.arr (e::es))] [] (.ls 0) [.row false false 13 (e::es)]:=by
 have hl:es.length<=999999:=by simpa using hl
 have v:bD (([]:List (List AV)).length+(e::es).length) 120=true:=by simp[bD];omega
 refine Cl.aE rfl Tryz.func27 rfl rfl rfl ?_
 repeat'(first
|(with_reducible apply aa.seq)
|((with_reducible apply aa.text);(try case hm=>exact rfl))
|(with_reducible first|apply aa.skip|apply aa.ret|apply ai)
|((with_reducible apply aa.ak);(case hc=>exact rfl))
|(with_reducible apply ab.af)
|((with_reducible apply ab.u);(case hx=>((with_reducible apply ah.dI);(case hs=>exact fun _=>rfl);(case ha|ht=>exact rfl);(case hr=>first|(with_reducible exact dB)|(with_reducible exact dC)|(with_reducible exact dD)|(with_reducible exact rw3)|(with_reducible exact rw4)|exact rfl);(case hx|hy|hn|hb=>exact rfl);(case hok=>exact h);(case hlen=>exact v);(case hv=>exact List.nil_append _);(case hk=>exact dL);(case hf=>exact leq))))
|((with_reducible apply ab.u0);(case hx=>exact ac))
|fail)
 exact⟨.inr rfl,rfl⟩
def I_{es:List (List AV)}{r:SV}{fr':Fr}(γ:Glob)(h:qo es=some (r,fr')):eS Tryz.prog 27/\∀(κ:Ctx) (w:World) (us:Array Value),ar γ κ [] κ.L w->κ.W=w->us.size=1->(∀(j:Nat) (x:AV) (u:Value),[AV.arr es][j]?=some x->us[j]?=some u->VR (MA κ.M [] κ.L) w x u)->
  Calls Tryz.prog 27 us w fun e w'=>∃v L',e=.returned v/\ar γ κ fr' L' w'/\SR (MA κ.M fr' L') L' w' r v:=by
 have O:eS Tryz.prog 27:=⟨_,Tryz.func27,by kernel_rfl,by kernel_rfl⟩
 cases es with
 |nil=>
  cases h;refine⟨O,fun κ w us I hκ hs hv=>?_⟩;have z:=hv 0 _ us[0] rfl (by rw[Array.getElem?_eq_getElem (by omega)])
  have G:us=#[us[0]]:=by
   apply Array.ext
   ·simp[hs]
   ·intro i h2 h3;have:i=0:=by simp at h3;omega
    subst this;rfl
  rw[G]
  cases Q:us[0]with
  |slice A n c=>
   rw[Q]at z
   cases z with
   |bj A c=>
    cases A with
    |none=>exact(Cw c w).mono fun e w' ⟨A',c',U,hb⟩=>⟨_,κ.L,U,I.later hb,.t _ _ (.bj _ _)⟩
    |some p=>
     obtain⟨n,hn⟩:=Ct;refine(((sound (AX γ) n).1 _ _ _ _ _ hn).2 κ w #[.slice (some p) 0 c] I hκ rfl fun j x u D G=>?_).mono fun e w' ⟨v,L',U,y,hS⟩=>?_
     ·match j with
      |0=>
       simp at D G;subst D G;exact .nn [] p c (.bj _ _)
      |j+1=>simp at D
     ·cases hS with
      |ls i v hL hp=>
       obtain⟨T,v',ag,J,hR,_⟩:=y.row 0 false false 13 [] rfl;rw[hL]at J;cases J;obtain⟨q,c',rfl⟩:=hR.form
       have af:∀(j:Nat) (v:Value),κ.L j=some v->False:=fun j v h=>by
        obtain⟨lb,Z,_⟩:=I.hand j v h;simp at Z
       have z:ar γ κ [] (fun _=>none) w':={
        bN:=y.bN
        gn:=y.gn
        gx:=y.gx
        fresh:=y.fresh
        os:=y.os
        tape:=y.tape
        output:=y.output
        size:=y.size
        kept:=y.kept
        lim:=fun i v h=>nomatch h
        new:=fun i v b lb h=>nomatch h
        bW:=fun i j v v' b h=>nomatch h
        hand:=fun j v h=>(af j v h).elim
        blk:=fun i lb h=>nomatch h}
       exact⟨_,fun _=>none,U,z,.t _ _ (.bj _ _)⟩
   |arr b o c sz es us ad=>exact absurd rfl ad
  |_=>rw[Q]at z;cases z
 |cons e es=>
  have h:(match cP 13 (e::es)&&Nat.ble es.length 999999 with|true=>some (.ls 0,[.row false false 13 (e::es)])|false=>none)=some (r,fr'):=h;split at h
  ·rename_i V;cases h;rw[Bool.and_eq_true]at V;obtain⟨n,hn⟩:=Cz V.1 V.2;refine⟨O,fun κ w us I hκ hs hv=>?_⟩;refine((sound (AX γ) n).1 _ _ _ _ _ hn).2 κ w us I hκ hs fun j x u D G=>?_
   match j with
   |0=>
    have Q:x=.t (.arr (e::es)):=by simpa using D.symm
    subst Q;exact .t _ _ (hv 0 _ u rfl G)
   |j+1=>simp at D
  ·cases h
end Go.Proofs.YtgbfedgghjcdcaaGreatDoor
