/- Law 32: copies of lists of integers: the empty one,and others. No condition. -/
import Derived.Test.YtgbfedgghjcdcaaGreatDoorWQ
import Derived.Test.YtgbfedgghjcdcaaGreatDoorBase
set_option linter.unusedSimpArgs false
set_option linter.unusedVariables false
set_option linter.unusedSectionVars false
namespace Go.Proofs.YtgbfedgghjcdcaaGreatDoor
open Go.RowKit
set_option maxRecDepth 100000
set_option maxHeartbeats 8000000
theorem clone_nilI (c:Nat) (w:World):Calls Tryz.prog 82 #[.slice none 0 c] w (fun e w'=>∃ A' c',e=.returned (.slice A' 0 c')∧Below w.heap.size w w'):=by
 go_enter Tryz.func82,Tryz.ntmps82
 have he:(binOp BinOp.eql 22 (Value.slice none 0 c) (Value.slice none 0 0)).run Tryz.prog w=.ok (.bool true) w:=by kernel_rfl
 go_wp2
 go_ret
 exact ⟨none,0,rfl,Below.refl _ _⟩
noncomputable def cfg0I:Cfg:={ P:=Tryz.prog,ok:=fun f=>Nat.beq f 82,ext:=fun _ _=>none,lv:=fun _ _=>none,own:=fun _ _=>[],eff:=fun _ _=>[],hand:=fun _ _=>false }
theorem wf0I (γ:Glob):Wf cfg0I γ where
 mixed:=(by kernel_rfl:(Tryz.prog).follows .mixedOrders=true)
 fns:=fun f hf=>by
  have hf:Nat.beq f 82=true:=hf
  have hf:f=82:=by simpa using hf
  subst hf
  show wfF cfg0I _=true
  kernel_rfl
 ext:=fun _ _ _ _ h=>by cases h
theorem clone_eI:Cl cfg0I 82 [.nn []] [] (.ls 0) [.row false false 1 []]:=⟨4,by kernel_rfl⟩
theorem clone_sI {e:List AV} {es:List (List AV)} (h:newsOk 1 (e::es)=true) (hl:Nat.ble es.length 999999=true):Cl cfg0I 82 [.t (.arr (e::es))] [] (.ls 0) [.row false false 1 (e::es)]:=by
 have hl:es.length≤999999:=by simpa using hl
 have hlo:lenOk (([]:List (List AV)).length+(e::es).length) 8=true:=by simp [lenOk];omega
 refine Cl.of_body rfl Tryz.func82 rfl rfl rfl ?_
 repeat' (first
|(with_reducible first|apply EvK.seq|apply EvK.block)
|((with_reducible apply EvK.text);(try case hm=>exact rfl))
|((with_reducible apply EvK.drawn);(case hm=>exact rfl))
|((with_reducible apply EvK.drawnF);(case hm=>exact rfl))
|((with_reducible apply EvK.drawnD);(case hm|he=>exact rfl))
|(with_reducible first|apply EvO.apc|apply EvO.apn|apply EvO.apa|apply EvK.skip|apply EvK.exit|apply EvK.ret|apply thenK_n|apply thenK_e|apply thenK_r|apply blockK_n|apply blockK_r|apply blockK_h)
|((with_reducible apply blockK_m);(case hj=>exact rfl))
|((with_reducible apply EvK.cond_t);(case hc=>exact rfl))
|((with_reducible apply EvK.cond_f);(case hc=>exact rfl))
|((with_reducible apply EvO.spd_t);(case hp=>exact fao))
|((with_reducible apply EvO.spd_f);(case hp=>exact fao))
|((with_reducible apply EvO.spd) <;> intro hq)
|((with_reducible apply EvO.spn_t);(case hp=>exact fao))
|((with_reducible apply EvO.spn_f);(case hp=>exact fao))
|((with_reducible apply EvO.spn) <;> intro hq)
|((with_reducible apply EvO.spd_yt);(case hp=>exact fao))
|((with_reducible apply EvO.spd_yf);(case hp=>exact fao))
|((with_reducible apply EvO.spd_y) <;> intro hq)
|((with_reducible apply EvO.spn_yt);(case hp=>exact fao))
|((with_reducible apply EvO.spn_yf);(case hp=>exact fao))
|((with_reducible apply EvO.spn_y) <;> intro hq)
|(with_reducible first|apply EvO.nilT|apply EvO.nilB|apply EvO.nil)
|((with_reducible apply EvO.gf);(case hW=>exact rfl))
|(with_reducible first|apply EvOF.apc|apply EvOF.apn|apply EvOF.apa)
|((with_reducible apply EvOF.spd_t);(case hp=>exact fao))
|((with_reducible apply EvOF.spd_f);(case hp=>exact fao))
|((with_reducible apply EvOF.spd) <;> intro hq)
|((with_reducible apply EvOF.spn_t);(case hp=>exact fao))
|((with_reducible apply EvOF.spn_f);(case hp=>exact fao))
|((with_reducible apply EvOF.spn) <;> intro hq)
|((with_reducible apply EvOF.spd_yt);(case hp=>exact fao))
|((with_reducible apply EvOF.spd_yf);(case hp=>exact fao))
|((with_reducible apply EvOF.spd_y) <;> intro hq)
|((with_reducible apply EvOF.spn_yt);(case hp=>exact fao))
|((with_reducible apply EvOF.spn_yf);(case hp=>exact fao))
|((with_reducible apply EvOF.spn_y) <;> intro hq)
|((with_reducible apply EvOF.nilET);(case hck=>kernel_rfl))
|((with_reducible apply EvOF.nilE);(case hck=>kernel_rfl))
|(with_reducible first|apply EvOF.nilT|apply EvOF.nilB|apply EvOF.nil)
|((with_reducible apply EvOF.gf);(case hfl=>kernel_rfl);(case hW=>exact rfl))
|((with_reducible apply EvO.gt);(case hW=>exact rfl);(case hx=>((with_reducible apply OpR.apr);(case hs=>exact fun _=>rfl);(case ha|ht=>exact rfl);(case hr=>first|(with_reducible exact rw0)|(with_reducible exact rw1)|(with_reducible exact rw2)|(with_reducible exact rw3)|(with_reducible exact rw4)|exact rfl);(case hx|hy|hn|hb=>exact rfl);(case hok=>exact h);(case hlen=>exact hlo);(case hv=>exact List.nil_append _);(case hk=>exact kfr);(case hf=>exact leq))))
|((with_reducible apply EvO.u);(case hx=>((with_reducible apply OpR.apr);(case hs=>exact fun _=>rfl);(case ha|ht=>exact rfl);(case hr=>first|(with_reducible exact rw0)|(with_reducible exact rw1)|(with_reducible exact rw2)|(with_reducible exact rw3)|(with_reducible exact rw4)|exact rfl);(case hx|hy|hn|hb=>exact rfl);(case hok=>exact h);(case hlen=>exact hlo);(case hv=>exact List.nil_append _);(case hk=>exact kfr);(case hf=>exact leq))))
|((with_reducible apply EvOF.gt);(case hfl=>kernel_rfl);(case hW=>exact rfl);(case hx=>exact opq))
|((with_reducible apply EvOF.u);(case hfl=>kernel_rfl);(case hx=>exact opq))
|((with_reducible apply EvO.gt0);(case hW=>exact rfl);(case hx=>exact opq))
|((with_reducible apply EvO.u0);(case hx=>exact opq))
|((with_reducible apply EvO.u);(case hx=>exact OpR.r fun _=>rfl))
|((with_reducible apply EvO.gt);(case hW=>exact rfl);(case hx=>exact OpR.r fun _=>rfl))
|fail)
 exact ⟨.inr rfl,rfl⟩
theorem wf_cloneI {es:List (List AV)} {r:SV} {fr':Fr} (γ:Glob) (h:cloneG 1 es=some (r,fr')):Known Tryz.prog 82∧∀ (κ:Ctx) (w:World) (us:Array Value),Core γ κ [] κ.L w→κ.W=w→us.size=1→(∀ (j:Nat) (x:AV) (u:Value),[AV.arr es][j]?=some x→us[j]?=some u→VR (MA κ.M [] κ.L) w x u)→
  Calls Tryz.prog 82 us w fun e w'=>∃ v L',e=.returned v∧Core γ κ fr' L' w'∧SR (MA κ.M fr' L') L' w' r v:=by
 have hkn:Known Tryz.prog 82:=⟨_,Tryz.func82,by kernel_rfl,by kernel_rfl⟩
 cases es with
 | nil=>
  cases h
  refine ⟨hkn,fun κ w us hC hκ hs hv=>?_⟩
  have h0:=hv 0 _ us[0] rfl (by rw [Array.getElem?_eq_getElem (by omega)])
  have hu:us=#[us[0]]:=by
   apply Array.ext
   ·simp [hs]
   ·intro i h2 h3
    have:i=0:=by simp at h3;omega
    subst this
    rfl
  rw [hu]
  cases hx:us[0] with
  | slice A n c=>
   rw [hx] at h0
   cases h0 with
   | arr0 A c=>
    cases A with
    | none=>exact (clone_nilI c w).mono fun e w' ⟨A',c',he,hb⟩=>⟨_,κ.L,he,hC.later hb,.t _ _ (.arr0 _ _)⟩
    | some p=>
     obtain ⟨n,hn⟩:=clone_eI
     refine (((sound (wf0I γ) n).1 _ _ _ _ _ hn).2 κ w #[.slice (some p) 0 c] hC hκ rfl fun j x u hj hu=>?_).mono fun e w' ⟨v,L',he,hC',hS⟩=>?_
     ·match j with
      | 0=>
       simp at hj hu
       subst hj hu
       exact .nn [] p c (.arr0 _ _)
      | j+1=>simp at hj
     ·cases hS with
      | ls i v hL hp=>
       obtain ⟨T,v',us',hL',hR,_⟩:=hC'.row 0 false false 1 [] rfl
       rw [hL] at hL'
       cases hL'
       obtain ⟨q,c',rfl⟩:=hR.form
       have hno:∀ (j:Nat) (v:Value),κ.L j=some v→False:=fun j v h=>by
        obtain ⟨lb,hlb,_⟩:=hC.hand j v h
        simp at hlb
       have h0:Core γ κ [] (fun _=>none) w':={
        glob:=hC'.glob
        gn:=hC'.gn
        gx:=hC'.gx
        fresh:=hC'.fresh
        os:=hC'.os
        tape:=hC'.tape
        output:=hC'.output
        size:=hC'.size
        kept:=hC'.kept
        lim:=fun i v h=>nomatch h
        new:=fun i v b lb h=>nomatch h
        dis:=fun i j v v' b h=>nomatch h
        hand:=fun j v h=>(hno j v h).elim
        blk:=fun i lb h=>nomatch h }
       exact ⟨_,fun _=>none,he,h0,.t _ _ (.arr0 _ _)⟩
   | arr b o c sz es us hne=>exact absurd rfl hne
  | _=>rw [hx] at h0;cases h0
 | cons e es=>
  have h:(match newsOk 1 (e::es) && Nat.ble es.length 999999 with|true=>some (.ls 0,[.row false false 1 (e::es)])|false=>none)=some (r,fr'):=h
  split at h
  ·rename_i hh
   cases h
   rw [Bool.and_eq_true] at hh
   obtain ⟨n,hn⟩:=clone_sI hh.1 hh.2
   refine ⟨hkn,fun κ w us hC hκ hs hv=>?_⟩
   refine ((sound (wf0I γ) n).1 _ _ _ _ _ hn).2 κ w us hC hκ hs fun j x u hj hu=>?_
   match j with
   | 0=>
    have hx:x=.t (.arr (e::es)):=by simpa using hj.symm
    subst hx
    exact .t _ _ (hv 0 _ u rfl hu)
   | j+1=>simp at hj
  ·cases h
end Go.Proofs.YtgbfedgghjcdcaaGreatDoor
