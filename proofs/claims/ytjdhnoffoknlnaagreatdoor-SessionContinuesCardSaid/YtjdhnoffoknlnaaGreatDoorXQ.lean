/- Law 52: the library's readers of texts as contracts;the program is one that the evaluator takes. Conditions: the library's variables stand. -/
import Derived.Test.YtjdhnoffoknlnaaGreatDoorWQ
import Derived.Test.YtjdhnoffoknlnaaGreatDoorXA
set_option linter.unusedSimpArgs false
set_option linter.unusedVariables false
set_option linter.unusedSectionVars false
namespace Go.Proofs.YtjdhnoffoknlnaaGreatDoor
open Go.RowKit
set_option maxRecDepth 100000
def Vars (w:World):Prop:=(∃ ev,w.cell? ⟨0,0,none⟩=some ev∧(ev=.nilIface∨∃ te pe,ev=.iface te pe))∧(∃ ev,w.cell? ⟨1,0,none⟩=some ev∧(ev=.nilIface∨∃ te pe,ev=.iface te pe))∧∃ m,w.cell? ⟨2,0,none⟩=some (.int .i64 m)
def nV:Nat:=max (max 0 1) (max 2 3)+1
theorem cell_same {w w':World} {g:Nat} {v:Value} (h:w.cell? ⟨g,0,none⟩=some v) (he:w'.heap[g]?=w.heap[g]?):w'.cell? ⟨g,0,none⟩=some v:=by
 rw [World.cell?_of_block (w:=w) he];exact h
def gamV:Glob where
 G:=fun w=>Tab w∧Vars w
 n:=nV
 stays:=fun w w' h hk=>by
  obtain ⟨hT,⟨e1,h1,h1'⟩,⟨e2,h2,h2'⟩,m,h3⟩:=h
  exact ⟨tab_heap hT (hk _ (by decide)),⟨e1,cell_same h1 (hk _ (by decide)),h1'⟩,⟨e2,cell_same h2 (hk _ (by decide)),h2'⟩,m,cell_same h3 (hk _ (by decide))⟩
theorem two_args {M:Nat→Prop} {w:World} {us:Array Value} {s p:ByteArray} (hs:us.size=2) (hv:∀ (j:Nat) (x:AV) (u:Value),[AV.str s,AV.str p][j]?=some x→us[j]?=some u→VR M w x u):us=#[.string s,.string p]:=by
 have h0:=vr_str (hv 0 _ us[0] rfl (by rw [Array.getElem?_eq_getElem (by omega)]))
 have h1:=vr_str (hv 1 _ us[1] rfl (by rw [Array.getElem?_eq_getElem (by omega)]))
 apply Array.ext
 ·simp [hs]
 ·intro i h2 h3
  have:i=0∨i=1:=by simp at h3;omega
  rcases this with rfl|rfl
  ·simpa using h0
  ·simpa using h1
theorem one_arg {M:Nat→Prop} {w:World} {us:Array Value} {s:ByteArray} (hs:us.size=1) (hv:∀ (j:Nat) (x:AV) (u:Value),[AV.str s][j]?=some x→us[j]?=some u→VR M w x u):us=#[.string s]:=by
 have h0:=vr_str (hv 0 _ us[0] rfl (by rw [Array.getElem?_eq_getElem (by omega)]))
 apply Array.ext
 ·simp [hs]
 ·intro i h2 h3
  have:i=0:=by simp at h3;omega
  subst this
  simpa using h0
theorem sr_two {A:Nat→Prop} {L:Ls} {w:World} {x y:SV} {u v:Value} (h1:SR A L w x u) (h2:SR A L w y v):SR A L w (.tup [x,y]) (.tuple #[u,v]):=by
 refine .tup _ _ rfl fun j s z hs hz=>?_
 match j with
 | 0=>simp at hs hz;subst hs hz;exact h1
 | 1=>simp at hs hz;subst hs hz;exact h2
 | j+2=>simp at hs
theorem atoi_bad (s:ByteArray) (hs:s.size≤1048576) (h:∀ v,Lib.atoiAll s.data.toList≠.ok v) (w:World) (hv:Vars w) :
  Calls Tryz.prog 51 #[.string s] w fun e w'=>∃ te pe,e=.returned (.tuple #[.int .i64 (atoiV s.data.toList),.iface te pe])∧Below w.heap.size w w':=by
 obtain ⟨⟨e1,h1,h1'⟩,⟨e2,h2,h2'⟩,m,h3⟩:=hv
 cases hc:Lib.atoiAll s.data.toList with
 | ok v=>exact absurd hc (h v)
 | range=>
  have e:atoiV s.data.toList=Lib.atoiSat s.data.toList:=by unfold atoiV;rw [hc]
  rw [e]
  exact (Go.Proofs.Any.strconv_Atoi_range Tryz.laysC172 s (by omega) hc e2 w h2 h2').mono fun e w' ⟨N,he,_,_,hb⟩=>⟨_,_,he,hb⟩
 | _=>
  have e:atoiV s.data.toList=0:=by unfold atoiV;rw [hc]
  rw [e]
  exact (Go.Proofs.Any.strconv_Atoi_syntax Tryz.laysC172 s (by omega) hc e1 w h1 h1').mono fun e w' ⟨N,he,_,_,hb⟩=>⟨_,_,he,hb⟩
theorem wf_extP (f:Nat) (xs:List AV) (r:SV) (fr':Fr) (h:extP f xs=some (r,fr')):Known Tryz.prog f∧∀ (κ:Ctx) (w:World) (us:Array Value),Core gamV κ [] κ.L w→κ.W=w→us.size=xs.length→(∀ (j:Nat) (x:AV) (u:Value),xs[j]?=some x→us[j]?=some u→VR (MA κ.M [] κ.L) w x u)→
  Calls Tryz.prog f us w fun e w'=>∃ v L',e=.returned v∧Core gamV κ fr' L' w'∧SR (MA κ.M fr' L') L' w' r v:=by
 unfold extP at h
 split at h
 ·rename_i s p
  split at h
  ·rename_i hf
   have hf:f=48:=by simpa using hf
   subst hf
   cases h
   refine ⟨⟨_,Tryz.func48,by kernel_rfl,by kernel_rfl⟩,fun κ w us hC hκ hs hv=>?_⟩
   obtain rfl:=two_args hs hv
   exact (Tryz.strings_CutPrefix s p w).mono fun e w' ⟨he,hw⟩=>⟨_,κ.L,he,by rw [hw];exact hC,sr_two (.t _ _ (.str _)) (.t _ _ (.bool _))⟩
  ·split at h
   ·rename_i hf
    rw [Bool.and_eq_true] at hf
    obtain ⟨hf,hsz⟩:=hf
    have hf:f=49:=by simpa using hf
    subst hf
    cases h
    refine ⟨⟨_,Tryz.func49,by kernel_rfl,by kernel_rfl⟩,fun κ w us hC hκ hs hv=>?_⟩
    obtain rfl:=two_args hs hv
    exact (Tryz.strings_CutSuffix s p w (of_decide_eq_true hsz)).mono fun e w' ⟨he,hw⟩=>⟨_,κ.L,he,by rw [hw];exact hC,sr_two (.t _ _ (.str _)) (.t _ _ (.bool _))⟩
   ·split at h
    ·rename_i hf
     rw [Bool.and_eq_true,Bool.and_eq_true] at hf
     obtain ⟨hf,hp,hsz⟩:=hf
     have hf:f=50:=by simpa using hf
     have hp:p=⟨#[32]⟩:=of_decide_eq_true hp
     have hsz:=of_decide_eq_true hsz
     subst hf hp
     cases h
     refine ⟨⟨_,Tryz.func50,by kernel_rfl,by kernel_rfl⟩,fun κ w us hC hκ hs hv=>?_⟩
     obtain rfl:=two_args hs hv
     obtain ⟨_,_,_,m,hm⟩:=hC.glob
     have hlen:(Lib.splitB ⟨#[32]⟩ 0 (Lib.countB s ⟨#[32]⟩) s).length=Lib.countB s ⟨#[32]⟩+1:=Lib.splitB_all _ (by decide) 0 _ s rfl
     refine (Go.Proofs.Any.strings_Split { Tryz.laysM146 with } Tryz.laysM146.i9 s ⟨#[32]⟩ m w (by omega) hm (by decide)).mono fun e w' ⟨he,hw⟩=>?_
     have hb:Below w.heap.size w w':=by rw [hw];exact (Below.refl _ _).alloc (Nat.le_refl _) _
     refine ⟨_,κ.L,he,hC.later hb,.t _ _ ?_⟩
     have hcl:=Lib.countB_le ⟨#[32]⟩ (by decide) _ s (Nat.le_refl _)
     obtain ⟨W,hW⟩:∃ W,Lib.splitB ⟨#[32]⟩ 0 (Lib.countB s ⟨#[32]⟩) s=W:=⟨_,rfl⟩
     rw [hW] at hlen hw ⊢
     have hel:(W.map fun w=>[AV.str w]).length=Lib.countB s ⟨#[32]⟩+1:=by rw [List.length_map,hlen]
     rw [← hel]
     have hrc:=RC.lit w (W.map Value.string).toArray 9
     have hw':w'=w.alloc (.cells (W.map Value.string).toArray 9):=hw
     rw [← hw'] at hrc
     obtain ⟨b,o,hbo,hbl,hcell⟩:=hrc (by simp;omega)
     cases hbo
     refine VR.arr _ _ _ 1 _ (fun k _=>(W.map Value.string).getD k undef) (by intro h0;rw [h0] at hel;simp at hel) (by rw [hel];omega) (Nat.le_refl _) hbl hC.new_ok (fun k cs hk=>?_) (fun k j hk hj=>?_) (fun k j cs x hk hj=>?_)
     ·rw [List.getElem?_map] at hk
      cases hx:W[k]? with
      | none=>rw [hx] at hk;cases hk
      | some y=>rw [hx] at hk;cases hk;rfl
     ·rw [List.length_map] at hk
      have hj0:j=0:=by omega
      subst hj0
      have:=hcell k ((W.map Value.string).getD k undef) (by rw [List.getD_eq_getElem?_getD];simp [hk])
      simpa using this
     ·rw [List.getElem?_map] at hk
      cases hx:W[k]? with
      | none=>rw [hx] at hk;cases hk
      | some y=>
       rw [hx] at hk
       cases hk
       have hj0:j=0:=by have:=lt_of_get hj;simp at this;omega
       subst hj0
       cases hj
       rw [List.getD_eq_getElem?_getD,List.getElem?_map,hx]
       exact .str y
    ·cases h
 ·rename_i s
  split at h
  ·rename_i hf
   rw [Bool.and_eq_true] at hf
   obtain ⟨hf,hsz⟩:=hf
   have hf:f=51:=by simpa using hf
   have hsz:=of_decide_eq_true hsz
   subst hf
   refine ⟨⟨_,Tryz.func51,by kernel_rfl,by kernel_rfl⟩,fun κ w us hC hκ hs hv=>?_⟩
   obtain rfl:=one_arg hs hv
   split at h
   ·rename_i v hv'
    cases h
    refine (Tryz.strconv_Atoi_ok s (by omega) v hv' w).mono fun e w' ⟨he,hw⟩=>?_
    have hb:Below w.heap.size w w':=by
     rcases hw with rfl|⟨t,rfl⟩
     ·exact Below.refl _ _
     ·exact Lib.bytesWorld_below _ _ _
    exact ⟨_,κ.L,he,hC.later hb,sr_two (.t _ _ (.int _ _)) (.t _ _ (.lit _ rfl))⟩
   ·rename_i hno
    cases h
    refine (atoi_bad s hsz (fun v h=>hno v h) w hC.glob.2).mono fun e w' ⟨te,pe,he,hb⟩=>?_
    exact ⟨_,κ.L,he,hC.later hb,sr_two (.t _ _ (.int _ _)) (.t _ _ (.ifn _ _))⟩
  ·cases h
 ·cases h
theorem wfV:Wf cfg gamV where
 seq:=fun gf xs yss wh h lb hl=>by
  cases h
 mixed:=by kernel_rfl
 fns:=fun f hf=>by
  have hl:((List.range 100).all fun f=>!okT f || wfF cfg f)=true:=by kernel_rfl
  have hf:okT f=true:=hf
  have hle:f < 100:=by
   have h:=hf
   unfold okT at h
   split at h
   ·cases h
   ·simpa using h
  have:=List.all_eq_true.1 hl f (List.mem_range.2 hle)
  rw [hf] at this
  simpa using this
 ext:=fun f xs r fr' h=>by
  have h:extA f xs=some (r,fr'):=h
  unfold extA at h
  split at h
  ·rename_i q hq
   cases h
   exact wf_ext (γ:=gamV) (fun _ h=>h.1) f xs r fr' hq
  ·exact wf_extP f xs r fr' h
end Go.Proofs.YtjdhnoffoknlnaaGreatDoor
