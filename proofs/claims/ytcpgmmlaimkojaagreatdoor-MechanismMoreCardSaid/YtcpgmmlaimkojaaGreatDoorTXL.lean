/- Law 27: what lies outside: the library's contracts;the configuration without iterators and references with hide. Condition: the library's table of white space stands. -/
import Derived.Test.YtcpgmmlaimkojaaGreatDoorXDL
import Derived.Test.YtcpgmmlaimkojaaGreatDoorTV
import Derived.Test.YtcpgmmlaimkojaaGreatDoorTX
import Derived.Test.YtcpgmmlaimkojaaGreatDoorWQ
import Derived.Test.YtcpgmmlaimkojaaGreatDoorShelf
import Derived.Test.YtcpgmmlaimkojaaGreatDoorTM
import Derived.Test.YtcpgmmlaimkojaaGreatDoorTNC
import Derived.Test.YtcpgmmlaimkojaaGreatDoorTS
import Derived.Test.YtcpgmmlaimkojaaGreatDoorTLX
import Derived.Test.YtcpgmmlaimkojaaGreatDoorTC
set_option linter.unusedSimpArgs false
set_option linter.unusedVariables false
set_option linter.unusedSectionVars false
namespace Go.Proofs.YtcpgmmlaimkojaaGreatDoor
open Go.RowKit
set_option maxRecDepth 100000
def TabS (w : World) : Prop := Lib.TabIs Tryz.prog w "strings.asciiSpace" .u8 Lib.asciiSpaceTab
theorem gTabS : Tryz.prog.globalNamed "strings.asciiSpace" = some 0 := by kernel_rfl
theorem tabS_heap {w w':World} (h:TabS w) (he:w'.heap[0]?=w.heap[0]?):TabS w':=by
 unfold TabS Lib.TabIs World.var? at h ⊢
 rw [gTabS] at h ⊢
 simp only [Option.bind_some] at h ⊢
 rw [he]
 exact h
theorem tabS_lt {w:World} (h:TabS w):0 < w.heap.size:=by
 unfold TabS Lib.TabIs World.var? at h
 rw [gTabS] at h
 simp only [Option.bind_some] at h
 rcases Nat.lt_or_ge 0 w.heap.size with h1|h1
 ·exact h1
 ·rw [Array.getElem?_eq_none h1] at h;cases h
def gamS:Glob where
 G:=TabS
 n:=0+1
 stays:=fun w w' h hk=>tabS_heap h (hk _ (Nat.lt_succ_self _))
theorem vr_u8 {M:Nat→Prop} {w:World} {s:ByteArray} {c:Int} {us:Array Value} (hs:us.size=2) (hv:∀ (j:Nat) (x:AV) (u:Value),[AV.str s,AV.int .u8 c][j]?=some x→us[j]?=some u→VR M w x u):us=#[.string s,.int .u8 c]:=by
 have h0:=vr_str (hv 0 _ us[0] rfl (by rw [Array.getElem?_eq_getElem (by omega)]))
 have h1:=vr_int (hv 1 _ us[1] rfl (by rw [Array.getElem?_eq_getElem (by omega)]))
 apply Array.ext
 ·simp [hs]
 ·intro i h2 h3
  have:i=0∨i=1:=by simp at h3;omega
  rcases this with rfl|rfl
  ·simpa using h0
  ·simpa using h1
theorem vr_uu {M:Nat→Prop} {w:World} {x y:Int} {us:Array Value} (hs:us.size=2) (hv:∀ (j:Nat) (z:AV) (u:Value),[AV.int .u64 x,AV.int .u64 y][j]?=some z→us[j]?=some u→VR M w z u):us=#[.int .u64 x,.int .u64 y]:=by
 have h0:=vr_int (hv 0 _ us[0] rfl (by rw [Array.getElem?_eq_getElem (by omega)]))
 have h1:=vr_int (hv 1 _ us[1] rfl (by rw [Array.getElem?_eq_getElem (by omega)]))
 apply Array.ext
 ·simp [hs]
 ·intro i h2 h3
  have:i=0∨i=1:=by simp at h3;omega
  rcases this with rfl|rfl
  ·simpa using h0
  ·simpa using h1
theorem vr_one {M:Nat→Prop} {w:World} {us:Array Value} {s:ByteArray} (hs:us.size=1) (hv:∀ (j:Nat) (x:AV) (u:Value),[AV.str s][j]?=some x→us[j]?=some u→VR M w x u):us=#[.string s]:=by
 have h0:=vr_str (hv 0 _ us[0] rfl (by rw [Array.getElem?_eq_getElem (by omega)]))
 apply Array.ext
 ·simp [hs]
 ·intro i h2 h3
  have:i=0:=by simp at h3;omega
  subst this
  simpa using h0
theorem kw_fields:Lib.fields kwTx.data.toList=kwL:=by kernel_rfl
theorem kw_ascii:(kwTx.data.toList.all fun b=>decide (b.toNat < 128))=true:=by kernel_rfl
theorem wf_extM (f:Nat) (xs:List AV) (r:SV) (fr':Fr) (h:extM f xs=some (r,fr')):Known Tryz.prog f∧∀ (κ:Ctx) (w:World) (us:Array Value),Core gamS κ [] κ.L w→κ.W=w→us.size=xs.length→(∀ (j:Nat) (x:AV) (u:Value),xs[j]?=some x→us[j]?=some u→VR (MA κ.M [] κ.L) w x u)→
  Calls Tryz.prog f us w fun e w'=>∃ v L',e=.returned v∧Core gamS κ fr' L' w'∧SR (MA κ.M fr' L') L' w' r v:=by
 unfold extM at h
 split at h
 ·cases h
 rename_i hnh
 replace h:extL f xs=some (r,fr'):=h
 unfold extL at h
 split at h
 ·rename_i s
  split at h
  ·rename_i hf
   rw [Bool.and_eq_true] at hf
   obtain ⟨hf,hs⟩:=hf
   have hf:f=178:=by simpa using hf
   have hs:s=kwTx:=of_decide_eq_true hs
   subst hf hs
   cases h
   refine ⟨⟨_,Tryz.func178,by kernel_rfl,by kernel_rfl⟩,fun κ w us hC hκ hs hv=>?_⟩
   obtain rfl:=vr_one hs hv
   refine (Tryz.strings_Fields_laid kwTx w (of_decide_eq_true (by kernel_rfl)) (fun j b hb=>of_decide_eq_true (List.all_eq_true.1 kw_ascii b (List.mem_of_getElem? hb))) hC.glob).mono fun e w' ⟨he,hw⟩=>?_
   rw [kw_fields] at he hw
   have hb:Below w.heap.size w w':=by rw [hw];exact (Below.refl _ _).alloc (Nat.le_refl _) _
   refine ⟨_,κ.L,he,hC.later hb,.t _ _ ?_⟩
   obtain ⟨W,hW⟩:∃ W,kwL=W:=⟨_,rfl⟩
   have hWl:W.length≤1000:=by rw [← hW];decide
   have hWn:W≠[]:=by rw [← hW];decide
   rw [hW] at hw ⊢
   have hel:(W.map fun w=>[AV.str ⟨w.toArray⟩]).length=W.length:=List.length_map _
   rw [← hel]
   have hrc:=RC.lit w (W.map fun l=>Value.string ⟨l.toArray⟩).toArray 9
   have hw':w'=w.alloc (.cells (W.map fun l=>Value.string ⟨l.toArray⟩).toArray 9):=hw
   rw [← hw'] at hrc
   obtain ⟨b,o,hbo,hbl,hcell⟩:=hrc (by simpa using List.length_pos_iff.2 hWn)
   cases hbo
   refine VR.arr _ _ _ 1 _ (fun k _=>(W.map fun l=>Value.string ⟨l.toArray⟩).getD k undef) (by intro h0;exact hWn (List.map_eq_nil_iff.1 h0)) (by rw [hel];omega) (Nat.le_refl _) hbl hC.new_ok (fun k cs hk=>?_) (fun k j hk hj=>?_) (fun k j cs x hk hj=>?_)
   ·rw [List.getElem?_map] at hk
    cases hx:W[k]? with
    | none=>rw [hx] at hk;cases hk
    | some y=>rw [hx] at hk;cases hk;rfl
   ·rw [List.length_map] at hk
    have hj0:j=0:=by omega
    subst hj0
    have:=hcell k ((W.map fun l=>Value.string ⟨l.toArray⟩).getD k undef) (by rw [List.getD_eq_getElem?_getD];simp [hk])
    simpa using this
   ·rw [List.getElem?_map] at hk
    cases hx:W[k]? with
    | none=>rw [hx] at hk;cases hk
    | some y=>
     rw [hx] at hk
     cases hk
     have hj0:j=0:=by have:=lt_of_get hj;simp at this;omega
     subst hj0
     cases hj
     rw [List.getD_eq_getElem?_getD,List.getElem?_map,hx]
     exact .str _
  ·cases h
 ·rename_i s c
  split at h
  ·rename_i hf
   rw [Bool.and_eq_true] at hf
   obtain ⟨hf,hc⟩:=hf
   have hf:f=181:=by simpa using hf
   have hc:=of_decide_eq_true hc
   subst hf
   cases h
   refine ⟨⟨_,Tryz.func181,by kernel_rfl,by kernel_rfl⟩,fun κ w us hC hκ hs hv=>?_⟩
   obtain rfl:=vr_u8 hs hv
   exact (Tryz.strings_IndexByte s c w).mono fun e w' ⟨he,hw⟩=>⟨_,κ.L,he,by rw [hw];exact hC,.t _ _ (.int _ _)⟩
  ·cases h
 ·rename_i x y
  split at h
  ·rename_i hf
   rw [Bool.and_eq_true] at hf
   obtain ⟨hf,hc⟩:=hf
   have hf:f=142:=by simpa using hf
   obtain ⟨hx0,hx1,hy0,hy1⟩:=of_decide_eq_true hc
   subst hf
   cases h
   refine ⟨⟨_,Tryz.func142,by kernel_rfl,by kernel_rfl⟩,fun κ w us hC hκ hs hv=>?_⟩
   obtain rfl:=vr_uu hs hv
   have ex:((x.toNat:Nat):Int)=x:=by omega
   have ey:((y.toNat:Nat):Int)=y:=by omega
   have hc:=Tryz.bits_Mul x.toNat y.toNat (by omega) (by omega) w
   rw [ex,ey] at hc
   refine hc.mono fun e w' ⟨he,hw⟩=>⟨_,κ.L,he,by rw [hw];exact hC,.tup _ _ rfl fun j s z hs hz=>?_⟩
   match j with
   | 0=>simp at hs hz;subst hs hz;exact .t _ _ (.int _ _)
   | 1=>simp at hs hz;subst hs hz;exact .t _ _ (.int _ _)
   | j+2=>simp at hs
  ·cases h
 ·split at h
  ·rename_i hf
   rw [Bool.and_eq_true] at hf
   rw [hf.1] at hnh
   cases hnh
  ·cases h
 ·cases h
theorem fns_ok:((List.range 192).all fun f=>!okT f || wfF cfg f)=true:=by kernel_rfl
theorem okT_fns (f:Nat) (hf:okT f=true):wfF cfg f=true:=by
 have hle:f < 192:=by
  have h:=hf
  unfold okT at h
  split at h
  ·cases h
  ·simpa using h
 have:=List.all_eq_true.1 fns_ok f (List.mem_range.2 hle)
 rw [hf] at this
 simpa using this
theorem wfC_low {g:Cfg} {x:Nat→List AV→Option (SV×Fr)} {f n:Nat}:∀ c:Code,wfC (g.low x) f n c=wfC g f n c
 | .seq a b=>by unfold wfC;rw [wfC_low a,wfC_low b]
 | .cond _ a b=>by unfold wfC;rw [wfC_low a,wfC_low b]
 | .block _ b=>by unfold wfC;rw [wfC_low b]
 | .loop b=>by unfold wfC;rw [wfC_low b]
 | .rangeFunc _ ps a b=>by unfold wfC;rw [wfC_low a,wfC_low b]
 | .region _ _ _=>rfl
 | .skip=>rfl
 | .scope _=>rfl
 | .goto _=>rfl
 | .label ..=>rfl
 | .exit _=>rfl
 | .ret=>rfl
 | .refuse _=>rfl
theorem exhT_ok:CallSnd Tryz.prog gamS exhT:=fun f args fr r fr' h=>by
 have h:exhT f args fr=some (r,fr'):=h
 unfold exhT at h
 split at h
 ·rename_i hf
  have hf:f=34:=by simpa using hf
  subst hf
  exact del_ok delE_w h
 ·split at h
  ·rename_i hf
   have hf:f=36:=by simpa using hf
   subst hf
   exact del_ok delM_w h
  ·split at h
   ·rename_i hf
    have hf:f=38:=by simpa using hf
    subst hf
    exact del_ok delL_w h
   ·cases h
theorem wfL:Wf cfgL gamS where
 exh:=exhT_ok
 mixed:=by kernel_rfl
 fns:=fun f hf=>by
  have h:=okT_fns f hf
  unfold wfF at h ⊢
  have h2:cfgL.P=cfg.P:=rfl
  rw [h2]
  split at h
  ·cases h
  ·rename_i fn hfn
   try simp only [hfn]
   split at h
   ·cases h
   ·rename_i c hc
    try simp only [hc]
    unfold cfgL
    rw [wfC_low]
    exact h
 ext:=wf_extM
end Go.Proofs.YtcpgmmlaimkojaaGreatDoor
namespace Go.Proofs.YtcpgmmlaimkojaaGreatDoor
open Go.RowKit
set_option maxRecDepth 100000
set_option maxHeartbeats 16000000
def truT (n:Nat):List AV:=List.replicate n (.bool true)
theorem truT_at {n j:Nat} (h:j < n):((truT n).map SV.t)[j]?=some (.t (.bool true)):=by unfold truT;rw [List.getElem?_map,List.getElem?_replicate,if_pos h];rfl
theorem any_mem {O:List Int} {t:Int} {b:Bool} (h:decide (t∈O)=b):(O.any fun u=>decide (u=t))=b:=by
 rw [← h]
 cases hm:O.any fun u=>decide (u=t) with
 | true=>
  obtain ⟨u,hu,he⟩:=List.any_eq_true.1 hm
  obtain rfl:u=t:=of_decide_eq_true he
  exact (decide_eq_true hu).symm
 | false=>
  refine (decide_eq_false fun hu=>?_).symm
  rw [List.any_eq_false] at hm
  exact hm t hu (by simp)
theorem hcl_c (h:Hde) (t:Int) (O:List Int):Cl cfgL 124 [.t (.agg [.int .i64 h.table,.int .i64 h.col,.int .i64 h.to]),.t (.tp [.int .i64 t]),.t (.tp [.mp (intK O) (truT O.length)])] [] (.t (.bool (decide (h.table=t) && decide (h.to∈O)))) []:=by
 refine Cl.of_body rfl Tryz.func124 rfl rfl rfl ?_
 by_cases ht:h.table=t
 ·
  rw [decide_eq_true ht,Bool.true_and]
  cases hm:decide (h.to∈O) with
  | true=>
   obtain ⟨j,hf,hj⟩:=fint_yes (any_mem hm)
   have hz:=truT_at hj
   repeat' (first
|(with_reducible apply EvK.seq)
|((with_reducible apply EvK.text);(try case hm=>exact rfl))
|(with_reducible apply EvK.ret)
|((with_reducible apply EvO.spd_t);(case hp=>exact fao))
|(with_reducible apply EvO.nilT)
|((with_reducible apply EvO.gt0);(case hW=>exact rfl);(case hx=>first
|((with_reducible apply OpR.lki);(case hm|hk|ho=>exact rfl);(case hf=>exact hf);(case hz=>exact hz))
|exact opq))
|((with_reducible apply EvO.u0);(case hx=>exact opq))
|fail)
   exact ⟨.inr rfl,rfl⟩
  | false=>
   have hf:=fint_no (any_mem hm)
   repeat' (first
|(with_reducible apply EvK.seq)
|((with_reducible apply EvK.text);(try case hm=>exact rfl))
|(with_reducible apply EvK.ret)
|((with_reducible apply EvO.spd_t);(case hp=>exact fao))
|(with_reducible apply EvO.nilT)
|((with_reducible apply EvO.gt0);(case hW=>exact rfl);(case hx=>first
|((with_reducible apply OpR.lk);(case hm|hk|ho=>exact rfl);(case hf=>exact hf);(case hz=>exact rfl))
|exact opq))
|((with_reducible apply EvO.u0);(case hx=>exact opq))
|fail)
   exact ⟨.inr rfl,rfl⟩
 ·
  rw [decide_eq_false ht,Bool.false_and]
  exact drv
theorem idxhd_c {C:List Hde} {p:Hde→Bool} {c1 c2:AV} (hl:C.length≤140737488351232) (hp:∀ x∈C,Cl cfgL 124 [.t (.agg [.int .i64 x.table,.int .i64 x.col,.int .i64 x.to]),.t c1,.t c2] [] (.t (.bool (p x))) []):Cl cfgL 150 [.t (.arr (hdE C)),.t (.fn (.func 124) 0 [c1,c2])] [] (.t (.int .i64 (idxS p C 0))) []:=by
 have hlE:=hdE_len C
 refine Cl.of_body rfl Tryz.func150 rfl rfl rfl ?_
 refine drvR ?_
 refine EvL.ind (fun q:Nat=>[(8,.t (.int .i64 (q:Int)))]) (fun q=>q≤C.length∧idxS p C 0=idxS p (C.drop q) q) (fun q=>C.length - q) 0 rfl (by simp) (fun q hq=>?_)
 obtain ⟨h1,h2⟩:=hq
 rw [h2]
 rcases Nat.lt_or_ge q C.length with h3|h3
 ·
  obtain ⟨e,he⟩:=get_of_lt h3
  have hc:=hdE_get he
  have hpn:=hp e (List.mem_of_getElem? he)
  rw [drop_at he,idxS_cons]
  obtain ⟨b,hb⟩:∃ b,p e=b:=⟨_,rfl⟩
  rw [hb] at hpn ⊢
  cases b with
  | true=>
   exact drv
  | false=>
   exact drv
 ·
  rw [List.drop_of_length_le h3]
  exact drv
theorem conhd_c {C:List Hde} {p:Hde→Bool} {c1 c2:AV} (hl:C.length≤140737488351232) (hp:∀ x∈C,Cl cfgL 124 [.t (.agg [.int .i64 x.table,.int .i64 x.col,.int .i64 x.to]),.t c1,.t c2] [] (.t (.bool (p x))) []):Cl cfgL 123 [.t (.arr (hdE C)),.t (.fn (.func 124) 0 [c1,c2])] [] (.t (.bool (C.any p))) []:=by
 have hi:=idxhd_c hl hp
 rw [← idxS_any p C 0 (by omega)]
 refine Cl.of_body rfl Tryz.func123 rfl rfl rfl ?_
 obtain ⟨n,hn⟩:∃ n,idxS p C 0=n:=⟨_,rfl⟩
 rw [hn] at hi ⊢
 exact drv
end Go.Proofs.YtcpgmmlaimkojaaGreatDoor
namespace Go.Proofs.YtcpgmmlaimkojaaGreatDoor
open Go.RowKit
set_option maxRecDepth 100000
set_option maxHeartbeats 4000000
def Code.p0:Code→Code
 | .seq a _=>a
 | .block _ b=>b
 | .loop b=>b
 | c=>c
def Code.p1:Code→Code
 | .seq _ b=>b
 | c=>c
noncomputable def passK:Code:=match Tryz.f90.body with
 | some c=>Code.p0 (Code.p1 (Code.p1 (Code.p0 (Code.p0 (Code.p1 (Code.p0 (Code.p1 (Code.p1 (Code.p1 (Code.p1 (Code.p1 c)))))))))))
 | none=>.skip
abbrev jsL (a0 a2 a3 a4 a5 a7:List (List AV)) (tb:List Tb) (hd:List Hde):List AV:=[.arr a0,.arr (tbE tb),.arr a2,.arr a3,.arr a4,.arr a5,.arr (hdE hd),.arr a7]
def frH (js:List AV) (O:List Int):Fr:=[.box false 138 (js.map .t),.map false (intK O) (truV O.length),.box false 143 [.lm 1]]
def slH (n:Nat) (q:Int):List (Nat×SV):=[(1,.lp 0 0),(7,.lp 2 0),(116,.t (.int .i64 (n:Int))),(117,.t (.int .i64 q))]
abbrev kapH (M:Nat→Prop) (W:World):Ctx:=⟨M,fun _=>False,fun _=>False,W,fun _=>none⟩
section
variable {M:Nat→Prop} {W:World} {js:List AV} {hd:List Hde} {n:Nat} {O:List Int}
theorem erase_filter {O:List Int} (hn:O.Nodup) {j:Nat} {t:Int} (h:O[j]?=some t):O.eraseIdx j=O.filter fun x=>!decide (x=t):=by
 induction O generalizing j with
 | nil=>simp at h
 | cons x O ih=>
  obtain ⟨h1,h2⟩:=List.nodup_cons.1 hn
  cases j with
  | zero=>
   simp at h
   subst h
   rw [List.eraseIdx_cons_zero,List.filter_cons]
   simp only [decide_true,Bool.not_true,Bool.false_eq_true,if_false]
   exact (List.filter_eq_self.2 fun y hy=>by simp;rintro rfl;exact h1 hy).symm
  | succ j=>
   have h':O[j]?=some t:=by simpa using h
   have hne:x≠t:=by rintro rfl;exact h1 (List.mem_of_getElem? h')
   rw [List.eraseIdx_cons_succ,List.filter_cons,ih h2 h']
   simp [hne]
theorem fint_at {t:Int} {O:List Int} (h:t∈O):∃ j,findA (.int .i64) (.int .i64 t) (intK O) 0=some (some j)∧O[j]?=some t:=by
 have ha:(O.any fun u=>decide (u=t))=true:=any_mem (decide_eq_true h)
 refine ⟨O.findIdx fun u=>decide (u=t),by rw [findA_int,if_pos ha,Nat.zero_add],?_⟩
 have hl:(O.findIdx fun u=>decide (u=t)) < O.length:=List.findIdx_lt_length_of_exists ⟨t,h,by simp⟩
 rw [List.getElem?_eq_getElem hl]
 have:=List.findIdx_getElem (w:=hl)
 simpa using this
theorem intK_erase (O:List Int) (j:Nat):(intK O).eraseIdx j=intK (O.eraseIdx j):=by unfold intK;rw [Go.ChangeMaps.map_eraseIdx]
theorem truV_erase {n j:Nat} (h:j < n):(truV n).eraseIdx j=truV (n - 1):=by unfold truV;rw [List.eraseIdx_replicate,if_pos h]
theorem frH_erase {j:Nat} {t:Int} (h:O[j]?=some t):(frH js O).set 1 (.map false ((intK O).eraseIdx j) ((truV O.length).eraseIdx j))=frH js (O.eraseIdx j):=by
 have hl:=lt_of_get h
 rw [intK_erase,truV_erase hl]
 unfold frH
 rw [List.length_eraseIdx_of_lt hl]
 rfl
structure PassH (M:Nat→Prop) (W:World) (js:List AV) (hd:List Hde) (n:Nat) (O:List Int) (L:Ls) (bm r clock:Nat) (kp:List (Nat×Value)) (ds:List Deferred) (m:Nat) (a:Act) (w:World):Prop where
 ex:∃ (cur seen:List Int) (ents:Array MapEntry) (stamps:Array Nat) (c0:Nat),PassI hd n O seen cur∧Core gamS (kapH M W) (frH js cur) L w∧w.heap[bm]?=some (.map ents clock)∧w.heap[r]?=some (.mapIter (some bm) clock stamps c0)∧clock≤c0∧m=(leftOf ents stamps).size∧∀ (j:Nat) (e:MapEntry) (t:Int),ents[j]?=some e→cur[j]?=some t→stamps.contains e.born=true→t∈seen
 size:a.tmps.size=Tryz.f90.ntmps
 dfr:a.defers=ds
 kept:Kp kp a
 marks:Marks (kapH M W) w ds
end
theorem Marks.other {κ:Ctx} {w:World} {ds:List Deferred} {x:Nat} {o o':Obj} (h:Marks κ w ds) (hx:w.heap[x]?=some o) (ho:∀ l,o≠.deferred l):Marks κ (w.putObj x o') ds:=by
 obtain ⟨⟨Ds,h1,h2,h3⟩,h4⟩:=h
 refine ⟨⟨Ds,h1,h2,fun D hD=>⟨(h3 D hD).1,?_⟩⟩,h4⟩
 have hne:D≠x:=fun e=>by subst e;rw [(h3 D hD).2] at hx;cases hx;exact ho _ rfl
 exact (World.putObj_heap_other hne).trans (h3 D hD).2
theorem left_erase (es:Array MapEntry) (st:Array Nat) (j:Nat):(leftOf (es.eraseIdxIfInBounds j) st).size≤(leftOf es st).size:=by
 have e1:∀ x:Array MapEntry,(leftOf x st).size=(x.toList.filter fun e=>!st.contains e.born).length:=fun x=>by
  rw [← Array.length_toList (xs:=leftOf x st)]
  unfold leftOf
  rw [Array.toList_filter]
 rw [e1,e1,toList_erase]
 exact ((List.eraseIdx_sublist es.toList j).filter _).length_le
theorem Marks.drewN {κ:Ctx} {w:World} {ds:List Deferred} (h:Marks κ w ds):Marks κ w.drew ds:=h
section
variable {M:Nat→Prop} {W:World} {a0 a2 a3 a4 a5 a7:List (List AV)} {tb:List Tb} {hd:List Hde} {n k len:Nat} {O:List Int} {q:Int}
theorem hid_pass (hhd:hd.length≤140737488351232) (hI:InvH hd n k O) {a:Act} {w:World} (hA:At gamS (kapH M W) Tryz.f90.ntmps (mkEnv (slH len q)) (frH (jsL a0 a2 a3 a4 a5 a7 tb hd) O) a w) {dn:Nat} {Q:Exit→Act→World→Prop}
  (hQ:∀ O' a' w',InvH hd n (k+1) O'→At gamS (kapH M W) Tryz.f90.ntmps (mkEnv (slH len q)) (frH (jsL a0 a2 a3 a4 a5 a7 tb hd) O') a' w'→Q .normal a' w'):passK.wpIn (Fw none) dn Tryz.prog Q a w:=by
 obtain ⟨hmk,hn,L,hC,hV⟩:=hA
 have h7:SR _ L w (.lp 2 0) (a.tmps.getD 7 undef):=hV 7
 have h1:SR _ L w (.lp 0 0) (a.tmps.getD 1 undef):=hV 1
 have h116:=inv_int (k:=.i64) (n:=(len:Int)) (hV 116)
 have h117:=inv_int (k:=.i64) (n:=q) (hV 117)
 obtain ⟨g7,hL2,hv7⟩:=inv_lp h7
 obtain ⟨g1,hL0,hv1⟩:=inv_lp h1
 obtain ⟨bm,ents,clock,hL1,hb,_⟩:=hC.blk 1 _ rfl
 obtain ⟨u7,hu7,hu7'⟩:=loadS_ok (P:=Tryz.prog) (t:=143) (x:=.lm 1) hC (by kernel_rfl) h7
 have hu7:(Instr.loadAt 143 (a.tmps.getD 7 undef)).run Tryz.prog w=.ok (.map (some bm)) w:=by
  cases hu7' with
  | lm _ r hr=>rw [hL1] at hr;cases hr;exact hu7
 refine wpIn_block ?_
 refine wpIn_seq ?_
 refine wpIn_region_lit ?_
 refine wpl_val rfl (exec_v rfl hu7) ?_
 have e119:(a.put (some 119) (.map (some bm))).eval (.tmp 119)=.map (some bm):=put_at (by rw [hn];decide)
 refine wpl_val rfl (exec_v rfl (w':=w.alloc (.mapIter (some bm) clock #[] clock)) (v:=.pointer (some ⟨w.heap.size,0,none⟩)) (by rw [e119];exact run_range_map w 143 _ _ bm ents clock Tryz.underlying143 hb)) ?_
 have hr0:(w.alloc (.mapIter (some bm) clock #[] clock)).heap[w.heap.size]?=some (.mapIter (some bm) clock #[] clock):=heap_alloc_new _ _
 have hbl0:Below w.heap.size w (w.alloc (.mapIter (some bm) clock #[] clock)):=(Below.refl _ _).alloc (Nat.le_refl _) _
 generalize hr:w.heap.size=r at hr0 hbl0 ⊢
 have hbm:=(Array.getElem?_eq_some_iff.1 hb).1
 have hrb:bm≠r:=by omega
 have hrW:W.heap.size≤r:=by have h0:W.heap.size≤w.heap.size:=hC.size;omega
 generalize hwX:w.alloc (.mapIter (some bm) clock #[] clock)=X at hr0 hbl0 ⊢
 have hsz:∀ (v u:Value),(((a.put (some 119) v).put (some 120) u)).tmps.size=Tryz.f90.ntmps:=fun v u=>by rw [put_size,put_size,hn]
 have hkp:∀ (v u:Value),Kp [(1,.pointer (some ⟨g1,0,none⟩)),(7,.pointer (some ⟨g7,0,none⟩)),(116,.int .i64 (len:Int)),(117,.int .i64 q),(120,u)] ((a.put (some 119) v).put (some 120) u):=fun v u p hp=>by
  simp only [List.mem_cons,List.not_mem_nil,or_false] at hp
  rcases hp with rfl|rfl|rfl|rfl|rfl
  ·rw [put_off (by simp),put_off (by simp)];exact hv1
  ·rw [put_off (by simp),put_off (by simp)];exact hv7
  ·rw [put_off (by simp),put_off (by simp)];exact h116
  ·rw [put_off (by simp),put_off (by simp)];exact h117
  ·exact put_at (by rw [put_size,hn];decide)
 have inv0:PassH M W (jsL a0 a2 a3 a4 a5 a7 tb hd) hd n O L bm r clock [(1,.pointer (some ⟨g1,0,none⟩)),(7,.pointer (some ⟨g7,0,none⟩)),(116,.int .i64 (len:Int)),(117,.int .i64 q),(120,.pointer (some ⟨r,0,none⟩))] a.defers (leftOf ents #[]).size ((a.put (some 119) (.map (some bm))).put (some 120) (.pointer (some ⟨r,0,none⟩))) X:=
  ⟨⟨O,[],ents,#[],clock,PassI.start,hC.later (by rw [hr];exact hbl0),(hbl0.block _ (by omega)).trans hb,hr0,Nat.le_refl _,rfl,fun j e t _ _ h=>by simp at h⟩,hsz _ _,by rw [put_defers,put_defers],hkp _ _,hmk.below (by rw [hr];exact hbl0)⟩
 show Code.wpIn _ _ _ _ _ _ _
 refine wpIn_block ?_
 refine wpIn_loop_ghost (PassH M W (jsL a0 a2 a3 a4 a5 a7 tb hd) hd n O L bm r clock [(1,.pointer (some ⟨g1,0,none⟩)),(7,.pointer (some ⟨g7,0,none⟩)),(116,.int .i64 (len:Int)),(117,.int .i64 q),(120,.pointer (some ⟨r,0,none⟩))] a.defers) _ inv0 ?_
 clear inv0 hkp hsz hu7' hu7 e119 hr0 hbl0 hV
 intro m b Y ⟨⟨cur,seen,es,st,c0,hP,hCc,hbY,hrY,hc0,hme,hsn⟩,hsz,hds,hkp,hmY⟩
 obtain ⟨s1,s2,s3,s4,hst⟩:=hCc.map_of (i:=1) rfl hL1 hbY
 have at1:∀ (d:Nat) (v:Value),d < Tryz.f90.ntmps→(b.put (some d) v).eval (.tmp d)=v:=fun d v hd=>put_at (by rw [hsz];exact hd)
 have e120:b.eval (.tmp 120)=.pointer (some ⟨r,0,none⟩):=hkp (120,.pointer (some ⟨r,0,none⟩)) (by simp)
 have back:∀ {O':List Int} {a':Act} {w':World},Core gamS (kapH M W) (frH (jsL a0 a2 a3 a4 a5 a7 tb hd) O') L w'→a'.tmps.size=Tryz.f90.ntmps→Kp [(1,.pointer (some ⟨g1,0,none⟩)),(7,.pointer (some ⟨g7,0,none⟩)),(116,.int .i64 (len:Int)),(117,.int .i64 q),(120,.pointer (some ⟨r,0,none⟩))] a'→Marks (kapH M W) w' a'.defers→At gamS (kapH M W) Tryz.f90.ntmps (mkEnv (slH len q)) (frH (jsL a0 a2 a3 a4 a5 a7 tb hd) O') a' w':=fun {O' a' w'} hc h1 h2 h3=>by
  refine ⟨h3,h1,L,hc,mkEnv_ok (tm:=fun t=>a'.tmps.getD t undef) _ fun p hp=>?_⟩
  unfold slH at hp
  simp only [List.mem_cons,List.not_mem_nil,or_false] at hp
  rcases hp with rfl|rfl|rfl|rfl
  ·show SR _ _ _ _ (a'.tmps.getD 1 undef);rw [h2 (1,.pointer (some ⟨g1,0,none⟩)) (by simp)];exact .lp _ _ _ hL0
  ·show SR _ _ _ _ (a'.tmps.getD 7 undef);rw [h2 (7,.pointer (some ⟨g7,0,none⟩)) (by simp)];exact .lp _ _ _ hL2
  ·show SR _ _ _ _ (a'.tmps.getD 116 undef);rw [h2 (116,.int .i64 (len:Int)) (by simp)];exact .t _ _ (.int _ _)
  ·show SR _ _ _ _ (a'.tmps.getD 117 undef);rw [h2 (117,.int .i64 q) (by simp)];exact .t _ _ (.int _ _)
 refine wpIn_seq ?_
 refine wpIn_region_lit ?_
 rcases run_next_at (P:=Tryz.prog) Y _ r bm clock c0 st es clock hrY hbY hst.lt hc0 with ⟨h0,hrun⟩|⟨e,he,w1,hw1,hrun⟩
 ·
  refine wpl_val rfl (exec_v rfl (by rw [e120];exact hrun)) ?_
  refine wpl_val rfl (exec_v rfl (v:=.bool false) (w':=Y) (by rw [at1 121 _ (by decide)];rfl)) ?_
  show Code.wpIn _ _ _ _ _ _ _
  refine wpIn_seq ?_
  refine wpIn_cond_split (t:=false) (put_at (by rw [put_size,hsz];decide)) (fun h=>by cases h) (fun _=>?_)
  refine wpIn_exit ?_
  refine hQ cur _ _ (hI.pass hP fun t ht=>?_) (back hCc (by rw [put_size,put_size,hsz]) ((hkp.put (by simp)).put (by simp)) (by rw [put_defers,put_defers,hds];exact hmY))
  obtain ⟨j,hj⟩:=List.mem_iff_getElem?.1 ht
  have hjl:j < es.size:=by rw [s1];simpa [intK] using lt_of_get hj
  have hej:es[j]?=some es[j]:=Array.getElem?_eq_getElem hjl
  exact hsn j _ t hej hj (left_none h0 (by simp))
 ·
  obtain ⟨he1,he2⟩:=mem_left he
  obtain ⟨j,hj⟩:=List.mem_iff_getElem?.1 he1
  have hj:es[j]?=some e:=by simpa using hj
  have hjl:j < cur.length:=by
   have:=(Array.getElem?_eq_some_iff.1 hj).1
   rw [s1] at this
   simpa [intK] using this
  obtain ⟨t,ht⟩:=get_of_lt hjl
  have hek:e.key=.int .i64 t:=vr_int (s3 j _ e (by unfold intK;rw [List.getElem?_map,ht];rfl) hj)
  have hev:e.val=.bool true:=inv_bool (s4 j _ e (truV_at hjl) hj)
  have hr1:w1.heap[r]?=some (.mapIter (some bm) clock st c0):=by rcases hw1 with rfl|rfl <;> exact hrY
  have hb1:w1.heap[bm]?=some (.map es clock):=by rcases hw1 with rfl|rfl <;> exact hbY
  have hC1:Core gamS (kapH M W) (frH (jsL a0 a2 a3 a4 a5 a7 tb hd) cur) L w1:=by rcases hw1 with rfl|rfl;exact hCc;exact hCc.later (Below.drew (Below.refl _ _))
  have hm1:Marks (kapH M W) w1 a.defers:=by rcases hw1 with rfl|rfl <;> exact hmY
  obtain ⟨Z,hZ⟩:∃ Z,Go.ChangeMaps.setBlock w1 r (.mapIter (some bm) clock (st.push e.born) clock)=Z:=⟨_,rfl⟩
  have hZ':w1.putObj r (.mapIter (some bm) clock (st.push e.born) clock)=Z:=hZ
  have hC2:Core gamS (kapH M W) (frH (jsL a0 a2 a3 a4 a5 a7 tb hd) cur) L Z:=by rw [← hZ'];exact hC1.lq (Lq.put hrW hr1 rfl)
  have hm2:Marks (kapH M W) Z a.defers:=by rw [← hZ'];exact hm1.other hr1 (fun l h=>by cases h)
  have hr2:Z.heap[r]?=some (.mapIter (some bm) clock (st.push e.born) clock):=by rw [← hZ'];exact World.putObj_heap_same (Array.getElem?_eq_some_iff.1 hr1).1
  have hb2:Z.heap[bm]?=some (.map es clock):=by rw [← hZ'];exact (World.putObj_heap_other hrb).trans hb1
  rw [hZ] at hrun
  clear hZ hZ' hC1 hm1 hr1 hb1 hw1
  refine wpl_val rfl (exec_v rfl (by rw [e120];exact hrun)) ?_
  refine wpl_val rfl (exec_v rfl (v:=.bool true) (w':=Z) (by rw [at1 121 _ (by decide)];rfl)) ?_
  show Code.wpIn _ _ _ _ _ _ _
  refine wpIn_seq ?_
  refine wpIn_cond_split (t:=true) (put_at (by rw [put_size,hsz];decide)) (fun _=>?_) (fun h=>by cases h)
  refine wpIn_skip ?_
  show Code.wpIn _ _ _ _ _ _ _
  refine wpIn_block ?_
  refine wpIn_seq ?_
  refine wpIn_region_lit ?_
  have hnb:(es.toList.map (·.born)).Nodup:=hst.up.imp fun h=>Nat.ne_of_lt h
  refine wpl_val rfl (exec_v rfl (v:=.tuple #[e.key,e.val]) (w':=Z) ?_) ?_
  ·have e120':((b.put (some 121) (.tuple #[.bool true,e.key,e.val])).put (some 122) (.bool true)).eval (.tmp 120)=.pointer (some ⟨r,0,none⟩):=(put_off (by simp)).trans ((put_off (by simp)).trans e120)
   rw [e120']
   exact run_entry_at Z r bm clock st es clock e hr2 hb2 he1 hnb
  have hCt:Core gamS ⟨fun _=>True,fun _=>False,fun _=>False,Z,fun _=>none⟩ [] (fun _=>none) Z:=hC2.pure _ fun _ _=>trivial
  have hT:∀ b,MA (fun _=>True) [] (fun _=>none) b:=fun b=>⟨trivial,fun ⟨i,_,_,h,_⟩=>by cases h⟩
  obtain ⟨t1,t2,t3,t4,_⟩:=hC2.map_of (i:=1) rfl hL1 hb2
  have vm:VR (MA (fun _=>True) [] fun _=>none) Z (.mp (intK cur) (truT cur.length)) (.map (some bm)):=.mp bm _ _ es clock (Array.getElem?_eq_some_iff.1 hb2).1 (hT _) hb2 t1 (by rw [t2];simp [truV,truT]) (fun j x u hx hu=>VR.on (Nat.le_refl _) (fun b _ _=>⟨hT b,rfl⟩) (t3 j x u hx hu)) fun j x u hx hu=>by
   have hjl2:=lt_of_get hx
   unfold truT at hx hjl2
   rw [List.length_replicate] at hjl2
   rw [List.getElem?_replicate,if_pos hjl2] at hx
   cases hx
   have:=inv_bool (t4 j _ u (truV_at hjl2) hu)
   rw [this]
   exact .bool true
  have v7:SR (MA (fun _=>True) [] fun _=>none) (fun _=>none) Z (.t (.tp [.mp (intK cur) (truT cur.length)])) (.pointer (some ⟨g7,0,none⟩)):=by
   obtain ⟨u,hu,hsr⟩:=box_cell hC2 (i:=2) (j:=0) (x:=.lm 1) rfl hL2 rfl
   have hub:u=.map (some bm):=by
    cases hsr with|lm _ r' h=>rw [hL1] at h;cases h;rfl
   subst hub
   refine .t _ _ (.tp g7 0 _ (fun _=>.map (some bm)) (by simp) (hC2.new 2 _ g7 _ hL2 rfl rfl).1 (hT _) (fun j hj=>?_) fun j x hx=>?_)
   ·have:j=0:=by simp at hj;omega
    subst this
    exact hu
   ·match j,hx with
    | 0,hx=>cases hx;exact vm
  have v1:SR (MA (fun _=>True) [] fun _=>none) (fun _=>none) Z (.t (.tp (jsL a0 a2 a3 a4 a5 a7 tb hd))) (.pointer (some ⟨g1,0,none⟩)):=
   .t _ _ ((toAV_ok hC2 (A:=MA (fun _=>True) [] fun _=>none) (fun b _=>hT b) deep).1 (.lp 0 0) _ _ rfl (fun _ _ _ b _ _=>hT b) (.lp _ _ _ hL0))
  refine ops_end (i:=1) (kp:=[(1,.pointer (some ⟨g1,0,none⟩)),(7,.pointer (some ⟨g7,0,none⟩)),(116,.int .i64 (len:Int)),(117,.int .i64 q),(120,.pointer (some ⟨r,0,none⟩))]) (ds:=a.defers) (n:=Tryz.f90.ntmps) (K:=fun e r=>e 1=.t (.tp (jsL a0 a2 a3 a4 a5 a7 tb hd))∧e 7=.t (.tp [.mp (intK cur) (truT cur.length)])∧e 10=.lp 0 0∧r=[.box false 3 [.t (.int .i64 t)]]) (env:=mkEnv [(1,.t (.tp (jsL a0 a2 a3 a4 a5 a7 tb hd))),(7,.t (.tp [.mp (intK cur) (truT cur.length)])),(123,.t (.tup [.int .i64 t,.bool true]))]) (fr:=[]) wfL ?_ (by simp) (by kernel_rfl) (by simp) (((hkp.put (by simp)).put (by simp)).put (by simp)) (by rw [put_defers,put_defers,put_defers,hds]) (by rw [put_size,put_size,put_size,hsz]) hCt (mkEnv_ok (tm:=fun t=>(((b.put (some 121) (.tuple #[.bool true,e.key,e.val])).put (some 122) (.bool true)).put (some 123) (.tuple #[e.key,e.val])).tmps.getD t undef) _ fun p hp=>?_) fun env1 fr1 L1 b1 Z1 hK1 hk1 hd1 hn1 hC3 hV3=>?_
  ·
   refine drvR ?_
   exact ⟨rfl,rfl,rfl,rfl⟩
  ·have k3:=((hkp.put (d:=some 121) (v:=.tuple #[.bool true,e.key,e.val]) (by simp)).put (d:=some 122) (v:=.bool true) (by simp)).put (d:=some 123) (v:=.tuple #[e.key,e.val]) (by simp)
   simp only [List.mem_cons,List.not_mem_nil,or_false] at hp
   rcases hp with rfl|rfl|rfl
   ·show SR _ _ _ _ (Array.getD _ 1 undef);rw [k3 (1,.pointer (some ⟨g1,0,none⟩)) (by simp)];exact v1
   ·show SR _ _ _ _ (Array.getD _ 7 undef);rw [k3 (7,.pointer (some ⟨g7,0,none⟩)) (by simp)];exact v7
   ·show SR _ _ _ _ (Array.getD _ 123 undef)
    rw [put_at (by rw [put_size,put_size,hsz];decide),hek,hev]
    refine .t _ _ (.tup _ _ rfl fun j x u hx hu=>?_)
    match j,hx,hu with
    | 0,hx,hu=>cases hx;simp at hu;rw [← hu];exact .int _ _
    | 1,hx,hu=>cases hx;simp at hu;rw [← hu];exact .bool _
  obtain ⟨y1,y7,y10,rfl⟩:=hK1
  show Code.wpIn _ _ _ _ _ _ _
  refine wpIn_seq ?_
  refine wpIn_region_lit ?_
  have kc:=conhd_c (C:=hd) (p:=fun h=>decide (h.table=t) && decide (h.to∈cur)) hhd (fun h _=>hcl_c h t cur)
  have hsk:sinkB hd cur t=!(hd.any fun h=>decide (h.table=t) && decide (h.to∈cur)):=rfl
  obtain ⟨bb,hbb⟩:∃ bb,(hd.any fun h=>decide (h.table=t) && decide (h.to∈cur))=bb:=⟨_,rfl⟩
  rw [hbb] at kc hsk
  refine ops_end (i:=0) (kp:=[(1,.pointer (some ⟨g1,0,none⟩)),(7,.pointer (some ⟨g7,0,none⟩)),(116,.int .i64 (len:Int)),(117,.int .i64 q),(120,.pointer (some ⟨r,0,none⟩))]) (ds:=a.defers) (n:=Tryz.f90.ntmps) (K:=fun e r=>e 130=.t (.bool (!bb))∧e 10=.lp 0 0∧r=[.box false 3 [.t (.int .i64 t)]]) (env:=mkEnv [(1,.t (.tp (jsL a0 a2 a3 a4 a5 a7 tb hd))),(7,.t (.tp [.mp (intK cur) (truT cur.length)])),(10,.lp 0 0)]) wfL ?_ (by simp) (by kernel_rfl) (by simp) hk1 hd1 hn1 hC3 (mkEnv_ok (tm:=fun t=>b1.tmps.getD t undef) _ fun p hp=>?_) fun env2 fr2 L2 b2 Z2 hK2 hk2 hd2 hn2 hC4 hV4=>?_
  ·
   refine drvR ?_
   exact ⟨rfl,rfl,rfl⟩
  ·simp only [List.mem_cons,List.not_mem_nil,or_false] at hp
   rcases hp with rfl|rfl|rfl
   ·rw [← y1];exact hV3 1
   ·rw [← y7];exact hV3 7
   ·rw [← y10];exact hV3 10
  obtain ⟨z130,z10,rfl⟩:=hK2
  have hbl:Below Z.heap.size Z Z2:=⟨hC4.os,hC4.tape,hC4.output,hC4.size,fun k hk=>hC4.kept k hk fun h=>h⟩
  have hC5:Core gamS (kapH M W) (frH (jsL a0 a2 a3 a4 a5 a7 tb hd) cur) L Z2:=hC2.later hbl
  have hb5:Z2.heap[bm]?=some (.map es clock):=(hbl.block _ (Array.getElem?_eq_some_iff.1 hb2).1).trans hb2
  have hr5:Z2.heap[r]?=some (.mapIter (some bm) clock (st.push e.born) clock):=(hbl.block _ (Array.getElem?_eq_some_iff.1 hr2).1).trans hr2
  have hm5:Marks (kapH M W) Z2 a.defers:=hm2.below hbl
  have hless:(leftOf es (st.push e.born)).size < m:=by rw [hme];exact left_shrinks es st e he
  have hsn5:∀ (j':Nat) (e':MapEntry) (t':Int),es[j']?=some e'→cur[j']?=some t'→(st.push e.born).contains e'.born=true→t'∈t::seen:=by
   intro j' e' t' q1 q2 q3
   rw [contains_push,Bool.or_eq_true] at q3
   rcases q3 with q3|q3
   ·exact List.mem_cons_of_mem _ (hsn j' e' t' q1 q2 q3)
   ·have hee:e'=e:=born_inj hnb (by rw [Array.mem_toList_iff];exact Array.mem_of_getElem? q1) he1 (by simpa using q3)
    have hk':e'.key=.int .i64 t':=vr_int (s3 j' _ e' (by unfold intK;rw [List.getElem?_map,q2];rfl) q1)
    rw [hee,hek] at hk'
    cases hk'
    exact List.mem_cons_self
  have e130:b2.eval (.tmp 130)=.bool (!bb):=inv_bool (by rw [← z130];exact hV4 130)
  have e7:b2.tmps.getD 7 undef=.pointer (some ⟨g7,0,none⟩):=hk2 (7,.pointer (some ⟨g7,0,none⟩)) (by simp)
  have e10:=hV4 10
  rw [z10] at e10
  show Code.wpIn _ _ _ _ _ _ _
  refine wpIn_cond_split e130 (fun hbt=>?_) (fun hbf=>?_)
  ·
   obtain ⟨u,hu1,hu2⟩:=loadS_ok (P:=Tryz.prog) (t:=143) (s:=.lp 2 0) (x:=.lm 1) (v:=b2.tmps.getD 7 undef) hC5 (by kernel_rfl) (by rw [e7];exact .lp _ _ _ hL2)
   have hub:u=.map (some bm):=by
    cases hu2 with|lm _ r' h=>rw [hL1] at h;cases h;rfl
   subst hub
   obtain ⟨u,hu3,hu4⟩:=loadS_ok (P:=Tryz.prog) (t:=3) (x:=.t (.int .i64 t)) hC4 (by kernel_rfl) e10
   have hut:u=.int .i64 t:=inv_int hu4
   subst hut
   obtain ⟨jf,hf,hjt⟩:=fint_at (List.mem_of_getElem? ht)
   have hcn:cur.Nodup:=hP.sub.nodup hI.dif
   refine wpIn_region_lit ?_
   refine wpl_val rfl (exec_v rfl (v:=.map (some bm)) (w':=Z2) hu1) ?_
   refine wpl_val rfl (exec_v rfl (v:=.int .i64 t) (w':=Z2) ?_) ?_
   ·have:(b2.put (some 131) (.map (some bm))).eval (.tmp 10)=b2.tmps.getD 10 undef:=put_off (by simp)
    rw [this];exact hu3
   refine wpl_val rfl (exec_delete rfl rfl (w':=setO Z2 bm (.map (es.eraseIdxIfInBounds jf) clock)) ?_) ?_
   ·have q1:((b2.put (some 131) (.map (some bm))).put (some 132) (.int .i64 t)).eval (.tmp 131)=.map (some bm):=(put_off (by simp)).trans (put_at (by rw [hn2];decide))
    have q2:((b2.put (some 131) (.map (some bm))).put (some 132) (.int .i64 t)).eval (.tmp 132)=.int .i64 t:=put_at (by rw [put_size,hn2];decide)
    rw [q1,q2]
    exact run_erase (e:=4) (d:=.int .i64) (ka:=.int .i64 t) (i:=1) (j:=jf) hC5 (by kernel_rfl) rfl hL1 hb5 (.int _ _) hf
   have hC6:=(hC5.erase (i:=1) (j:=jf) rfl hL1 hb5).1
   rw [frH_erase hjt] at hC6
   have hbm2:=(Array.getElem?_eq_some_iff.1 hb5).1
   show ∃ n',n' < m∧_
   refine ⟨(leftOf (es.eraseIdxIfInBounds jf) (st.push e.born)).size,Nat.lt_of_le_of_lt (left_erase _ _ _) hless,⟨cur.eraseIdx jf,t::seen,es.eraseIdxIfInBounds jf,st.push e.born,clock,?_,hC6,setO_at hbm2,(World.putObj_heap_other (Ne.symm hrb)).trans hr5,Nat.le_refl _,rfl,?_⟩,by rw [put_size,put_size,put_size,hn2],by rw [put_defers,put_defers,put_defers,hd2],((hk2.put (by simp)).put (by simp)).put (by simp),hm5.other hb5 (fun l h=>by cases h)⟩
   ·rw [erase_filter hcn hjt]
    exact hP.drop (by rw [hsk];exact hbt)
   ·intro j' e' t' q1 q2 q3
    have q1:=erase_get q1
    have q2:=erase_pick q2
    by_cases hq:j' < jf
    ·rw [if_pos hq] at q1 q2;exact hsn5 _ _ _ q1 q2 q3
    ·rw [if_neg hq] at q1 q2;exact hsn5 _ _ _ q1 q2 q3
  ·
   refine wpIn_skip ?_
   show ∃ n',n' < m∧_
   exact ⟨_,hless,⟨cur,t::seen,es,st.push e.born,clock,hP.keep (by rw [hsk];exact hbf),hC5,hb5,hr5,Nat.le_refl _,rfl,hsn5⟩,hn2,hd2,hk2,hm5⟩
end
end Go.Proofs.YtcpgmmlaimkojaaGreatDoor
namespace Go.Proofs.YtcpgmmlaimkojaaGreatDoor
open Go.RowKit
set_option maxRecDepth 100000
set_option maxHeartbeats 16000000
def opnL:List Hde→List Int→List Int
 | [],O=>O
 | h::l,O=>opnL l (if h.table∈O then O else O++[h.table])
def opnT (l:List Hde) (q:Nat):List Int:=opnL (l.take q) []
theorem opnL_app:∀ (l r:List Hde) (O:List Int),opnL (l++r) O=opnL r (opnL l O)
 | [],r,O=>rfl
 | h::l,r,O=>opnL_app l r _
theorem opnT_s {l:List Hde} {q:Nat} {h:Hde} (hh:l[q]?=some h):opnT l (q+1)=if h.table∈opnT l q then opnT l q else opnT l q++[h.table]:=by
 unfold opnT
 rw [List.take_add_one,hh,opnL_app]
 rfl
theorem opnL_nodup:∀ (l:List Hde) (O:List Int),O.Nodup→(opnL l O).Nodup
 | [],O,h=>h
 | x::l,O,h=>opnL_nodup l _ (by
  split
  ·exact h
  ·rename_i hx
   exact List.nodup_append.2 ⟨h,by simp,fun a ha b hb=>by simp at hb;subst hb;rintro rfl;exact hx ha⟩)
theorem opnL_mem:∀ (l:List Hde) (O:List Int) (t:Int),t∈opnL l O↔t∈O∨∃ h∈l,h.table=t
 | [],O,t=>by simp [opnL]
 | x::l,O,t=>by
  unfold opnL
  rw [opnL_mem l]
  split
  ·rename_i hx
   constructor
   ·rintro (h|⟨g,hg,he⟩)
    ·exact .inl h
    ·exact .inr ⟨g,by simp [hg],he⟩
   ·rintro (h|⟨g,hg,he⟩)
    ·exact .inl h
    ·rcases List.mem_cons.1 hg with rfl|hg
     ·exact .inl (he ▸ hx)
     ·exact .inr ⟨g,hg,he⟩
  ·constructor
   ·rintro (h|⟨g,hg,he⟩)
    ·rcases List.mem_append.1 h with h|h
     ·exact .inl h
     ·simp at h;exact .inr ⟨x,by simp,h.symm⟩
    ·exact .inr ⟨g,by simp [hg],he⟩
   ·rintro (h|⟨g,hg,he⟩)
    ·exact .inl (by simp [h])
    ·rcases List.mem_cons.1 hg with rfl|hg
     ·exact .inl (by simp [he])
     ·exact .inr ⟨g,hg,he⟩
theorem opnL_len:∀ (l:List Hde) (O:List Int),(opnL l O).length≤O.length+l.length
 | [],O=>Nat.le_refl _
 | x::l,O=>by
  unfold opnL
  by_cases hx:x.table∈O
  ·rw [if_pos hx]
   have:=opnL_len l O
   simp;omega
  ·rw [if_neg hx]
   have:=opnL_len l (O++[x.table])
   simp at this ⊢;omega
theorem opn_inv {m:Md} (hok:m.hides.all (hideOk m)=true):InvH m.hides m.tables.length 0 (opnT m.hides m.hides.length):=by
 have hm:∀ t,t∈opnT m.hides m.hides.length↔∃ h∈m.hides,h.table=t:=fun t=>by unfold opnT;rw [List.take_length,opnL_mem];simp
 refine ⟨opnL_nodup _ _ List.nodup_nil,fun t ht=>?_,fun _=>?_,fun h hh hc x hx=>?_⟩
 ·obtain ⟨h,hh,rfl⟩:=(hm t).1 ht
  have:=List.all_eq_true.1 hok h hh
  unfold hideOk idxOk at this
  simp only [Bool.and_eq_true,decide_eq_true_eq] at this
  omega
 ·have:=opnL_len (m.hides.take m.hides.length) []
  rw [List.take_length] at this
  unfold opnT
  rw [List.take_length]
  simpa using this
 ·obtain ⟨g,hg,hgt,_⟩:=onC_next hh hc hx
  exact (hm x).2 ⟨g,hg,hgt⟩
theorem frV {σ:Nat→Option Nat} {ks:List AV} {n:Nat} {b b':Lb} {bs bs':Fr} (hb:b=b') (h:bs=bs'):(b::Lb.map false ks (SV.subL σ (truV n))::bs)=b'::Lb.map false ks (truV n)::bs':=by rw [truV_eq,subL_trees,hb,h]
theorem mindex_l (i n:Int):Cl cfgL 115 [.t (.int .i64 i),.t (.int .i64 n)] [] (.t (.bool (decide (0≤i) && decide (i < n)))) []:=by
 refine Cl.of_body rfl Tryz.func115 rfl rfl rfl ?_
 exact drv
theorem hid_fn {a0 a2 a3 a4 a5 a7:List (List AV)} {m:Md} (hT:m.tables.length≤17592186044416) (hH:m.hides.length≤17592186044416):Known Tryz.prog 90∧∀ (κ:Ctx) (w:World) (us:Array Value),Core gamS κ [] κ.L w→κ.W=w→us.size=[AV.agg (jsL a0 a2 a3 a4 a5 a7 m.tables m.hides)].length→(∀ (j:Nat) (x:AV) (u:Value),[AV.agg (jsL a0 a2 a3 a4 a5 a7 m.tables m.hides)][j]?=some x→us[j]?=some u→VR (MA κ.M [] κ.L) w x u)→
  Calls Tryz.prog 90 us w fun e w'=>∃ v L',e=.returned v∧Core gamS κ [] L' w'∧SR (MA κ.M [] L') L' w' (.t (.bool (hidesB m))) v:=by
 have hlH:=hdE_len m.hides
 have hlL:=tbE_len m.tables
 refine hand_bool Tryz.func90 rfl (by decide) (show (1:Nat)≤Tryz.f90.ntmps by decide) (by decide) fun M W hM=>?_
 show HW gamS (kapH M W) _ cfgL.P _ (ofArgs [.t (.agg [.arr a0,.arr (tbE m.tables),.arr a2,.arr a3,.arr a4,.arr a5,.arr (hdE m.hides),.arr a7])]) [] _
 refine HW.ev (f:=90) wfL ?_ (by kernel_rfl)
 refine drvR ?_
 refine HW.ev (f:=90) wfL ?_ (by kernel_rfl)
 by_cases h12:m.hides.length≤12
 ·
  have e0:hidesB m=((m.hides.drop 0).all (hideOk m) && (m.hides.drop 0).all fun h=>!leadsB m.hides m.tables.length h.to h.table):=by unfold hidesB;simp [h12]
  obtain ⟨Y,hY⟩:∃ Y,((m.hides.drop 0).all fun h=>!leadsB m.hides m.tables.length h.to h.table)=Y:=⟨_,rfl⟩
  rw [e0,hY]
  refine drvR ?_
  refine HW.ev (f:=90) wfL ?_ (by kernel_rfl)
  refine drvR ?_
  refine EvL.ind (fun q:Nat=>[(20,.t (.int .i64 (q:Int)))]) (fun q=>q≤m.hides.length∧(m.hides.drop 0).all (hideOk m)=(m.hides.drop q).all (hideOk m)) (fun q=>m.hides.length - q) 0 rfl ⟨by omega,rfl⟩ (fun q hq=>?_)
  obtain ⟨h1,h2⟩:=hq
  rw [h2]
  rcases Nat.lt_or_ge q m.hides.length with h3|h3
  ·
   obtain ⟨h,hh⟩:=get_of_lt h3
   have hhc:=hdE_get hh
   have hht:=all_hit (hideOk m) hh
   by_cases hA:0≤h.table∧h.table < m.tables.length∧0≤h.to∧h.to < m.tables.length∧h.table≠h.to
   ·
    obtain ⟨t,ht⟩:=get_of_lt (xs:=m.tables) (k:=h.table.toNat) (by omega)
    obtain ⟨u,hu⟩:=get_of_lt (xs:=m.tables) (k:=h.to.toNat) (by omega)
    have htc:=tbE_get ht
    have huc:=tbE_get hu
    have hlt:=intsE_len t.cols
    have hlu:=intsE_len u.cols
    have hiff:=hideOk_yes hA ht hu
    obtain ⟨a1,a2,a3,a4,a5⟩:=hA
    have k1:=mindex_l h.table (m.tables.length:Int)
    have k2:=mindex_l h.to (m.tables.length:Int)
    have k3:=mindex_l h.col (t.cols.length:Int)
    rw [decide_eq_true a1,decide_eq_true a2,Bool.true_and] at k1
    rw [decide_eq_true a3,decide_eq_true a4,Bool.true_and] at k2
    by_cases hB:(0≤h.col∧h.col < t.cols.length)∧u.cols.length=1
    ·
     obtain ⟨⟨b1,b2⟩,b3⟩:=hB
     rw [decide_eq_true b1,decide_eq_true b2,Bool.true_and] at k3
     obtain ⟨y,hy⟩:=len1 b3
     obtain ⟨z,hz⟩:=get_of_lt (xs:=t.cols) (k:=h.col.toNat) (by omega)
     have hyc:(intsE u.cols)[0]?=some [.int .i64 y]:=intsE_get (by rw [hy];rfl)
     have hzc:=intsE_get hz
     have ey:u.cols.getD 0 0=y:=by rw [hy];rfl
     rw [ey,getD_get hz] at hiff
     by_cases hP:t.kind=0∧u.kind=0∧y=z
     ·
      have hok:hideOk m h=true:=hiff.2 ⟨hP.1,hP.2.1,⟨b1,b2⟩,b3,hP.2.2⟩
      rw [hok,Bool.true_and] at hht
      obtain ⟨p1,p2,p3⟩:=hP
      rw [hht]
      exact drv
     ·
      have hno:hideOk m h=false:=by rw [← Bool.not_eq_true,hiff];exact fun h'=>hP ⟨h'.1,h'.2.1,h'.2.2.2.2⟩
      rw [hht,hno,Bool.false_and,Bool.false_and]
      repeat' (first
|(with_reducible first|apply EvK.seq|apply EvK.block)
|((with_reducible apply EvK.text);(try case hm=>exact rfl))
|((with_reducible apply EvK.drawn);(case hm=>exact rfl))
|((with_reducible apply EvK.drawnD);(case hm|he=>exact rfl))
|(with_reducible first|apply EvK.skip|apply EvK.ret|apply thenK_n|apply thenK_r|apply blockK_r)
|((with_reducible apply EvK.cond_t);(case hc=>exact rfl))
|((with_reducible apply EvK.cond_f);(case hc=>exact rfl))
|((with_reducible apply EvO.spd_t);(case hp=>exact fao))
|((with_reducible apply EvO.spn) <;> intro hq)
|((with_reducible apply EvO.spd_yf);(case hp=>exact fao))
|((with_reducible apply EvO.spn_yt);(case hp=>exact fao))
|((with_reducible apply EvO.spn_yf);(case hp=>exact fao))
|((with_reducible apply EvO.spn_y) <;> intro hq)
|(with_reducible apply EvO.nilT)
|((with_reducible apply EvO.gf);(case hW=>exact rfl))
|((with_reducible apply EvOF.nilET);(case hck=>kernel_rfl))
|((with_reducible apply EvOF.u);(case hfl=>kernel_rfl);(case hx=>exact opq))
|((with_reducible apply EvO.gt0);(case hW=>exact rfl);(case hx=>first
|(exact oqF k2)
|(exact oqF k3)
|exact opq))
|((with_reducible apply EvO.u0);(case hx=>first
|(exact oqF k1)
|exact opq))
|fail)
      all_goals first
       | exact fun a w hA=>⟨_,_,_,.inr rfl,hA,rfl,rfl⟩
       | (exfalso;apply hP;refine ⟨?_,?_,?_⟩ <;> first|assumption|omega)
    ·
     have hno:hideOk m h=false:=by rw [← Bool.not_eq_true,hiff];exact fun h'=>hB ⟨h'.2.2.1,h'.2.2.2.1⟩
     rw [hht,hno,Bool.false_and,Bool.false_and]
     obtain ⟨b,hb⟩:∃ b,(decide (0≤h.col) && decide (h.col < (t.cols.length:Int)))=b:=⟨_,rfl⟩
     rw [hb] at k3
     cases b with
     | false=>
      repeat' (first
|(with_reducible first|apply EvK.seq|apply EvK.block)
|((with_reducible apply EvK.text);(try case hm=>exact rfl))
|((with_reducible apply EvK.drawn);(case hm=>exact rfl))
|((with_reducible apply EvK.drawnD);(case hm|he=>exact rfl))
|(with_reducible first|apply EvK.skip|apply EvK.ret|apply thenK_n|apply thenK_r|apply blockK_r)
|((with_reducible apply EvK.cond_t);(case hc=>exact rfl))
|((with_reducible apply EvK.cond_f);(case hc=>exact rfl))
|((with_reducible apply EvO.spd_t);(case hp=>exact fao))
|((with_reducible apply EvO.spn) <;> intro hq)
|((with_reducible apply EvO.spd_yf);(case hp=>exact fao))
|((with_reducible apply EvO.spn_y) <;> intro hq)
|(with_reducible apply EvO.nilT)
|((with_reducible apply EvO.gf);(case hW=>exact rfl))
|((with_reducible apply EvOF.nilET);(case hck=>kernel_rfl))
|((with_reducible apply EvOF.u);(case hfl=>kernel_rfl);(case hx=>exact opq))
|((with_reducible apply EvO.gt0);(case hW=>exact rfl);(case hx=>first
|(exact oqF k2)
|(exact oqF k3)
|exact opq))
|((with_reducible apply EvO.u0);(case hx=>first
|(exact oqF k1)
|exact opq))
|fail)
      all_goals exact fun a w hA=>⟨_,_,_,.inr rfl,hA,rfl,rfl⟩
     | true=>
      have b3:u.cols.length≠1:=fun e=>hB ⟨by simpa using hb,e⟩
      repeat' (first
|(with_reducible first|apply EvK.seq|apply EvK.block)
|((with_reducible apply EvK.text);(try case hm=>exact rfl))
|((with_reducible apply EvK.drawn);(case hm=>exact rfl))
|((with_reducible apply EvK.drawnD);(case hm|he=>exact rfl))
|(with_reducible first|apply EvK.skip|apply EvK.ret|apply thenK_n|apply thenK_r|apply blockK_r)
|((with_reducible apply EvK.cond_t);(case hc=>exact rfl))
|((with_reducible apply EvK.cond_f);(case hc=>exact rfl))
|((with_reducible apply EvO.spd_t);(case hp=>exact fao))
|((with_reducible apply EvO.spn) <;> intro hq)
|((with_reducible apply EvO.spd_yf);(case hp=>exact fao))
|((with_reducible apply EvO.spn_yt);(case hp=>exact fao))
|((with_reducible apply EvO.spn_y) <;> intro hq)
|(with_reducible apply EvO.nilT)
|((with_reducible apply EvO.gf);(case hW=>exact rfl))
|((with_reducible apply EvOF.nilET);(case hck=>kernel_rfl))
|((with_reducible apply EvOF.u);(case hfl=>kernel_rfl);(case hx=>exact opq))
|((with_reducible apply EvO.gt0);(case hW=>exact rfl);(case hx=>first
|(exact oqF k2)
|(exact oqF k3)
|exact opq))
|((with_reducible apply EvO.u0);(case hx=>first
|(exact oqF k1)
|exact opq))
|fail)
      all_goals exact fun a w hA=>⟨_,_,_,.inr rfl,hA,rfl,rfl⟩
   ·
    have hno:=hideOk_no hA
    rw [hht,hno,Bool.false_and,Bool.false_and]
    have k1:=mindex_l h.table (m.tables.length:Int)
    have k2:=mindex_l h.to (m.tables.length:Int)
    obtain ⟨b1,hb1⟩:∃ b,(decide (0≤h.table) && decide (h.table < (m.tables.length:Int)))=b:=⟨_,rfl⟩
    obtain ⟨b2,hb2⟩:∃ b,(decide (0≤h.to) && decide (h.to < (m.tables.length:Int)))=b:=⟨_,rfl⟩
    rw [hb1] at k1
    rw [hb2] at k2
    cases b1 with
    | false=>
     refine drvR ?_
     all_goals exact fun a w hA=>⟨_,_,_,.inr rfl,hA,rfl,rfl⟩
    | true=>cases b2 with
     | false=>
      refine drvR ?_
      all_goals exact fun a w hA=>⟨_,_,_,.inr rfl,hA,rfl,rfl⟩
     | true=>
      simp only [Bool.and_eq_true,decide_eq_true_eq] at hb1 hb2
      have he:h.table=h.to:=Classical.byContradiction fun he=>hA ⟨hb1.1,hb1.2,hb2.1,hb2.2,he⟩
      refine drvR ?_
      all_goals exact fun a w hA=>⟨_,_,_,.inr rfl,hA,rfl,rfl⟩
  ·
   have hok:m.hides.all (hideOk m)=true:=by rw [List.drop_zero] at h2;rw [h2,alle _ h3]
   rw [alle _ h3,Bool.true_and]
   refine drvR ?_
   refine HW.ev (f:=90) wfL ?_ (by kernel_rfl)
   refine drvR ?_
   refine HW.ev (f:=90) wfL ?_ (by kernel_rfl)
   refine drvR ?_
   refine EvL.indF (fun q:Nat=>[(105,.t (.int .i64 (q:Int)))]) (fun q=>frH [.arr a0,.arr (tbE m.tables),.arr a2,.arr a3,.arr a4,.arr a5,.arr (hdE m.hides),.arr a7] (opnT m.hides q)) (fun q=>q≤m.hides.length) (fun q=>m.hides.length - q) 0 rfl rfl (by omega) (fun q h1=>?_)
   rcases Nat.lt_or_ge q m.hides.length with h3|h3
   ·
    obtain ⟨h,hh⟩:=get_of_lt h3
    have hhc:=hdE_get hh
    have hos:=opnT_s hh
    obtain ⟨O,hO⟩:∃ O,opnT m.hides q=O:=⟨_,rfl⟩
    rw [hO] at hos ⊢
    by_cases hm:h.table∈O
    ·
     rw [if_pos hm] at hos
     obtain ⟨j,hf,hj⟩:=fint_at hm
     have hvs:=truV_set (n:=O.length) (j:=j)
     repeat' (first
|(with_reducible first|apply EvK.seq|apply EvK.block)
|((with_reducible apply EvK.text);(try case hm=>exact rfl))
|(with_reducible first|apply EvK.skip|apply thenK_n)
|((with_reducible apply EvK.cond_t);(case hc=>exact rfl))
|((with_reducible apply EvO.spd_t);(case hp=>exact fao))
|(with_reducible first|apply EvO.nilT|apply EvO.nilB)
|((with_reducible apply EvO.u0);(case hx=>first
|((with_reducible apply OpR.mpo);(case hs=>exact fun _=>rfl);(case hm|ha|hk|hd|hy|hb=>exact rfl);(case hf=>exact hf);(case hvs=>exact hvs);(case hfr=>exact leq))
|exact opq))
|fail)
     exact ⟨q+1,rfl,by rw [hos];exact frV rfl rfl,by omega,by omega⟩
    ·
     rw [if_neg hm] at hos
     have hf:=fint_no (any_mem (decide_eq_false hm))
     have hks:=intK_snoc (N:=O) (s:=h.table)
     have hvs:=truV_snoc O.length
     repeat' (first
|(with_reducible first|apply EvK.seq|apply EvK.block)
|((with_reducible apply EvK.text);(try case hm=>exact rfl))
|(with_reducible first|apply EvK.skip|apply thenK_n)
|((with_reducible apply EvK.cond_t);(case hc=>exact rfl))
|((with_reducible apply EvO.spd_t);(case hp=>exact fao))
|(with_reducible first|apply EvO.nilT|apply EvO.nilB)
|((with_reducible apply EvO.u0);(case hx=>first
|((with_reducible apply OpR.mpk);(case hs=>exact fun _=>rfl);(case hm|ha|hk|hd|hy|hb=>exact rfl);(case hf=>exact hf);(case hks=>exact hks);(case hvs=>exact hvs);(case hfr=>exact leq))
|exact opq))
|fail)
     exact ⟨q+1,rfl,by rw [hos];unfold frH;rw [List.length_append];exact frV rfl rfl,by omega,by omega⟩
   ·
    obtain rfl:q=m.hides.length:=by omega
    refine drvR ?_
    refine HW.seq ?_
    refine HW.ev (f:=90) wfL ?_ (by kernel_rfl)
    refine drvR ?_
    refine HW.slots (slH m.hides.length (0:Nat)) (fun p hp=>by unfold slH at hp;simp only [List.mem_cons,List.not_mem_nil,or_false] at hp;rcases hp with rfl|rfl|rfl|rfl <;> rfl) ?_
    refine HW.block ?_
    refine HW.loop (fun k e r=>∃ (q:Nat) (O:List Int),k=m.hides.length - q∧q≤m.hides.length∧e=mkEnv (slH m.hides.length (q:Int))∧r=frH (jsL a0 a2 a3 a4 a5 a7 m.tables m.hides) O∧InvH m.hides m.tables.length q O) m.hides.length ⟨0,_,by omega,by omega,rfl,rfl,opn_inv hok⟩ ?_
    rintro k e r ⟨q,O,rfl,hq,rfl,rfl,hI⟩
    refine HW.ev (f:=90) wfL ?_ (by kernel_rfl)
    rcases Nat.lt_or_ge q m.hides.length with h3|h3
    ·
     refine drvR ?_
     refine HW.ev (f:=90) wfL ?_ (by kernel_rfl)
     refine drvR ?_
     refine HW.seq ?_
     intro dn a w hA
     refine hid_pass (len:=m.hides.length) (q:=(q:Int)) (by omega) hI (hA.slots (slH m.hides.length (q:Int)) (fun p hp=>by unfold slH at hp;simp only [List.mem_cons,List.not_mem_nil,or_false] at hp;rcases hp with rfl|rfl|rfl|rfl <;> rfl)) fun O' a' w' hI' hA'=>?_
     refine ⟨_,_,hA',?_⟩
     refine HW.one (f:=90) wfL ?_ (by kernel_rfl)
     refine drvR ?_
     exact fun a w hA=>⟨m.hides.length - (q+1),_,_,by omega,⟨q+1,O',rfl,by omega,rfl,rfl,hI'⟩,hA.slots (slH m.hides.length ((q+1:Nat):Int)) (fun p hp=>by unfold slH at hp;simp only [List.mem_cons,List.not_mem_nil,or_false] at hp;rcases hp with rfl|rfl|rfl|rfl <;> rfl)⟩
    ·
     obtain rfl:q=m.hides.length:=by omega
     have hYO:Y=decide (O.length=0):=by rw [hI.done,← hY,List.drop_zero]
     subst hYO
     refine drvR ?_
     refine HW.ev (f:=90) wfL ?_ (by kernel_rfl)
     refine drvR ?_
     refine fun a w hA=>⟨_,_,hA,?_⟩
     refine HW.one (f:=90) wfL ?_ (by kernel_rfl)
     cases O with
     | nil=>
      have hlO:(intK ([]:List Int)).length=0:=rfl
      refine drvR ?_
      exact fun a w hA=>⟨_,_,_,.inr rfl,hA,rfl,rfl⟩
     | cons x O=>
      have hlO:(intK (x::O)).length=O.length+1:=by simp [intK]
      rw [show decide ((x::O).length=0)=false from decide_eq_false (by simp)]
      refine drvR ?_
      exact fun a w hA=>⟨_,_,_,.inr rfl,hA,rfl,rfl⟩
 ·
  have e0:hidesB m=false:=by unfold hidesB;rw [decide_eq_false h12];rfl
  rw [e0]
  refine drvR ?_
  exact fun a w hA=>⟨_,_,_,.inr rfl,hA,rfl,rfl⟩
end Go.Proofs.YtcpgmmlaimkojaaGreatDoor
namespace Go.Proofs.YtcpgmmlaimkojaaGreatDoor
open Go.RowKit
set_option maxRecDepth 100000
set_option maxHeartbeats 16000000
theorem kwOk_eq:∀ {W:List (List UInt8)} {ks vs:List AV},kwOk W ks vs=true→ks=(W.map fun w=>.str ⟨w.toArray⟩)∧vs=W.map fun _=>.bool true
 | [],[],[],_=>⟨rfl,rfl⟩
 | w::W,.str s::ks,.bool true::vs,h=>by
  unfold kwOk at h
  rw [Bool.and_eq_true] at h
  obtain ⟨h1,h2⟩:=kwOk_eq h.2
  have hs:s=⟨w.toArray⟩:=of_decide_eq_true h.1
  subst hs h1 h2
  exact ⟨rfl,rfl⟩
 | [],[],_::_,h=>by cases h
 | [],_::_,_,h=>by cases h
 | _::_,[],_,h=>by cases h
def kwN:List ByteArray:=kwL.map bs
theorem kw_any (w:List UInt8):(kwN.any fun u=>decide (u=bs w))=decide (w∈kwL):=by
 unfold kwN
 rw [List.any_map]
 cases hm:decide (w∈kwL) with
 | true=>
  rw [List.any_eq_true]
  exact ⟨w,of_decide_eq_true hm,by simp⟩
 | false=>
  rw [List.any_eq_false]
  intro x hx he
  have he:bs x=bs w:=by simpa using he
  obtain rfl:=bsi he
  exact of_decide_eq_false hm hx
theorem kwV_at {j:Nat} (h:j < kwN.length):(kwVs.map SV.t)[j]?=some (.t (.bool true)):=by
 have h':j < kwL.length:=by unfold kwN at h;simpa using h
 unfold kwVs
 rw [List.getElem?_map,List.getElem?_map,List.getElem?_eq_getElem h']
 rfl
theorem wpl_skip {P:Program} {rd:Option Nat} {dn:Nat} {ops:Array Oper} {Q:Exit→Act→World→Prop} {a:Act} {w:World} {o:Oper} {l:List Oper} {j d:Nat} {b:Bool} (hg:o.guard=some (j,!b)) (hd:(ops[j]?).bind (·.dst)=some d) (hv:a.tmps.getD d undef=.bool b) (hl:d < a.tmps.size) (h:wpListIn (Fw rd) dn P ops Q l (a.put o.dst undef) w):wpListIn (Fw rd) dn P ops Q (o::l) a w:=by
 have hW:Region.wanted o (yielded ops a.tmps)=false:=wanted_of (A:=fun _=>True) (L:=fun _=>none) (w:=w) (env:=mkEnv [(d,.t (.bool b))]) hg (by unfold gOf;rw [hd];cases b <;> simp [mkEnv,gSlot,un]) fun d' hd'=>by
  rw [hd] at hd'
  cases hd'
  refine ⟨?_,hl⟩
  rw [hv]
  simp only [mkEnv,Nat.beq_refl]
  exact .t _ _ (.bool b)
 unfold wpListIn
 rw [hW,if_neg (by simp)]
 exact ⟨fun _ _=>trivial,h⟩
theorem inv_yld {A:Nat→Prop} {L:Ls} {w:World} {f:Fn} {v:Value} (h:SR A L w (.t (.fn f 0 [])) v):v=.func f #[] #[]:=by
 cases h with
 | t _ _ h=>
  generalize hx:AV.fn f 0 []=x at h
  cases h with
  | fn f' cs fs us hl hr=>
   injection hx with h1 h2 h3
   subst h1 h3
   have h1:fs=#[]:=Array.eq_empty_of_size_eq_zero h2.symm
   subst h1
   have h2:us=#[]:=Array.eq_empty_of_size_eq_zero (by simpa using hl)
   subst h2
   rfl
  | _=>cases hx
theorem wrC_le:∀ l:List UInt8,wrC l≤l.length
 | []=>Nat.le_refl _
 | b::r=>by
  have:=wrC_le r
  unfold wrC
  split <;> simp <;> omega
theorem symC_le (l:List UInt8):symC l≤2:=by
 unfold symC
 split
 ·omega
 ·split
  ·omega
  ·split <;> omega
theorem tok_seq {l:List UInt8} {v1 v2:Value} (hl:l.length≤1000000):ISeq gamS Tryz.prog 167 #[v1,v2] (Cap [.tp [.str (bs l)],.tp [.mp kwKs kwVs]] #[v1,v2]) [tokV l] false:=by
 refine ⟨⟨_,Tryz.func167,by kernel_rfl,rfl⟩,fun yl J Jx A W hJ hX hK hNo hY h0 m=>callsIn_of_wp Tryz.func167 rfl trivial ?_ rfl⟩
 obtain ⟨hCW,hcap⟩:=hK _ _ _ h0
 have hsz:(bs l).size=l.length:=bs_size l
 have hM:∀ b,A b→MA A [] (fun _=>none) b:=fun b hb=>⟨hb,fun ⟨i,_,_,h,_⟩=>by cases h⟩
 have hC0:Core gamS ⟨A,fun _=>False,fun _=>True,W,fun _=>none⟩ [] (fun _=>none) W:={ glob:=hCW.glob,gn:=hCW.gn,gx:=fun _ h=>h.elim,fresh:=hCW.fresh,os:=rfl,tape:=rfl,output:=rfl,size:=Nat.le_refl _,kept:=fun _ _ _=>rfl,lim:=(fun _ _ h=>by cases h),new:=(fun _ _ _ _ h=>by cases h),dis:=(fun _ _ _ _ _ h=>by cases h),hand:=(fun _ _ h=>by cases h),blk:=(fun _ _ h=>by cases h) }
 have hA:At gamS ⟨A,fun _=>False,fun _=>True,W,fun _=>none⟩ Tryz.f167.ntmps (mkEnv [(0,.t (.fn (.yield yl) 0 [])),(1,.t (.tp [.str (bs l)])),(2,.t (.tp [.mp kwKs kwVs]))]) [] { tmps:=#[.func (.yield yl) #[] #[]]++#[v1,v2]++Array.replicate (Tryz.f167.ntmps - (#[Value.func (.yield yl) #[] #[]]++#[v1,v2]).size) undef,defers:=[] } W:=by
  refine ⟨Marks.nil,by simp,_,hC0,mkEnv_ok (tm:=fun t=>Array.getD _ t undef) _ fun p hp=>?_⟩
  simp only [List.mem_cons,List.not_mem_nil,or_false] at hp
  rcases hp with rfl|rfl|rfl
  ·simp [Array.getD_eq_getD_getElem?,Array.getElem?_append]
   exact .t _ _ (.fn (.yield yl) [] #[] #[] rfl fun j x u hx=>by simp at hx)
  ·simp [Array.getD_eq_getD_getElem?,Array.getElem?_append]
   exact .t _ _ (VR.on (Nat.le_refl _) (fun b _ hb=>⟨hM b hb,rfl⟩) (hcap _ _ ⟨0,rfl,rfl⟩))
  ·simp [Array.getD_eq_getD_getElem?,Array.getElem?_append]
   exact .t _ _ (VR.on (Nat.le_refl _) (fun b _ hb=>⟨hM b hb,rfl⟩) (hcap _ _ ⟨1,rfl,rfl⟩))
 refine (?_:HW gamS ⟨A,fun _=>False,fun _=>True,W,fun _=>none⟩ Tryz.f167.ntmps cfgL.P _ (mkEnv [(0,.t (.fn (.yield yl) 0 [])),(1,.t (.tp [.str (bs l)])),(2,.t (.tp [.mp kwKs kwVs]))]) [] _) m _ _ hA
 clear hA
 have ks:=lskip_l hl
 have hn:=skipL_le false l
 obtain ⟨n,hn'⟩:∃ n,skipL false l=n:=⟨_,rfl⟩
 rw [hn'] at ks hn
 have hc0:(bs l).extract 0 (bs l).size=bs l:=by rw [bs_cuts,hsz,List.take_length];rfl
 have hz:(0+(n:Int)).toNat=n:=by omega
 have hcn:(bs l).extract (0+(n:Int)).toNat (bs l).size=bs (l.drop n):=by rw [hz,bs_cuts,hsz,List.take_length]
 obtain ⟨u,hu⟩:∃ u,l.drop n=u:=⟨_,rfl⟩
 rw [hu] at hcn
 have hul:u.length≤1000000:=by rw [← hu,List.length_drop];omega
 have hsu:(bs u).size=u.length:=bs_size u
 refine HW.ev (f:=167) wfL ?_ (by kernel_rfl)
 refine drvR ?_
 refine HW.slots [(0,.t (.fn (.yield yl) 0 [])),(1,.t (.tp [.str (bs l)])),(2,.t (.tp [.mp kwKs kwVs])),(4,.t (.int .i64 0))] (fun p hp=>by simp only [List.mem_cons,List.not_mem_nil,or_false] at hp;rcases hp with rfl|rfl|rfl|rfl <;> rfl) ?_
 refine HW.block ?_
 refine HW.loop (fun k e r=>k=0∧e=mkEnv [(0,.t (.fn (.yield yl) 0 [])),(1,.t (.tp [.str (bs l)])),(2,.t (.tp [.mp kwKs kwVs])),(4,.t (.int .i64 0))]∧r=[]) 0 ⟨rfl,rfl,rfl⟩ ?_
 rintro k e r ⟨rfl,rfl,rfl⟩
 refine HW.block ?_
 refine HW.ev (f:=167) wfL ?_ (by kernel_rfl)
 repeat' (first
|((with_reducible apply EvK.text);(try case hm=>exact rfl))
|(with_reducible apply EvO.nil)
|((with_reducible apply EvO.u0);(case hx=>first
|((with_reducible apply OpR.slo);(case hst|hx|hl=>exact rfl);(case h0=>omega);(case hls=>first|assumption|omega);(case hv=>exact hc0))
|(exact oqF ks)
|exact opq))
|fail)
 refine HW.ev (f:=167) wfL ?_ (by kernel_rfl)
 repeat' (first
|((with_reducible apply EvK.text);(try case hm=>exact rfl))
|(with_reducible apply EvO.nil)
|((with_reducible apply EvO.u0);(case hx=>first
|((with_reducible apply OpR.slo);(case hst|hx|hl=>exact rfl);(case h0=>omega);(case hls=>first|assumption|omega);(case hv=>exact hcn))
|exact opq))
|fail)
 refine HW.ev (f:=167) wfL ?_ (by kernel_rfl)
 refine drvR ?_
 refine HW.evT (f:=167) wfL (fun e r=>∃ (kd:Int) (c:Nat),tokC u=(kd,c)∧c≤2000000∧e 0=.t (.fn (.yield yl) 0 [])∧e 5=.lp 0 0∧e 7=.t (.int .i64 (c:Int))∧r=[.box false 191 [.t (.int .i64 kd),.t (.int .i64 0),.t (.int .i64 (0+(n:Int))),.t (.int .i64 0)]]) ?_ (by kernel_rfl) ?_
 ·
  cases u with
  | nil=>
   have hee:bs ([]:List UInt8)=⟨#[]⟩:=rfl
   refine drvR ?_
   exact ⟨rfl,0,0,rfl,by omega,rfl,rfl,rfl,rfl⟩
  | cons b r=>
   have hne:¬ bs (b::r)=bs []:=fun h=>by have:=bsi h;cases this
   have hb:(b::r)[0]?=some b:=rfl
   have hlr:(b::r).length=r.length+1:=rfl
   have k1:=lletter_l b
   have k2:=ldigit_l b
   have k3:=lsymbol_l hul
   cases h1:letB b with
   | true=>
    rw [h1] at k1
    have kr:=run_lpart_l hul
    have hrl:=runL_le prtB (b::r)
    have et:tokC (b::r)=(if (b::r).take (runL prtB (b::r))∈kwL then 2 else 1,runL prtB (b::r)):=by rw [tokC,if_pos h1]
    obtain ⟨c,hc⟩:∃ c,runL prtB (b::r)=c:=⟨_,rfl⟩
    rw [hc] at kr hrl et
    have hcut:(bs (b::r)).extract 0 c=bs ((b::r).take c):=by rw [bs_cuts];rfl
    cases hm:decide ((b::r).take c∈kwL) with
    | true=>
     obtain ⟨j,hf,hj⟩:=fstr_yes (s:=bs ((b::r).take c)) (N:=kwN) (by rw [kw_any];exact hm)
     have hz:=kwV_at hj
     rw [if_pos (of_decide_eq_true hm)] at et
     repeat' (first
|(with_reducible first|apply EvK.seq|apply EvK.block)
|((with_reducible apply EvK.text);(try case hm=>exact rfl))
|((with_reducible apply EvK.drawn);(case hm=>exact rfl))
|((with_reducible apply EvK.cond_t);(case hc=>exact rfl))
|((with_reducible apply EvK.cond_f);(case hc=>exact rfl))
|((with_reducible apply EvO.spd_f);(case hp=>exact fao))
|(with_reducible first|apply EvO.nilT|apply EvO.nilB)
|((with_reducible apply EvO.u0);(case hx=>first
|((with_reducible apply OpR.six);(case hx|hi|hst=>exact rfl);(case h0=>omega);(case hb=>assumption))
|((with_reducible apply OpR.shi);(case hst|hx|hh=>exact rfl);(case hhs=>first|assumption|omega);(case hv=>exact hcut))
|((with_reducible apply OpR.lki);(case hm|hk|ho=>exact rfl);(case hf=>exact hf);(case hz=>exact hz))
|(exact oqF k1)
|(exact oqF kr)
|exact opq))
|fail)
     exact ⟨rfl,2,c,et,by omega,rfl,rfl,rfl,rfl⟩
    | false=>
     have hf:=fstr_no (s:=bs ((b::r).take c)) (N:=kwN) (by rw [kw_any];exact hm)
     rw [if_neg (of_decide_eq_false hm)] at et
     repeat' (first
|(with_reducible first|apply EvK.seq|apply EvK.block)
|((with_reducible apply EvK.text);(try case hm=>exact rfl))
|((with_reducible apply EvK.drawn);(case hm=>exact rfl))
|(with_reducible first|apply EvK.skip|apply blockK_n)
|((with_reducible apply EvK.cond_t);(case hc=>exact rfl))
|((with_reducible apply EvK.cond_f);(case hc=>exact rfl))
|((with_reducible apply EvO.spd_f);(case hp=>exact fao))
|(with_reducible apply EvO.nilT)
|((with_reducible apply EvO.u0);(case hx=>first
|((with_reducible apply OpR.six);(case hx|hi|hst=>exact rfl);(case h0=>omega);(case hb=>assumption))
|((with_reducible apply OpR.shi);(case hst|hx|hh=>exact rfl);(case hhs=>first|assumption|omega);(case hv=>exact hcut))
|((with_reducible apply OpR.lk);(case hm|hk|ho=>exact rfl);(case hf=>exact hf);(case hz=>exact rfl))
|(exact oqF k1)
|(exact oqF kr)
|exact opq))
|fail)
     exact ⟨rfl,1,c,et,by omega,rfl,rfl,rfl,rfl⟩
   | false=>
    rw [h1] at k1
    cases h2:isDig b with
    | true=>
     rw [h2] at k2
     have kr:=run_ldigit_l hul
     have hrl:=runL_le isDig (b::r)
     have et:tokC (b::r)=(3,runL isDig (b::r)):=by rw [tokC,if_neg (by simp [h1]),if_pos h2]
     obtain ⟨c,hc⟩:∃ c,runL isDig (b::r)=c:=⟨_,rfl⟩
     rw [hc] at kr hrl et
     refine drvR ?_
     exact ⟨rfl,3,c,et,by omega,rfl,rfl,rfl,rfl⟩
    | false=>
     rw [h2] at k2
     have hsl:=symC_le (b::r)
     by_cases h3:0 < symC (b::r)
     ·
      have et:tokC (b::r)=(4,symC (b::r)):=by rw [tokC,if_neg (by simp [h1]),if_neg (by simp [h2]),if_pos h3]
      obtain ⟨c,hc⟩:∃ c,symC (b::r)=c:=⟨_,rfl⟩
      rw [hc] at k3 hsl et h3
      refine drvR ?_
      exact ⟨rfl,4,c,et,by omega,rfl,rfl,rfl,rfl⟩
     ·
      have et:tokC (b::r)=(5,1+wrC r):=by rw [tokC,if_neg (by simp [h1]),if_neg (by simp [h2]),if_neg h3]
      have hw:=wrC_le r
      obtain ⟨c0,hc0'⟩:∃ c,symC (b::r)=c:=⟨_,rfl⟩
      rw [hc0'] at k3 hsl h3
      obtain ⟨R,hR⟩:∃ R,wrC r=R:=⟨_,rfl⟩
      rw [hR] at et hw
      refine drvR ?_
      refine EvL.ind (fun q:Nat=>[(7,.t (.int .i64 (q:Int)))]) (fun q=>1≤q∧q≤r.length+1∧q+wrC ((b::r).drop q)=1+R) (fun q=>r.length+1 - q) 1 rfl ⟨by omega,by omega,by rw [← hR];rfl⟩ (fun q hq=>?_)
      obtain ⟨g0,g1,g2⟩:=hq
      rcases Nat.lt_or_ge q (r.length+1) with g3|g3
      ·
       obtain ⟨c,hcq⟩:=get_of_lt (xs:=b::r) (k:=q) (by omega)
       have hd:=drop_get hcq
       rw [hd,wrC] at g2
       have kw:=lwhite_l c
       have kb:=lbegins_l (b:=c) (r:=(b::r).drop (q+1)) (by rw [List.length_cons,List.length_drop];omega)
       have hcut:(bs (b::r)).extract q (bs (b::r)).size=bs (c::(b::r).drop (q+1)):=by rw [bs_cuts,hsu,List.take_length,hd]
       obtain ⟨Z1,hZ1⟩:∃ Z,whiB c=Z:=⟨_,rfl⟩
       obtain ⟨Z2,hZ2⟩:∃ Z,begB c ((b::r).drop (q+1))=Z:=⟨_,rfl⟩
       rw [hZ1] at kw g2
       rw [hZ2] at kb g2
       cases Z1 with
       | true=>
        simp only [Bool.not_true,Bool.false_and,Bool.false_eq_true,if_false,Nat.add_zero] at g2
        repeat' (first
|(with_reducible apply EvK.seq)
|((with_reducible apply EvK.text);(try case hm=>exact rfl))
|(with_reducible first|apply EvK.exit|apply thenK_e|apply blockK_n|apply blockK_h)
|((with_reducible apply EvK.cond_f);(case hc=>exact rfl))
|((with_reducible apply EvO.spd_t);(case hp=>exact fao))
|(with_reducible apply EvO.nilT)
|((with_reducible apply EvO.gf);(case hW=>exact rfl))
|((with_reducible apply EvO.gt0);(case hW=>exact rfl);(case hx=>first
|((with_reducible apply OpR.six);(case hx|hi|hst=>exact rfl);(case h0=>omega);(case hb=>assumption))
|(exact oqF kw)
|exact opq))
|((with_reducible apply EvO.u0);(case hx=>exact opq))
|fail)
        exact ⟨rfl,5,q,by rw [et,g2],by omega,rfl,rfl,rfl,rfl⟩
       | false=>
        by_cases h35:(c.toNat:Int)=35
        ·
         have h35':c.toNat=35:=by omega
         simp only [h35',decide_true,Bool.not_true,Bool.false_and,Bool.and_false,Bool.false_eq_true,if_false,Nat.add_zero] at g2
         repeat' (first
|(with_reducible apply EvK.seq)
|((with_reducible apply EvK.text);(try case hm=>exact rfl))
|(with_reducible first|apply EvK.exit|apply thenK_e|apply blockK_n|apply blockK_h)
|((with_reducible apply EvK.cond_f);(case hc=>exact rfl))
|((with_reducible apply EvO.spd_t);(case hp=>exact fao))
|((with_reducible apply EvO.spn_yf);(case hp=>exact fao))
|(with_reducible apply EvO.nilT)
|((with_reducible apply EvO.gf);(case hW=>exact rfl))
|((with_reducible apply EvO.gt0);(case hW=>exact rfl);(case hx=>first
|((with_reducible apply OpR.six);(case hx|hi|hst=>exact rfl);(case h0=>omega);(case hb=>assumption))
|(exact oqF kw)
|exact opq))
|((with_reducible apply EvO.u0);(case hx=>exact opq))
|fail)
         exact ⟨rfl,5,q,by rw [et,g2],by omega,rfl,rfl,rfl,rfl⟩
        ·
         have h35':¬ c.toNat=35:=by omega
         cases Z2 with
         | true=>
          simp only [h35',decide_false,Bool.not_true,Bool.and_false,Bool.false_eq_true,if_false,Nat.add_zero] at g2
          repeat' (first
|(with_reducible apply EvK.seq)
|((with_reducible apply EvK.text);(try case hm=>exact rfl))
|(with_reducible first|apply EvK.exit|apply thenK_e|apply blockK_n|apply blockK_h)
|((with_reducible apply EvK.cond_f);(case hc=>exact rfl))
|((with_reducible apply EvO.spd_t);(case hp=>exact fao))
|((with_reducible apply EvO.spn_yt);(case hp=>exact fao))
|(with_reducible apply EvO.nilT)
|((with_reducible apply EvO.gt0);(case hW=>exact rfl);(case hx=>first
|((with_reducible apply OpR.six);(case hx|hi|hst=>exact rfl);(case h0=>omega);(case hb=>assumption))
|((with_reducible apply OpR.slo);(case hst|hx|hl=>exact rfl);(case h0=>omega);(case hls=>first|assumption|omega);(case hv=>exact hcut))
|(exact oqF kw)
|(exact oqF kb)
|exact opq))
|((with_reducible apply EvO.u0);(case hx=>exact opq))
|fail)
          exact ⟨rfl,5,q,by rw [et,g2],by omega,rfl,rfl,rfl,rfl⟩
         | false=>
          simp only [h35',decide_false,Bool.not_false,Bool.and_self,if_true] at g2
          repeat' (first
|(with_reducible first|apply EvK.seq|apply EvK.block)
|((with_reducible apply EvK.text);(try case hm=>exact rfl))
|(with_reducible first|apply EvK.skip|apply thenK_n|apply blockK_n)
|((with_reducible apply EvK.cond_t);(case hc=>exact rfl))
|((with_reducible apply EvO.spd_t);(case hp=>exact fao))
|((with_reducible apply EvO.spn_yt);(case hp=>exact fao))
|(with_reducible apply EvO.nilT)
|((with_reducible apply EvO.gt0);(case hW=>exact rfl);(case hx=>first
|((with_reducible apply OpR.six);(case hx|hi|hst=>exact rfl);(case h0=>omega);(case hb=>assumption))
|((with_reducible apply OpR.slo);(case hst|hx|hl=>exact rfl);(case h0=>omega);(case hls=>first|assumption|omega);(case hv=>exact hcut))
|(exact oqF kw)
|(exact oqF kb)
|exact opq))
|((with_reducible apply EvO.u0);(case hx=>exact opq))
|fail)
          exact ⟨q+1,rfl,rfl,⟨by omega,by omega,by omega⟩,by omega⟩
      ·
       obtain rfl:q=r.length+1:=by omega
       rw [List.drop_eq_nil_of_le (by rw [hlr];exact Nat.le_refl _),wrC] at g2
       refine drvR ?_
       exact ⟨rfl,5,r.length+1,by rw [et,← g2],by omega,rfl,rfl,rfl,rfl⟩
 ·
  rintro e r ⟨kd,c,htk,hc,e0,e5,e7,rfl⟩
  refine HW.slots [(0,.t (.fn (.yield yl) 0 [])),(5,.lp 0 0),(7,.t (.int .i64 (c:Int)))] (fun p hp=>by simp only [List.mem_cons,List.not_mem_nil,or_false] at hp;rcases hp with rfl|rfl|rfl;exact e0;exact e5;exact e7) ?_
  refine HW.ev (f:=167) wfL ?_ (by kernel_rfl)
  refine drvR ?_
  refine HW.ev (f:=167) wfL ?_ (by kernel_rfl)
  refine drvR ?_
  intro dn a w hA
  obtain ⟨⟨_,hds⟩,hnn,L,hC,hV⟩:=hA
  have hds:a.defers=[]:=hds trivial
  refine wpIn_seq ?_
  refine wpIn_region_lit ?_
  show wpListIn _ _ _ _ _ ([_,_]++[_,_,_,_,_,_,_]) _ _
  refine ops_at (i:=0) (kp:=[]) (ds:=[]) (K:=fun e r=>e 84=.t (.fn (.yield yl) 0 [])∧e 85=.t (.agg [.int .i64 kd,.int .i64 0,.int .i64 (0+(n:Int)),.int .i64 (0+(n:Int)+c)])) wfL ?_ (by simp) (by kernel_rfl) (by simp) (by intro p hp;cases hp) hds hnn hC hV fun e2 r2 L2 a2 w2 hK2 _ hd2 hn2 hC2 hV2=>?_
  ·
   refine drvR ?_
   exact ⟨rfl,rfl⟩
  obtain ⟨y84,y85⟩:=hK2
  have hb2:Below W.heap.size W w2:=⟨hC2.os,hC2.tape,hC2.output,hC2.size,fun k hk=>hC2.kept k hk fun h=>h⟩
  have hj:=hJ _ _ _ _ h0 hb2
  have e84:a2.eval (.tmp 84)=.func (.yield yl) #[] #[]:=by
   have:=hV2 84
   rw [y84] at this
   exact inv_yld this
  have e85:VR A w2 (.agg [.int .i64 kd,.int .i64 0,.int .i64 (0+(n:Int)),.int .i64 (0+(n:Int)+c)]) (a2.eval (.tmp 85)):=by
   have:=hV2 85
   rw [y85] at this
   cases this with
   | t _ _ h=>exact VR.on (Nat.le_refl _) (fun b _ hm=>⟨hm.1,rfl⟩) h
  have htv:tokV l=[.agg [.int .i64 kd,.int .i64 0,.int .i64 (0+(n:Int)),.int .i64 (0+(n:Int)+c)]]:=by
   unfold tokV
   rw [hn',hu,htk]
   simp
  rw [htv] at hj
  refine wpl_cons rfl (yield_op rfl e84 (fun m=>hY _ _ _ _ _ hj (by simp) (fun j x u hx hu=>?_) m) fun en Z hr=>?_)
  ·match j,hx,hu with
   | 0,hx,hu=>cases hx;simp at hu;rw [← hu];exact e85
  ·rcases hr with ⟨rfl,A',hj'⟩|⟨rfl,hx'⟩
   ·exact absurd hj' (hNo rfl _ _)
   ·refine ⟨_,rfl,?_⟩
    have n3:(a2.put (some 86) (.bool false)).tmps.size=Tryz.f167.ntmps:=by rw [put_size,hn2]
    have q86:(a2.put (some 86) (.bool false)).eval (.tmp 86)=.bool false:=put_at (by rw [hn2];decide)
    have d3:(a2.put (some 86) (.bool false)).defers=[]:=by rw [put_defers,hd2]
    generalize a2.put (some 86) (.bool false)=a3 at n3 q86 d3 ⊢
    refine wpl_val rfl (v:=.bool true) (w':=Z) (by show (execOp _ _).run _ _=_;unfold execOp;simp only [q86];rfl) ?_
    have q87:(a3.put (some 87) (.bool true)).eval (.tmp 87)=.bool true:=put_at (by rw [n3];decide)
    have n4:(a3.put (some 87) (.bool true)).tmps.size=Tryz.f167.ntmps:=by rw [put_size,n3]
    have d4:(a3.put (some 87) (.bool true)).defers=[]:=by rw [put_defers,d3]
    generalize a3.put (some 87) (.bool true)=a4 at n4 q87 d4 ⊢
    refine wpl_val rfl (v:=.bool true) (w':=Z) (by show (execOp _ _).run _ _=_;unfold execOp;simp only [q87];rfl) ?_
    have q88:(a4.put (some 88) (.bool true)).tmps.getD 88 undef=.bool true:=put_at (by rw [n4];decide)
    have n5:(a4.put (some 88) (.bool true)).tmps.size=Tryz.f167.ntmps:=by rw [put_size,n4]
    have d5:(a4.put (some 88) (.bool true)).defers=[]:=by rw [put_defers,d4]
    generalize a4.put (some 88) (.bool true)=a5 at n5 q88 d5 ⊢
    refine wpl_skip (b:=true) rfl rfl q88 (by rw [n5];decide) ?_
    refine wpl_skip (b:=true) rfl rfl ((put_off (by simp)).trans q88) (by rw [put_size,n5];decide) ?_
    refine wpl_skip (b:=true) rfl rfl ((put_off (by simp)).trans ((put_off (by simp)).trans q88)) (by rw [put_size,put_size,n5];decide) ?_
    have q88':(((a5.put (some 89) undef).put (some 90) undef).put (some 91) undef).eval (.tmp 88)=.bool true:=(put_off (by simp)).trans ((put_off (by simp)).trans ((put_off (by simp)).trans q88))
    have n6:(((a5.put (some 89) undef).put (some 90) undef).put (some 91) undef).tmps.size=Tryz.f167.ntmps:=by rw [put_size,put_size,put_size,n5]
    have d6:(((a5.put (some 89) undef).put (some 90) undef).put (some 91) undef).defers=[]:=by rw [put_defers,put_defers,put_defers,d5]
    generalize ((a5.put (some 89) undef).put (some 90) undef).put (some 91) undef=a6 at n6 q88' d6 ⊢
    refine wpl_val rfl (v:=.bool true) (w':=Z) (by show (execOp _ _).run _ _=_;unfold execOp;simp only [q88'];rfl) ?_
    show Code.wpIn _ _ _ _ _ _ _
    refine wpIn_cond_split (t:=true) (put_at (by rw [n6];decide)) (fun _=>?_) (fun h=>by cases h)
    refine wpIn_ret ?_
    exact ⟨by rw [put_defers,d6],_,results_none rfl _ _ _,⟨_,rfl⟩,.inr hx'⟩
end Go.Proofs.YtcpgmmlaimkojaaGreatDoor
namespace Go.Proofs.YtcpgmmlaimkojaaGreatDoor
open Go.RowKit
set_option maxRecDepth 100000
theorem decInts_eq {es:List (List AV)} {l:List Int} (h:decInts es=some l):es=intsE l:=by
 induction es generalizing l with
 | nil=>unfold decInts at h;cases h;rfl
 | cons c r ih=>
  unfold decInts at h
  split at h
  ·cases ‹_=[]›
  ·rename_i heq
   injection heq with h1 h2
   subst h1 h2
   split at h
   ·rename_i hr
    cases h
    rw [ih hr];rfl
   ·cases h
  ·cases h
theorem decTb_eq {es:List (List AV)} {l:List Tb} (h:decTb es=some l):es=tbE l:=by
 induction es generalizing l with
 | nil=>unfold decTb at h;cases h;rfl
 | cons c r ih=>
  unfold decTb at h
  split at h
  ·cases ‹_=[]›
  ·rename_i heq
   injection heq with h1 h2
   subst h1 h2
   split at h
   ·rename_i hc hr
    cases h
    rw [ih hr,decInts_eq hc];rfl
   ·cases h
  ·cases h
theorem decH_eq {es:List (List AV)} {l:List Hde} (h:decH es=some l):es=hdE l:=by
 induction es generalizing l with
 | nil=>unfold decH at h;cases h;rfl
 | cons c r ih=>
  unfold decH at h
  split at h
  ·cases ‹_=[]›
  ·rename_i heq
   injection heq with h1 h2
   subst h1 h2
   split at h
   ·rename_i hr
    cases h
    rw [ih hr];rfl
   ·cases h
  ·cases h
theorem wfS:Wf cfg gamS where
 exh:=exhT_ok
 seq:=fun gf xs yss wh h lb hl=>by
  have h:(match seqK gf xs with|some r=>some r|none=>seqT gf xs)=some (yss,wh):=h
  split at h
  ·rename_i q hq
   cases h
   unfold seqK at hq
   split at hq
   ·rename_i s ks vs hf
    split at hq
    ·rename_i hc
     rw [Bool.and_eq_true,Nat.ble_eq] at hc
     cases hq
     have hf:gf=167:=by simpa using hf
     obtain ⟨hk,hv⟩:=kwOk_eq hc.1
     subst hf hk hv
     have hs:lb.size=2:=hl
     have e:lb=#[lb[0],lb[1]]:=by
      apply Array.ext
      ·simp [hs]
      ·intro i h1 h2
       have:i=0∨i=1:=by simp at h2;omega
       rcases this with rfl|rfl <;> rfl
     rw [e]
     have hsl:s.data.toList.length≤1000000:=by have:=hc.2;rwa [← Lib.size_eq]
     exact tok_seq (l:=s.data.toList) hsl
    ·cases hq
   ·cases hq
  ·cases h
 mixed:=by kernel_rfl
 fns:=okT_fns
 ext:=fun f xs r fr' h=>by
  by_cases hf:f=90
  ·subst hf
   replace h:extL 90 xs=some (r,fr'):=h
   unfold extL at h
   split at h
   ·cases h
   ·cases h
   ·cases h
   ·split at h
    ·rename_i hc
     rw [Bool.and_eq_true,Bool.and_eq_true,Nat.ble_eq,Nat.ble_eq] at hc
     split at h
     ·rename_i tb hd htb hhd
      cases h
      obtain ⟨_,h1,h2⟩:=hc
      have htb:=decTb_eq htb
      have hhd:=decH_eq hhd
      subst htb hhd
      rw [tbE_len] at h1
      rw [hdE_len] at h2
      exact hid_fn (m:=⟨[],tb,[],[],[],[],hd⟩) h1 h2
     ·cases h
    ·cases h
   ·cases h
  ·refine wf_extM f xs r fr' ?_
   unfold extM
   rw [show Nat.beq f 90=false from Bool.eq_false_iff.2 fun h=>hf (Nat.eq_of_beq_eq_true h)]
   exact h
end Go.Proofs.YtcpgmmlaimkojaaGreatDoor
