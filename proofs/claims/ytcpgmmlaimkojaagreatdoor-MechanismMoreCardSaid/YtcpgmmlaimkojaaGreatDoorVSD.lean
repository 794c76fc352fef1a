/- The tree evaluator,32: a row that is handed over,elements deleted (slices.Delete). Condition: the walk. -/
import Derived.Test.YtcpgmmlaimkojaaGreatDoorTD
import Derived.Lib.SliceRun
set_option linter.unusedSimpArgs false
set_option linter.unusedVariables false
set_option linter.unusedSectionVars false
namespace Go.Proofs.YtcpgmmlaimkojaaGreatDoor
open Go.RowKit
set_option maxRecDepth 100000
set_option maxHeartbeats 4000000
def zerB (P:Program) (t sz:Nat):Bool:=match P.underlying t with
 | some (.slice e)=>match P.info? e with
  | some i=>match i.zero with
   | some z=>Nat.beq i.size sz && (Nat.beq z.cells.size sz && (Nat.ble 1 sz && z.cells.all plainV))
   | none=>false
  | none=>false
 | _=>false
theorem zerB_spec {P:Program} {t sz:Nat} (h:zerB P t sz=true):∃ e i z,P.underlying t=some (.slice e)∧P.info? e=some i∧i.zero=some z∧i.size=sz∧z.cells.size=sz∧0 < sz∧z.cells.all plainV=true:=by
 unfold zerB at h
 split at h
 ·rename_i e hu
  split at h
  ·rename_i i hi
   split at h
   ·rename_i z hz
    simp only [Bool.and_eq_true,Nat.beq_eq,Nat.ble_eq] at h
    exact ⟨e,i,z,hu,hi,hz,h.1,h.2.1,h.2.2.1,h.2.2.2⟩
   ·cases h
  ·cases h
 ·cases h
structure DelsW (P:Program) (f t sz:Nat):Prop where
 known:Known P f
 zero:zerB P t sz=true
 walk:∀ (e:Nat) (i:TypeInfo),P.underlying t=some (.slice e)→P.info? e=some i→i.size=sz→∀ (g cap n a b:Nat) (us:List Value) (w W2:World),a < b→b≤n→n≤cap→cap≤9223372036854775807→us.length=n * sz→(∀ q u,us[q]?=some u→w.cell? ⟨g,q,none⟩=some u)→(∀ q,w.frozen? ⟨g,q,none⟩=false)→(∀ u∈us,u.oneCell'=true)→
  (∀ ty cc,(Builtin.clear_ #[t] ty #[.slice (some ⟨g,(a+(n - b)) * sz,none⟩) (n - (a+(n - b))) cc]).run P (w.drew.setCells g (a * sz) (us.drop (b * sz)))=.ok (.tuple #[]) W2)→
  Calls P f #[.slice (some ⟨g,0,none⟩) n cap,.int .i64 a,.int .i64 b] w fun e w'=>e=.returned (.slice (some ⟨g,0,none⟩) (n - (b - a)) cap)∧w'=W2
theorem one_of_plain {u:Value} (h:plainV u=true):u.oneCell'=true:=by cases u <;> first|rfl|cases h
theorem drew_grownBy (w:World) (r:Option Nat):w.grownBy w.drew r:=⟨rfl,rfl,rfl,Nat.le_refl _,fun _ _ _=>rfl⟩
theorem del_run {P:Program} {f t sz:Nat} (hP:DelsW P f t sz) {g cap n a b T:Nat} {us:List Value} {w:World} (h:w.ownsRow 0 T sz (.slice (some ⟨g,0,none⟩) n cap) n us) (hab:a < b) (hb:b≤n) (hpl:∀ u∈us,plainV u=true) :
  Calls P f #[.slice (some ⟨g,0,none⟩) n cap,.int .i64 a,.int .i64 b] w fun e w'=>e=.returned (.slice (some ⟨g,0,none⟩) (n - (b - a)) cap)∧w'.ownsRow 0 T sz (.slice (some ⟨g,0,none⟩) (n - (b - a)) cap) (n - (b - a)) (us.take (a * sz)++us.drop (b * sz))∧w.grownBy w' (some g):=by
 obtain ⟨e,i,z,hu,hi,hz,hiz,hsz,hpos,hzp⟩:=zerB_spec hP.zero
 have hul:=h.1
 have hn2:(n - b) * sz+b * sz=n * sz:=by rw [← Nat.add_mul];congr 1;omega
 have hn3:(n - (b - a)) * sz=a * sz+(n - b) * sz:=by rw [← Nat.add_mul];congr 1;omega
 have hn4:(n - (b - a)) * sz+(b - a) * sz=n * sz:=by rw [← Nat.add_mul];congr 1;omega
 have hab':a * sz≤b * sz:=Nat.mul_le_mul_right _ (Nat.le_of_lt hab)
 have hnl:(us.drop (b * sz)).length=(n - b) * sz:=by rw [List.length_drop,hul];omega
 rcases h.2 with ⟨e',_⟩|⟨g',cap',cur,e',_,hg,hnc,hcm,hcs,htk⟩
 ·cases e'
 cases e'
 have hcell:∀ q u,us[q]?=some u→w.cell? ⟨g,q,none⟩=some u:=fun q u hq=>by
  rw [← htk,List.getElem?_take] at hq
  split at hq
  ·rw [Array.getElem?_toList] at hq
   simp [World.cell?,hg,hq]
  ·cases hq
 have hfr:∀ q,w.frozen? ⟨g,q,none⟩=false:=fun q=>by simp [World.frozen?,hg]
 have hone:∀ u∈us,u.oneCell'=true:=fun u hm=>one_of_plain (hpl u hm)
 have h':w.drew.ownsRow 0 T sz (.slice (some ⟨g,0,none⟩) n cap) n us:=h
 obtain ⟨w1,hr1,how1,hg1⟩:=ownsRow_put h' (q:=a * sz) (vs:=us.drop (b * sz)) (by rw [hnl,hul];omega) (fun v hv=>hpl v (List.mem_of_mem_drop hv)) P
 have hr1':=run_storeCells_cells (P:=P) g (a * sz) (us.drop (b * sz)) 0 w.drew (fun j hj=>by
   rw [hnl] at hj
   have hq:a * sz+0+j < us.length:=by omega
   show (w.cell? _).isSome=true
   rw [hcell _ _ (List.getElem?_eq_getElem hq)]
   rfl) (fun j _=>hfr _) (fun v hv=>hone v (List.mem_of_mem_drop hv))
 rw [hr1',Nat.add_zero] at hr1
 obtain rfl:w.drew.setCells g (a * sz) (us.drop (b * sz))=w1:=by injection hr1
 obtain ⟨zu,hzu⟩:∃ zu,(Builtin.zeroCells z.cells (b - a)).toList=zu:=⟨_,rfl⟩
 have hzl:zu.length=(b - a) * sz:=by rw [← hzu,Array.length_toList,size_zeroCells,hsz]
 have hzpl:∀ u∈zu,plainV u=true:=fun u hm=>by
  rw [← hzu,Array.mem_toList_iff] at hm
  unfold Builtin.zeroCells at hm
  obtain ⟨k,_,rfl⟩:=Array.mem_map.1 hm
  have hlt:k % z.cells.size < z.cells.size:=Nat.mod_lt _ (by rw [hsz];exact hpos)
  rw [getElem!_pos z.cells _ hlt]
  exact Array.all_eq_true.1 hzp _ hlt
 obtain ⟨w2,hr2,how2,hg2⟩:=ownsRow_put how1 (q:=(n - (b - a)) * sz) (vs:=zu) (by rw [putU_len,hzl,hul];omega) hzpl P
 refine (hP.walk e i hu hi hiz g cap n a b us w w2 hab hb hnc (Nat.le_trans hcm (by decide)) hul hcell hfr hone fun ty cc=>?_).mono fun e w' ⟨he,hw'⟩=>?_
 ·obtain ⟨k,hk⟩:∃ k,n - (a+(n - b))=k+1:=⟨n - (a+(n - b)) - 1,by omega⟩
  have hk':b - a=k+1:=by omega
  rw [hk,show a+(n - b)=n - (b - a) by omega]
  rw [hk'] at hzu hr2 ⊢
  simp [Builtin.clear_,run_underlying hu,run_zero hi hz,Sem.run_bind,hzu,hr2,pure,Sem.run]
 ·subst hw'
  refine ⟨he,⟨by rw [List.length_append,List.length_take,hnl,hul];omega,.inr ?_⟩,(drew_grownBy w _).trans (hg1.trans hg2)⟩
  rcases how2.2 with ⟨e',_⟩|⟨g',cap',cur',e',h0,hg',hnc',hcm',hcs',htk'⟩
  ·cases e'
  cases e'
  refine ⟨g,cap,cur',rfl,h0,hg',by omega,hcm',hcs',?_⟩
  apply List.ext_getElem?
  intro q
  have hat:=congrArg (fun l=>l[q]?) htk'
  rw [List.getElem?_take] at hat ⊢
  rw [putU_get _ _ _ _ (by rw [putU_len,hzl,hul];omega),putU_get _ _ _ _ (by rw [hnl,hul];omega),hnl] at hat
  rw [List.getElem?_append,List.length_take,List.getElem?_take,List.getElem?_drop]
  by_cases hq:q < (n - (b - a)) * sz
  ·rw [if_pos hq]
   rw [if_pos (by omega),if_neg (by omega)] at hat
   rw [hat]
   by_cases hqa:q < a * sz
   ·rw [if_neg (by omega),if_pos (by omega),if_pos hqa]
   ·rw [if_pos (by omega),if_neg (by omega),List.getElem?_drop,Nat.min_eq_left (by omega)]
  ·rw [if_neg hq,if_neg (by omega),List.getElem?_eq_none]
   rw [Nat.min_eq_left (by omega),hul];omega
def delF (sz:Nat):List SV→Fr→Option (SV×Fr)
 | [.ls 0,.t (.int .i64 x),.t (.int .i64 y)],[.row false _ s es]=>match decide (0≤x∧x < y∧y≤es.length) && (Nat.beq s sz && es.all fun c=>c.all oneA) with
  | true=>some (.ls 0,[.row false true sz (es.take x.toNat++es.drop y.toNat)])
  | false=>none
 | _,_=>none
theorem del_ok {P:Program} {γ:Glob} {F t sz:Nat} (hP:DelsW P F t sz) {args:List SV} {fr:Fr} {r:SV} {fr':Fr} (h:delF sz args fr=some (r,fr')):Known P F∧∀ (κ:Ctx) (w:World) (us:Array Value),Core γ κ fr κ.L w→κ.W=w→us.size=args.length→(∀ (j:Nat) (x:SV) (u:Value),args[j]?=some x→us[j]?=some u→SR (MA κ.M fr κ.L) κ.L w x u)→
  Calls P F us w fun e w'=>∃ v L',e=.returned v∧Core γ κ fr' L' w'∧SR (MA κ.M fr' L') L' w' r v:=by
 refine ⟨hP.known,fun κ w us hC hw hus hr=>?_⟩
 unfold delF at h
 split at h
 rotate_left
 ·cases h
 rename_i x y tch s es
 split at h
 rotate_left
 ·cases h
 rename_i hc
 cases h
 rw [Bool.and_eq_true,Bool.and_eq_true] at hc
 obtain ⟨hxy,hs,ho⟩:=hc
 obtain ⟨hx0,hxy,hyl⟩:=of_decide_eq_true hxy
 obtain rfl:s=sz:=by simpa using hs
 obtain ⟨a,rfl⟩:=Int.eq_ofNat_of_zero_le hx0
 obtain ⟨b,rfl⟩:=Int.eq_ofNat_of_zero_le (show 0≤y by omega)
 have hab:a < b:=by omega
 have hb:b≤es.length:=by omega
 have hs3:us.size=3:=hus
 obtain ⟨u,va,vb,rfl⟩:∃ u va vb,us=#[u,va,vb]:=⟨us[0],us[1],us[2],by
  apply Array.ext
  ·simp [hs3]
  ·intro i h1 h2
   have:i=0∨i=1∨i=2:=by simp at h2;omega
   rcases this with rfl|rfl|rfl <;> rfl⟩
 have h0:=hr 0 (.ls 0) u rfl rfl
 obtain rfl:va=.int .i64 a:=by
  have:=hr 1 _ va rfl rfl
  cases this with|t _ _ h=>cases h;rfl
 obtain rfl:vb=.int .i64 b:=by
  have:=hr 2 _ vb rfl rfl
  cases this with|t _ _ h=>cases h;rfl
 obtain ⟨hL,_⟩:=inv_ls h0
 obtain ⟨T,vs,how,hlen,⟨q,cap,rfl⟩,hes,her⟩:=row_form hC rfl hL
 have how:=how.own (by omega)
 rcases how.2 with ⟨e,hz⟩|⟨g,cap',cur,e,_,hg,hnc,_⟩
 ·omega
 cases e
 have hpl:∀ u∈vs,plainV u=true:=fun u hm=>by
  obtain ⟨p,hp,rfl⟩:=List.mem_iff_getElem.1 hm
  obtain ⟨_,_,_,_,_,_,_,_,hpos,_⟩:=zerB_spec hP.zero
  have hp':p < es.length * s:=by rw [← how.1];exact hp
  have hk:p / s < es.length:=(Nat.div_lt_iff_lt_mul hpos).2 hp'
  have hcs:=hes _ _ (List.getElem?_eq_getElem hk)
  have hjl:p % s < (es[p / s]).length:=by rw [hcs];exact Nat.mod_lt _ hpos
  obtain ⟨u',e1,e2⟩:=her (p / s) (p % s) _ _ (List.getElem?_eq_getElem hk) (List.getElem?_eq_getElem hjl)
  rw [Nat.mul_comm,Nat.div_add_mod,List.getElem?_eq_getElem hp] at e1
  cases e1
  exact plain_of_one e2 (List.all_eq_true.1 (List.all_eq_true.1 ho _ (List.getElem_mem hk)) _ (List.getElem_mem hjl))
 refine (del_run hP how hab hb hpl).mono fun e w' ⟨he,how',hgr⟩=>?_
 have hel:(es.take a++es.drop b).length=es.length - (b - a):=by rw [List.length_append,List.length_take,List.length_drop];omega
 obtain ⟨cap,rfl⟩:∃ c,cap=c+1:=⟨cap - 1,by omega⟩
 obtain ⟨hC',hT⟩:=hC.chg (w':=w') (ks:=[0]) (v':=.slice (some ⟨g,0,none⟩) (es.length - (b - a)) (cap+1)) (lb':=.row false true s (es.take a++es.drop b)) rfl rfl hL hgr (.inl rfl) (fun b' hb'=>by cases hb';exact Nat.lt_of_lt_of_le (Array.getElem?_eq_some_iff.1 hg).1 hgr.size) (.inr ⟨List.mem_singleton.2 rfl,rfl⟩) (fun h=>by cases h) fun hT=>by
  refine ⟨T,_,_,Lput_self,.inr (by rw [hel];exact how'),by rw [hel];omega,fun k cs hk=>?_,fun k j cs x hk hj=>?_⟩
  ·rw [List.getElem?_append] at hk
   split at hk
   ·rw [List.getElem?_take] at hk
    split at hk
    ·exact hes _ _ hk
    ·cases hk
   ·rw [List.getElem?_drop] at hk
    exact hes _ _ hk
  ·have hal:(es.take a).length=a:=by rw [List.length_take];omega
   have hvl:(vs.take (a * s)).length=a * s:=by
    rw [List.length_take,how.1,Nat.min_eq_left]
    exact Nat.mul_le_mul_right _ (by omega)
   rw [List.getElem?_append,hal] at hk
   split at hk
   ·rename_i hka
    rw [List.getElem?_take,if_pos hka] at hk
    have hjs:j < s:=by rw [← hes _ _ hk];exact lt_of_get hj
    obtain ⟨u,e1,e2⟩:=her k j cs x hk hj
    have:(k+1) * s≤a * s:=Nat.mul_le_mul_right _ hka
    rw [Nat.add_mul] at this
    refine ⟨u,?_,hT.vr e2⟩
    rw [List.getElem?_append_left (by rw [hvl];omega),List.getElem?_take,if_pos (by omega)]
    exact e1
   ·rename_i hka
    rw [List.getElem?_drop] at hk
    obtain ⟨u,e1,e2⟩:=her _ j cs x hk hj
    refine ⟨u,?_,hT.vr e2⟩
    have hka':a * s≤k * s:=Nat.mul_le_mul_right _ (by omega)
    rw [List.getElem?_append_right (by rw [hvl];omega),hvl,List.getElem?_drop,← e1]
    congr 1
    rw [Nat.add_mul,Nat.sub_mul]
    omega
 refine ⟨_,_,he,hC',?_⟩
 exact .ls _ _ Lput_self rfl
end Go.Proofs.YtcpgmmlaimkojaaGreatDoor
