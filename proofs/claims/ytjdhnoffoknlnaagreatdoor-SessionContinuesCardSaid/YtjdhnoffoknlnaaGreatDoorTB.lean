/- The tree evaluator,10: new blocks,blocks written,blocks given up;values taken as trees. No condition. -/
import Derived.Test.YtjdhnoffoknlnaaGreatDoorTA
import Derived.RangeFuncLeaves
import Derived.RangeFuncRecord
set_option linter.unusedSimpArgs false
set_option linter.unusedVariables false
set_option linter.unusedSectionVars false
namespace Go.Proofs.YtjdhnoffoknlnaaGreatDoor
open Go.RowKit
structure Tr (M:Nat→Prop) (fr:Fr) (L:Ls) (w:World) (fr':Fr) (L':Ls) (w':World) (ks:List Nat):Prop where
 size:w.heap.size≤w'.heap.size
 same:∀ b,b < w.heap.size→MA M fr L b→MA M fr' L' b∧w'.heap[b]?=w.heap[b]?
 keep:∀ i v,i ∉ ks→L i=some v→L' i=some v
section
variable {γ:Glob} {κ:Ctx} {M:Nat→Prop} {fr fr':Fr} {L L':Ls} {w w':World} {ks:List Nat}
theorem Tr.vr (h:Tr M fr L w fr' L' w' ks) {x:AV} {v:Value} (hv:VR (MA M fr L) w x v):VR (MA M fr' L') w' x v:=VR.on h.size h.same hv
theorem Tr.sub (h:Tr M fr L w fr' L' w' ks) {x:SV} {v:Value} (hv:SR (MA M fr L) L w x v):SR (MA M fr' L') L' w' (x.sub (killσ ks)) v:=
 SR.sub _ h.size h.same (fun i j v hj hi=>by obtain ⟨rfl,hk⟩:=killσ_some hj;exact h.keep _ v hk hi) hv
theorem Tr.sr (h:Tr M fr L w fr' L' w' []) {x:SV} {v:Value} (hv:SR (MA M fr L) L w x v):SR (MA M fr' L') L' w' x v:=SR.on h.size h.same (fun i v hi=>h.keep i v (by simp) hi) hv
theorem Tr.env (h:Tr M fr L w fr' L' w' ks) {env:Env} {t:Nat} {v:Value} (hv:SR (MA M fr L) L w (env t) v):SR (MA M fr' L') L' w' (killE ks env t) v:=by
 unfold killE
 split
 ·exact h.sr hv
 ·exact h.sub hv
theorem Tr.refl:Tr M fr L w fr L w ks:=⟨Nat.le_refl _,fun _ _ h=>⟨h,rfl⟩,fun _ _ _ h=>h⟩
theorem Tr.trans {fr'':Fr} {L'':Ls} {w'':World} (h:Tr M fr L w fr' L' w' ks) (k:Tr M fr' L' w' fr'' L'' w'' ks):Tr M fr L w fr'' L'' w'' ks:=
 ⟨Nat.le_trans h.size k.size,fun b hb hm=>⟨(k.same b (Nat.lt_of_lt_of_le hb h.size) (h.same b hb hm).1).1,((k.same b (Nat.lt_of_lt_of_le hb h.size) (h.same b hb hm).1).2).trans (h.same b hb hm).2⟩,fun i v hi hL=>k.keep i v hi (h.keep i v hi hL)⟩
theorem Tr.weaken {ks':List Nat} (h:Tr M fr L w fr' L' w' ks) (hk:∀ i∈ks,i∈ks'):Tr M fr L w fr' L' w' ks':=⟨h.size,h.same,fun i v hi hL=>h.keep i v (fun h=>hi (hk i h)) hL⟩
theorem Tr.below (hb:Below w.heap.size w w'):Tr M fr L w fr L w' ks:=⟨hb.size,fun b hlt hm=>⟨hm,hb.block b hlt⟩,fun _ _ _ h=>h⟩
theorem Lof_id (hC:Core γ κ fr L w) {n:Nat} (hn:fr.length=n):Lof n L (fun j=>j)=L:=by
 funext j
 unfold Lof
 split
 ·rfl
 ·cases h:L j with
  | none=>rfl
  | some v=>have:=hC.lim j v h;omega
theorem Core.frz (hC:Core γ κ fr L w) (l:List Nat):Core γ κ (freeze fr l) L w∧Tr κ.M fr L w (freeze fr l) L w []∧∀ b,MA κ.M fr L b→MA κ.M (freeze fr l) L b:=by
 obtain ⟨h1,h2,h3⟩:=hC.refr (freeze fr l) (fun j=>j) some (fun j k _ _ h=>h) (fun i j v h hv=>by
   cases h;exact ⟨by rw [freeze_len];exact hC.lim _ v hv,rfl⟩) (fun j lb' h=>by
   rw [freeze_get] at h
   cases hf:fr[j]? with
   | none=>rw [hf] at h;cases h
   | some lb=>rw [hf] at h;cases h;exact ⟨lb,rfl,blkTo_frz lb _⟩) (fun j v h=>by
   obtain ⟨lb,h1,_⟩:=hC.hand j v h
   exact ⟨lb,frzB (hasN l j) lb,h1,by rw [freeze_get,h1];rfl,rfl,fun ht=>by rw [frz_tch] at ht;exact ht⟩)
 rw [Lof_id hC (freeze_len l fr).symm] at h1 h2
 exact ⟨h1,⟨Nat.le_refl _,fun b _ hb=>⟨h2 b hb,rfl⟩,fun _ _ _ h=>h⟩,h2⟩
theorem Core.trim (hC:Core γ κ fr L w) (h:Nat) (hh:∀ j v,κ.L j=some v→j < h):∃ L',Core γ κ (trim h fr) L' w∧∀ x v,SR (MA κ.M fr L) L w x v→SR (MA κ.M (trim h fr) L') L' w (x.sub (ltσ h)) v:=by
 unfold Go.Proofs.YtjdhnoffoknlnaaGreatDoor.trim
 split
 ·rename_i hle
  rw [Nat.ble_eq] at hle
  exact ⟨L,hC,fun x v hv=>SR.sub _ (Nat.le_refl _) (fun b _ hb=>⟨hb,rfl⟩) (fun i j v hj hi=>by obtain ⟨rfl,_⟩:=ltσ_some hj;exact hi) hv⟩
 ·have hget:∀ (j:Nat) (lb':Lb),((fr.take h).map (Lb.sub (ltσ h)))[j]?=some lb'→j < h∧∃ lb,fr[j]?=some lb∧lb'=lb.sub (ltσ h):=fun j lb' hj=>by
   rw [List.getElem?_map,List.getElem?_take] at hj
   split at hj
   ·rename_i hjh
    cases hf:fr[j]? with
    | none=>rw [hf] at hj;cases hj
    | some lb=>rw [hf] at hj;cases hj;exact ⟨hjh,lb,rfl,rfl⟩
   ·cases hj
  obtain ⟨h1,h2,h3⟩:=hC.refr ((fr.take h).map (Lb.sub (ltσ h))) (fun j=>j) (ltσ h) (fun j k _ _ h=>h) (fun i j v hi hv=>by
    obtain ⟨rfl,hi⟩:=ltσ_some hi
    exact ⟨by rw [List.length_map,List.length_take];have:=hC.lim _ v hv;omega,rfl⟩) (fun j lb' hj=>by
    obtain ⟨_,lb,h4,rfl⟩:=hget j lb' hj
    exact ⟨lb,h4,blkTo_sub _ _⟩) (fun j v hj=>by
    obtain ⟨lb,h4,_⟩:=hC.hand j v hj
    exact ⟨lb,lb.sub (ltσ h),h4,by rw [List.getElem?_map,List.getElem?_take,if_pos (hh j v hj),h4];rfl,rfl,fun ht=>by rw [Lb.sub_tch] at ht;exact ht⟩)
  exact ⟨_,h1,fun x v hv=>SR.sub _ (Nat.le_refl _) (fun b _ hb=>⟨h2 b hb,rfl⟩) h3 hv⟩
def Lput (L:Ls) (n:Nat) (v:Value):Ls:=fun i=>if i=n then some v else L i
theorem Lput_self {n:Nat} {v:Value}:Lput L n v n=some v:=if_pos rfl
theorem Lput_ne {n i:Nat} {v:Value} (h:i≠n):Lput L n v i=L i:=if_neg h
theorem Core.pushB (hC:Core γ κ fr L w) (hb:Below w.heap.size w w') (lb:Lb) (v:Value) (hv:∀ b,Bk v b→w.heap.size≤b∧b < w'.heap.size)
  (hnew:Tr κ.M fr L w (fr++[lb]) (Lput L fr.length v) w' []→LbOk (MA κ.M (fr++[lb]) (Lput L fr.length v)) (Lput L fr.length v) w' fr.length lb):Core γ κ (fr++[lb]) (Lput L fr.length v) w'∧Tr κ.M fr L w (fr++[lb]) (Lput L fr.length v) w' []:=by
 have hold:∀ i u,L i=some u→i≠fr.length:=fun i u hi=>by have:=hC.lim i u hi;omega
 have hkeep:∀ i u,L i=some u→Lput L fr.length v i=some u:=fun i u hi=>by rw [Lput_ne (hold i u hi)];exact hi
 have hMA:∀ b,b < w.heap.size→MA κ.M fr L b→MA κ.M (fr++[lb]) (Lput L fr.length v) b:=fun b hlt hm=>⟨hm.1,fun ⟨i,u,lb',h1,h2,h3,h4⟩=>by
  by_cases hi:i=fr.length
  ·subst hi
   rw [Lput_self] at h1
   cases h1
   have:=(hv b h2).1;omega
  ·rw [Lput_ne hi] at h1
   rw [List.getElem?_append_left (hC.lim i u h1)] at h3
   exact hm.2 ⟨i,u,lb',h1,h2,h3,h4⟩⟩
 have hTr:Tr κ.M fr L w (fr++[lb]) (Lput L fr.length v) w' []:=⟨hb.size,fun b hlt hm=>⟨hMA b hlt hm,hb.block b hlt⟩,fun i u _ hi=>hkeep i u hi⟩
 have hlen:(fr++[lb]).length=fr.length+1:=by simp
 refine ⟨⟨γ.stays _ _ hC.glob fun k hk=>hb.block k (Nat.lt_of_lt_of_le hk (Nat.le_trans hC.gn hC.size)),hC.gn,hC.gx,hC.fresh,hb.os.trans hC.os,hb.tape.trans hC.tape,hb.output.trans hC.output,Nat.le_trans hC.size hb.size,fun k hk hx=>(hb.block k (Nat.lt_of_lt_of_le hk hC.size)).trans (hC.kept k hk hx),fun i u h=>?_,fun i u b lb' h1 h2 h3=>?_,fun i j u u' b h1 h2 h3 h4=>?_,fun j u h=>?_,fun i lb' h=>?_⟩,hTr⟩
 ·by_cases hi:i=fr.length
  ·omega
  ·rw [Lput_ne hi] at h;have:=hC.lim i u h;omega
 ·by_cases hi:i=fr.length
  ·subst hi
   rw [Lput_self] at h1
   cases h1
   obtain ⟨a1,a2⟩:=hv b h2
   exact ⟨a2,hC.fresh b (Nat.le_trans hC.size a1),.inl (Nat.le_trans hC.size a1),fun _=>.inl (Nat.le_trans hC.size a1)⟩
  ·rw [Lput_ne hi] at h1
   rw [List.getElem?_append_left (hC.lim i u h1)] at h3
   obtain ⟨a1,a2,a0,a3⟩:=hC.new i u b lb' h1 h2 h3
   exact ⟨Nat.lt_of_lt_of_le a1 hb.size,a2,a0,a3⟩
 ·have hlt:∀ i u,i≠fr.length→Lput L fr.length v i=some u→Bk u b→b < w.heap.size:=fun i u hi h1 h2=>by
   rw [Lput_ne hi] at h1
   have hil:=hC.lim i u h1
   exact (hC.new i u b fr[i] h1 h2 (List.getElem?_eq_getElem hil)).1
  by_cases hi:i=fr.length <;> by_cases hj:j=fr.length
  ·omega
  ·subst hi
   rw [Lput_self] at h1
   cases h1
   have:=hlt j u' hj h2 h4
   have:=(hv b h3).1;omega
  ·subst hj
   rw [Lput_self] at h2
   cases h2
   have:=hlt i u hi h1 h3
   have:=(hv b h4).1;omega
  ·rw [Lput_ne hi] at h1
   rw [Lput_ne hj] at h2
   exact hC.dis i j u u' b h1 h2 h3 h4
 ·obtain ⟨lb',h1,h2⟩:=hC.hand j u h
  exact ⟨lb',by rw [List.getElem?_append_left (lt_of_get h1)];exact h1,fun ht=>hkeep j u (h2 ht)⟩
 ·by_cases hi:i < fr.length
  ·rw [List.getElem?_append_left hi] at h
   have h1:=hC.blk i lb' h
   refine lbOk_to (σ:=some) hb.size hTr.same (fun i j u hj hu=>by cases hj;exact hkeep i u hu) (hkeep i) (fun u k hu hk=>hb.block k (hC.new i u k lb' hu hk h).1) (fun T sz u n us _ hr=>hr.below hb) (blkTo_refl lb') h1
  ·have:i=fr.length:=by have:=lt_of_get h;omega
   subst this
   rw [List.getElem?_append_right (Nat.le_refl _),Nat.sub_self] at h
   cases h
   exact hnew hTr
theorem Core.push (hC:Core γ κ fr L w) (hb:Below w.heap.size w w') (lb:Lb) (v:Value) (hv:∀ b,blkOf v=some b→w.heap.size≤b∧b < w'.heap.size)
  (hnew:Tr κ.M fr L w (fr++[lb]) (Lput L fr.length v) w' []→LbOk (MA κ.M (fr++[lb]) (Lput L fr.length v)) (Lput L fr.length v) w' fr.length lb) (hpv:plainV v=true:=by rfl):Core γ κ (fr++[lb]) (Lput L fr.length v) w'∧Tr κ.M fr L w (fr++[lb]) (Lput L fr.length v) w' []:=
 hC.pushB hb lb v (fun b h=>hv b (h.of hpv)) hnew
theorem Core.chgB (hC:Core γ κ fr L w) {i:Nat} {v v':Value} {lb lb':Lb} (hi:fr[i]?=some lb) (hro:lb.ro=false) (hL:L i=some v) (hg1:w'.os=w.os) (hg2:w'.tape=w.tape) (hg3:w'.output=w.output) (hg4:w.heap.size≤w'.heap.size) (hg5:∀ k,k < w.heap.size→¬ Bk v k→w'.heap[k]?=w.heap[k]?) (hblk:∀ b,Bk v' b→Bk v b∨w.heap.size≤b)
  (hlt:∀ b,Bk v' b→b < w'.heap.size) (hks:v'=v∨(i∈ks∧lb'.tch=true)) (htch:lb'.tch=false→lb.tch=false)
  (hnew:Tr κ.M fr L w ((killFr ks fr).set i lb') (Lput L i v') w' ks→LbOk (MA κ.M ((killFr ks fr).set i lb') (Lput L i v')) (Lput L i v') w' i lb') :
  Core γ κ ((killFr ks fr).set i lb') (Lput L i v') w'∧Tr κ.M fr L w ((killFr ks fr).set i lb') (Lput L i v') w' ks:=by
 have hil:i < fr.length:=lt_of_get hi
 have hself:((killFr ks fr).set i lb')[i]?=some lb':=List.getElem?_set_self (by rw [killFr_len];exact hil)
 have hget:∀ k,k≠i→((killFr ks fr).set i lb')[k]?=(fr[k]?).map (Lb.sub (killσ ks)):=fun k hk=>by rw [List.getElem?_set_ne (Ne.symm hk),killFr_get]
 have hown:∀ b,Bk v b→Own fr L b:=fun b hb=>⟨i,v,lb,hL,hb,hi,hro⟩
 have hkeep:∀ k u,k ∉ ks→L k=some u→Lput L i v' k=some u:=fun k u hk hu=>by
  by_cases e:k=i
  ·subst e
   rw [hL] at hu
   cases hu
   rcases hks with h|h
   ·rw [Lput_self,h]
   ·exact absurd h.1 hk
  ·rw [Lput_ne e];exact hu
 have hMA:∀ b,b < w.heap.size→MA κ.M fr L b→MA κ.M ((killFr ks fr).set i lb') (Lput L i v') b:=fun b hb hm=>⟨hm.1,fun ⟨k,u,lb2,h1,h2,h3,h4⟩=>by
  by_cases e:k=i
  ·subst e
   rw [Lput_self] at h1
   cases h1
   rcases hblk b h2 with h|h
   ·exact hm.2 (hown b h)
   ·omega
  ·rw [Lput_ne e] at h1
   rw [hget k e] at h3
   cases hf:fr[k]? with
   | none=>rw [hf] at h3;cases h3
   | some lb3=>rw [hf] at h3;cases h3;rw [Lb.sub_ro] at h4;exact hm.2 ⟨k,u,lb3,h1,h2,hf,h4⟩⟩
 have hne:∀ b,MA κ.M fr L b→¬ Bk v b:=fun b hm e=>hm.2 (hown b e)
 have hTr:Tr κ.M fr L w ((killFr ks fr).set i lb') (Lput L i v') w' ks:=⟨hg4,fun b hb hm=>⟨hMA b hb hm,hg5 b hb (hne b hm)⟩,hkeep⟩
 have hoth:∀ k u b,k≠i→L k=some u→Bk u b→¬ Bk v b:=fun k u b hk h1 h2 e=>hk (hC.dis k i u v b h1 hL h2 e)
 have hO:=fun b hb=>hC.own (hown b hb)
 refine ⟨⟨γ.stays _ _ hC.glob fun k hk=>hg5 k (Nat.lt_of_lt_of_le hk (Nat.le_trans hC.gn hC.size)) fun e=>?_,hC.gn,hC.gx,hC.fresh,hg1.trans hC.os,hg2.trans hC.tape,hg3.trans hC.output,Nat.le_trans hC.size hg4,fun k hk hx=>?_,fun k u h=>?_,fun k u b lb2 h1 h2 h3=>?_,fun k m u u' b h1 h2 h3 h4=>?_,fun j u h=>?_,fun k lb2 h=>?_⟩,hTr⟩
 ·obtain ⟨_,_,h⟩:=hO k e
  rcases h with h|h
  ·have:=hC.gn;omega
  ·have:=(hC.gx k h).1;omega
 ·rw [hg5 k (Nat.lt_of_lt_of_le hk hC.size) fun e=>?_]
  ·exact hC.kept k hk hx
  ·obtain ⟨_,_,h⟩:=hO k e
   rcases h with h|h
   ·omega
   ·exact hx h
 ·rw [List.length_set,killFr_len]
  by_cases e:k=i
  ·subst e;exact hil
  ·rw [Lput_ne e] at h;exact hC.lim k u h
 ·by_cases e:k=i
  ·subst e
   rw [Lput_self] at h1
   cases h1
   refine ⟨hlt b h2,?_⟩
   rcases hblk b h2 with h|h
   ·obtain ⟨_,a2,a3⟩:=hO b h
    obtain ⟨_,_,a0,_⟩:=hC.new k v b lb hL h hi
    exact ⟨a2,a0,fun _=>a3⟩
   ·have:=Nat.le_trans hC.size h
    exact ⟨hC.fresh _ this,.inl this,fun _=>.inl this⟩
  ·rw [Lput_ne e] at h1
   rw [hget k e] at h3
   cases hf:fr[k]? with
   | none=>rw [hf] at h3;cases h3
   | some lb3=>
    rw [hf] at h3;cases h3
    obtain ⟨a1,a2,a0,a3⟩:=hC.new k u b lb3 h1 h2 hf
    exact ⟨Nat.lt_of_lt_of_le a1 hg4,a2,a0,fun hr=>a3 (by rw [Lb.sub_ro] at hr;exact hr)⟩
 ·have key:∀ k u,k≠i→L k=some u→Bk u b→Bk v' b→False:=fun k u hk h1 h2 h3=>by
   rcases hblk b h3 with h|h
   ·exact hoth k u b hk h1 h2 h
   ·have hkl:=hC.lim k u h1
    have:=(hC.new k u _ fr[k] h1 h2 (List.getElem?_eq_getElem hkl)).1
    omega
  by_cases hk:k=i <;> by_cases hm:m=i
  ·omega
  ·subst hk
   rw [Lput_self] at h1
   cases h1
   rw [Lput_ne hm] at h2
   exact (key m u' hm h2 h4 h3).elim
  ·subst hm
   rw [Lput_self] at h2
   cases h2
   rw [Lput_ne hk] at h1
   exact (key k u hk h1 h3 h4).elim
  ·rw [Lput_ne hk] at h1
   rw [Lput_ne hm] at h2
   exact hC.dis k m u u' b h1 h2 h3 h4
 ·obtain ⟨lb2,h1,h2⟩:=hC.hand j u h
  by_cases e:j=i
  ·subst e
   rw [hi] at h1
   cases h1
   refine ⟨lb',hself,fun ht=>?_⟩
   have:=h2 (htch ht)
   rw [hL] at this
   cases this
   rcases hks with h|h
   ·rw [Lput_self,h]
   ·rw [h.2] at ht;cases ht
  ·exact ⟨lb2.sub (killσ ks),by rw [hget j e,h1];rfl,fun ht=>by rw [Lb.sub_tch] at ht;rw [Lput_ne e];exact h2 ht⟩
 ·by_cases e:k=i
  ·subst e
   rw [hself] at h
   cases h
   exact hnew hTr
  ·rw [hget k e] at h
   cases hf:fr[k]? with
   | none=>rw [hf] at h;cases h
   | some lb3=>
    rw [hf] at h;cases h
    refine lbOk_to (i:=k) (σ:=killσ ks) hg4 hTr.same (fun p q u hq hu=>by obtain ⟨rfl,hq⟩:=killσ_some hq;exact hkeep _ u hq hu) (fun u hu=>by rw [Lput_ne e];exact hu) (fun u b hu hb=>hg5 b (hC.new k u b lb3 hu hb hf).1 (hoth k u b e hu hb)) (fun T sz u n us hu hr=>hr.same fun b hb=>hg5 b (hC.new k u b lb3 hu (.one hb) hf).1 (hoth k u b e hu (.one hb))) (blkTo_sub _ _) (hC.blk k lb3 hf)
theorem Core.chg (hC:Core γ κ fr L w) {i:Nat} {v v':Value} {lb lb':Lb} (hi:fr[i]?=some lb) (hro:lb.ro=false) (hL:L i=some v) (hg:w.grownBy w' (blkOf v)) (hblk:blkOf v'=blkOf v∨blkOf v'=some w.heap.size∨blkOf v'=none)
  (hlt:∀ b,blkOf v'=some b→b < w'.heap.size) (hks:v'=v∨(i∈ks∧lb'.tch=true)) (htch:lb'.tch=false→lb.tch=false)
  (hnew:Tr κ.M fr L w ((killFr ks fr).set i lb') (Lput L i v') w' ks→LbOk (MA κ.M ((killFr ks fr).set i lb') (Lput L i v')) (Lput L i v') w' i lb') (hpv:plainV v'=true:=by rfl) :
  Core γ κ ((killFr ks fr).set i lb') (Lput L i v') w'∧Tr κ.M fr L w ((killFr ks fr).set i lb') (Lput L i v') w' ks:=
 hC.chgB hi hro hL hg.os hg.tape hg.output hg.size (fun k hk hn=>hg.block k hk fun e=>hn (.one e.symm)) (fun b hb=>by
  have hb:=hb.of hpv
  rcases hblk with h|h|h
  ·exact .inl (.one (h ▸ hb))
  ·rw [h] at hb;cases hb;exact .inr (Nat.le_refl _)
  ·rw [h] at hb;cases hb) (fun b hb=>hlt b (hb.of hpv)) hks htch hnew
end
end Go.Proofs.YtjdhnoffoknlnaaGreatDoor
namespace Go.Proofs.YtjdhnoffoknlnaaGreatDoor
open Go.RowKit
section
variable {P:Program} {γ:Glob} {κ:Ctx} {fr:Fr} {L:Ls} {w:World} {A:Nat→Prop}
theorem row_tree (hC:Core γ κ fr L w) (hA:∀ b,MA κ.M fr L b→A b) {i sz:Nat} {ro tch:Bool} {es:List (List AV)} {v:Value} (hb:fr[i]?=some (.row ro tch sz es)) (hL:L i=some v) (hAi:∀ b,blkOf v=some b→A b):VR A w (.arr es) v:=by
 obtain ⟨T,us,how,hlen,_,hes,hr⟩:=row_form hC hb hL
 rcases how with ⟨h0,_,a,rfl⟩|how
 ·rw [List.eq_nil_of_length_eq_zero h0];exact .arr0 _ _
 ·rcases how.2 with ⟨rfl,h0⟩|⟨g,cap,cur,rfl,_,hg,hnc,hcm,hcs,htk⟩
  ·rw [List.eq_nil_of_length_eq_zero h0];exact .arr0 _ _
  ·rcases es with _|⟨e0,et⟩
   ·exact .arr0 _ _
   ·have hc1:∃ c,cap=c+1:=⟨cap - 1,by simp at hnc;omega⟩
    obtain ⟨c,rfl⟩:=hc1
    have hgl:g < w.heap.size:=(Array.getElem?_eq_some_iff.1 hg).1
    refine .arr g 0 (c+1) sz _ (fun k j=>us.getD (k * sz+j) undef) (by simp) hlen hnc hgl (hAi g rfl) hes (fun k j hk hj=>?_) (fun k j cs x hk hj=>?_)
    ·have hlt:k * sz+j < us.length:=by
      rw [how.1]
      have:(k+1) * sz≤(e0::et).length * sz:=Nat.mul_le_mul_right _ hk
      rw [Nat.add_mul] at this;omega
     have:=own_cell how (List.getElem?_eq_getElem hlt)
     rw [List.getD_eq_getElem?_getD,List.getElem?_eq_getElem hlt,Nat.zero_add]
     exact this
    ·obtain ⟨u,hu,hr'⟩:=hr k j cs x hk hj
     rw [List.getD_eq_getElem?_getD,hu]
     exact VR.on (Nat.le_refl _) (fun b _ hb=>⟨hA b hb,rfl⟩) hr'
theorem okSz_of {sz:Nat} {es:List (List AV)} (h:∀ (k:Nat) (cs:List AV),es[k]?=some cs→cs.length=sz):okSz sz es=true:=by
 cases es with
 | nil=>rfl
 | cons e es=>simp [okSz,h 0 e rfl]
theorem lv_tree (hC:Core γ κ fr L w) (hA:∀ b,MA κ.M fr L b→A b) {i sz a n:Nat} {es:List (List AV)} {v:Value} (h:lvOf fr i sz a n=some es) (hs:SR (MA κ.M fr L) L w (.lv i sz a n) v) (hi:∀ u b,L i=some u→Bk u b→A b):VR A w (.arr es) v:=by
 obtain ⟨ro,tch,es0,hb,h1,rfl⟩:=lvOf_spec h
 obtain ⟨b,m,c,hL,rfl⟩:=inv_lv hs
 have ht:=row_tree hC hA hb hL fun b hbb=>hi _ b hL (.one hbb)
 rcases Nat.eq_zero_or_pos n with h0|h0
 ·subst h0
  rw [List.take_zero]
  exact .arr0 _ _
 ·obtain ⟨_,_,_,_,⟨q',c',e⟩,hes,_⟩:=row_form hC hb hL
  cases e
  have hcap:es0.length≤c:=by
   generalize hq:Value.slice (some ⟨b,0,none⟩) es0.length c=z at ht
   cases ht with
   | arr0=>simp at h1;omega
   | arr b o c' sz' _ us hne hlen hcap=>cases hq;exact hcap
  have:=arr_cut (l:=a) (h:=a+n) ht (by omega) h1 (okSz_of hes)
  rw [if_neg (by omega),List.drop_take,Nat.add_sub_cancel_left] at this
  simpa [addr_add] using this
theorem toAV_ok (hC:Core γ κ fr L w) (hA:∀ b,MA κ.M fr L b→A b):∀ n:Nat,
  (∀ (s:SV) (x:AV) (v:Value),toAV fr n s=some x→(∀ i∈rch fr n s,∀ u b,L i=some u→Bk u b→A b)→SR (MA κ.M fr L) L w s v→VR A w x v)∧
  (∀ (cs:List SV) (xs:List AV),toAVL fr n cs=some xs→(∀ i∈rchL fr n cs,∀ u b,L i=some u→Bk u b→A b)→cs.length=xs.length∧∀ (j:Nat) (s:SV) (x:AV) (v:Value),cs[j]?=some s→xs[j]?=some x→SR (MA κ.M fr L) L w s v→VR A w x v)
 | 0=>⟨(fun s x v h=>by unfold toAV at h;cases h),(fun cs xs h=>by unfold toAVL at h;cases h)⟩
 | n+1=>by
  obtain ⟨ih1,ih2⟩:=toAV_ok hC hA n
  have drop:∀ {x:AV} {v:Value},VR (MA κ.M fr L) w x v→VR A w x v:=fun h=>VR.on (Nat.le_refl _) (fun b _ hb=>⟨hA b hb,rfl⟩) h
  refine ⟨fun s x v h hi hs=>?_,fun cs xs h hi=>?_⟩
  ·unfold toAV at h
   unfold rch at hi
   split at h
   ·cases h;cases hs with|t _ _ h=>exact drop h
   ·cases h;cases hs;exact .arr0 _ _
   ·cases h;exact drop (sl_tree hs (.inr (.inl rfl)))
   ·cases h;exact drop (sl_tree hs (.inr (.inr (.inl rfl))))
   ·rename_i i
    split at h
    ·rename_i ro tch sz es hb
     cases h
     obtain ⟨hL,_⟩:=inv_ls hs
     exact row_tree hC hA hb hL fun b hbb=>hi i (by simp) v b hL (.one hbb)
    ·cases h
   ·split at h
    ·rename_i es he
     cases h
     exact lv_tree hC hA he hs fun u b hL hbb=>hi _ (by simp) u b hL hbb
    ·cases h
   ·rename_i i j
    split at h
    ·rename_i ro T cs hb
     split at h
     ·rename_i y ys ht
      cases h
      obtain ⟨g,hL,rfl⟩:=inv_lp hs
      simp only [hb] at hi
      obtain ⟨h1,h2⟩:=ih2 _ _ ht fun k hk=>hi k (by simp [hk])
      obtain ⟨g',us,e1,e2,e3,e4⟩:=hC.box i ro T cs hb
      rw [hL] at e1
      cases e1
      have hus:∀ k,k < (y::ys).length→us[j+k]?=some (us.getD (j+k) undef):=fun k hk=>by
       have:j+k < us.size:=by rw [e3];rw [List.length_drop] at h1;omega
       rw [Array.getD_eq_getD_getElem?,Array.getElem?_eq_getElem this];rfl
      refine .tp g j _ (fun k=>us.getD (j+k) undef) (by simp) (Array.getElem?_eq_some_iff.1 e2).1 (hi i (by simp) _ g hL (.one rfl)) (fun k hk=>?_) (fun k x hx=>?_)
      ·simp only [World.cell?,e2]
       exact hus k hk
      ·have hk:=lt_of_get hx
       obtain ⟨s,hs'⟩:=get_of_lt (xs:=cs.drop j) (k:=k) (by rw [h1];exact hk)
       refine h2 k s x _ hs' hx ?_
       rw [List.getElem?_drop] at hs'
       exact e4 _ s _ hs' (hus k hk)
     ·cases h
    ·cases h
   ·rename_i cs
    split at h
    ·rename_i xs ht
     cases h
     cases hs with
     | agg _ us hl hr=>
      obtain ⟨h1,h2⟩:=ih2 _ _ ht hi
      refine .agg _ _ (by rw [hl,h1]) fun j x u hx hu=>?_
      obtain ⟨s,hs'⟩:=get_of_lt (xs:=cs) (k:=j) (by rw [h1];exact lt_of_get hx)
      exact h2 j s x u hs' hx (hr j s u hs' hu)
    ·cases h
   ·rename_i cs
    split at h
    ·rename_i xs ht
     cases h
     cases hs with
     | tup _ us hl hr=>
      obtain ⟨h1,h2⟩:=ih2 _ _ ht hi
      refine .tup _ _ (by rw [hl,h1]) fun j x u hx hu=>?_
      obtain ⟨s,hs'⟩:=get_of_lt (xs:=cs) (k:=j) (by rw [h1];exact lt_of_get hx)
      exact h2 j s x u hs' hx (hr j s u hs' hu)
    ·cases h
   ·rename_i f nf cs
    split at h
    ·rename_i xs ht
     cases h
     cases hs with
     | fn _ _ fs us hl hr=>
      obtain ⟨h1,h2⟩:=ih2 _ _ ht hi
      refine .fn _ _ _ _ (by rw [hl,h1]) fun j x u hx hu=>?_
      obtain ⟨s,hs'⟩:=get_of_lt (xs:=cs) (k:=j) (by rw [h1];exact lt_of_get hx)
      exact h2 j s x u hs' hx (hr j s u hs' hu)
    ·cases h
   ·rename_i i
    split at h
    ·rename_i ro ks vs hb
     split at h
     ·rename_i xs ht
      cases h
      cases hs with
      | lm _ r hL=>
       simp only [hb] at hi
       obtain ⟨h1,h2⟩:=ih2 _ _ ht fun k hk=>hi k (by simp [hk])
       obtain ⟨r',ents,clock,e1,e2,e3,e4,e5,e6,_⟩:=hC.blk i _ hb
       rw [hL] at e1
       cases e1
       refine .mp r ks xs ents clock (Array.getElem?_eq_some_iff.1 e2).1 (hi i (by simp) _ r hL (.one rfl)) e2 e3 (by rw [e4,h1]) (fun j x u hx hu=>drop (e5 j x u hx hu)) fun j x u hx hu=>?_
       obtain ⟨s,hs'⟩:=get_of_lt (xs:=vs) (k:=j) (by rw [h1];exact lt_of_get hx)
       exact h2 j s x _ hs' hx (e6 j s u hs' hu)
     ·cases h
    ·cases h
   ·rename_i i p
    split at h
    ·rename_i ro y hb
     cases hs with
     | lo _ _ t v hL hv hp=>
      obtain ⟨v',t',e1,e2⟩:=hC.blk i _ hb
      rw [hL] at e1
      cases e1
      obtain ⟨v2,t2,e3,e4,e5⟩:=e2.at_ h
      obtain rfl:=e4.hd e3 hv
      exact e4.vr fun b hb=>hi i (by simp) _ b hL (e5 b hb)
    ·cases h
   ·cases h
  ·cases cs with
   | nil=>unfold toAVL at h;cases h;exact ⟨rfl,fun j s x v hs=>by simp at hs⟩
   | cons c cs=>
    unfold toAVL at h
    unfold rchL at hi
    split at h
    ·rename_i x ys h1 h2
     cases h
     obtain ⟨a1,a2⟩:=ih2 _ _ h2 fun k hk=>hi k (by simp [hk])
     refine ⟨by simp [a1],fun j s y v hs hy hv=>?_⟩
     cases j with
     | zero=>cases hs;cases hy;exact ih1 _ _ v h1 (fun k hk=>hi k (by simp [hk])) hv
     | succ j=>exact a2 j s y v (by simpa using hs) (by simpa using hy) hv
    ·cases h
theorem toAVs_ok (hC:Core γ κ fr L w) (hA:∀ b,MA κ.M fr L b→A b):∀ (cs:List SV) (xs:List AV),toAVs fr cs=some xs→(∀ i∈rchs fr cs,∀ u b,L i=some u→Bk u b→A b)→cs.length=xs.length∧∀ (j:Nat) (s:SV) (x:AV) (v:Value),cs[j]?=some s→xs[j]?=some x→SR (MA κ.M fr L) L w s v→VR A w x v
 | [],xs,h,_=>by unfold toAVs at h;cases h;exact ⟨rfl,fun j s x v hs=>by simp at hs⟩
 | c::cs,xs,h,hi=>by
  unfold toAVs at h
  unfold rchs at hi
  split at h
  ·cases h
  ·rename_i x h1
   split at h
   ·cases h
   ·rename_i ys h2
    cases h
    obtain ⟨a1,a2⟩:=toAVs_ok hC hA cs ys h2 fun k hk=>hi k (by simp [hk])
    refine ⟨by simp [a1],fun j s y v hs hy hv=>?_⟩
    cases j with
    | zero=>cases hs;cases hy;exact (toAV_ok hC hA deep).1 _ _ v h1 (fun k hk=>hi k (by simp [hk])) hv
    | succ j=>exact a2 j s y v (by simpa using hs) (by simpa using hy) hv
theorem frz_free (hC:Core γ κ fr L w) {l:List Nat}:∀ i∈l,∀ u b,L i=some u→Bk u b→MA κ.M (freeze fr l) L b:=fun i hi u b hu hb=>by
 have hil:=hC.lim i u hu
 refine ⟨(hC.new i u b fr[i] hu hb (List.getElem?_eq_getElem hil)).2.1,fun ⟨j,v,lb,h1,h2,h3,h4⟩=>?_⟩
 have hji:=hC.dis j i v u b h1 hu h2 hb
 subst hji
 rw [freeze_get,hasN_iff.2 hi] at h3
 cases hf:fr[j]? with
 | none=>rw [hf] at h3;cases h3
 | some lb2=>
  rw [hf] at h3
  cases h3
  have:(frzB true lb2).ro=true:=setRo_ro lb2
  rw [this] at h4
  cases h4
def OpOk (P:Program) (γ:Glob) (env:Env) (fr:Fr) (o:Oper) (x:SV) (fr':Fr) (ks:List Nat):Prop:=
 ∀ (κ:Ctx) (L:Ls) (a:Act) (w:World),Core γ κ fr L w→(∀ y∈o.op.operands,SR (MA κ.M fr L) L w (evE env y) (a.eval y))→OpTo P o a w fun v w'=>∃ L',Tr κ.M fr L w fr' L' w' ks∧Core γ κ fr' L' w'∧SR (MA κ.M fr' L') L' w' x v
theorem Neu.ok {env:Env} {o:Oper} {x:SV} (h:Neu P γ fr env o x):OpOk P γ env fr o x fr []:=fun κ L a w hC hop=>(h κ L a w hC hop).mono fun v w' ⟨hb,hv⟩=>⟨L,Tr.below hb,hC.later hb,hv⟩
theorem lbOk_box {L':Ls} {w':World} {i g:Nat} {T:TypeId} {us:Array Value} {cs:List SV} {ro:Bool} (hL:L' i=some (.pointer (some ⟨g,0,none⟩))) (hh:w'.heap[g]?=some (.cells us T (0,0))) (hl:us.size=cs.length) (hr:∀ (j:Nat) (x:SV) (u:Value),cs[j]?=some x→us[j]?=some u→SR A L' w' x u):LbOk A L' w' i (.box ro T cs):=⟨g,us,hL,hh,hl,hr⟩
theorem newBox_ok {env:Env} {o:Oper} {T:TypeId} {cs:List SV} (h:∀ (κ:Ctx) (L:Ls) (a:Act) (w:World),Core γ κ fr L w→(∀ y∈o.op.operands,SR (MA κ.M fr L) L w (rd env y) (a.eval y))→∃ us:Array Value,(execOp a.eval o).run P w=.ok (.value (.pointer (some ⟨w.heap.size,0,none⟩))) (w.alloc (.cells us T))∧us.size=cs.length∧∀ (j:Nat) (x:SV) (u:Value),cs[j]?=some x→us[j]?=some u→SR (MA κ.M fr L) L w x u) :
  OpOk P γ env fr o (.lp fr.length 0) (fr++[.box false T cs]) []:=fun κ L a w hC hop=>by
 obtain ⟨us,h1,h2,h3⟩:=h κ L a w hC fun y hy=>rd_ok (hop y hy)
 have hbl:Below w.heap.size w (w.alloc (.cells us T)):=(Below.refl _ _).alloc (Nat.le_refl _) _
 obtain ⟨hC',hT⟩:=hC.push hbl (.box false T cs) (.pointer (some ⟨w.heap.size,0,none⟩)) (fun b hb=>by cases hb;exact ⟨Nat.le_refl _,by simp⟩) fun hT=>lbOk_box Lput_self (by show (w.heap.push (.cells us T))[w.heap.size]?=_;exact Array.getElem?_push_size) h2 fun j x u hx hu=>hT.sr (h3 j x u hx hu)
 exact .value' h1 ⟨_,hT,hC',.lp _ 0 _ Lput_self⟩
theorem alloc_ok {env:Env} {dst:Option Tmp} {ty:TypeId} {pos:String} {after:Array Edge} {g:Option (Nat×Bool)} {T:TypeId} {zs:List SV} (hz:zeroT P T=some zs):OpOk P γ env fr ⟨dst,.alloc T,ty,pos,after,g⟩ (.lp fr.length 0) (fr++[.box false T zs]) []:=newBox_ok fun κ L a w hC hop=>by
 unfold zeroT at hz
 cases hi:P.info? T with
 | none=>rw [hi] at hz;cases hz
 | some i=>
  rw [hi,Option.bind_some] at hz
  cases hzz:i.zero with
  | none=>rw [hzz] at hz;cases hz
  | some z=>
   rw [hzz] at hz
   cases hz
   refine ⟨z.cells,by simp [execOp,Instr.alloc,Sem.run_bind,run_zero hi hzz,newVar,newRow,newObj,pure,Sem.run],by simp,fun j x u hx hu=>?_⟩
   rw [List.getElem?_map,Array.getElem?_toList,hu] at hx
   cases hx
   exact cv_ok u
theorem box_ok {env:Env} {dst:Option Tmp} {ty:TypeId} {pos:String} {after:Array Edge} {g:Option (Nat×Bool)} {T:TypeId} {y:Operand} (h:(cellsS (rd env y)).all oneS=true):OpOk P γ env fr ⟨dst,.box T y,ty,pos,after,g⟩ (.lp fr.length 0) (fr++[.box false T (cellsS (rd env y))]) []:=newBox_ok fun κ L a w hC hop=>by
 obtain ⟨hl,hr⟩:=cellsS_ok (hop y (by simp [Op.operands])) (List.all_eq_true.1 h)
 exact ⟨(a.eval y).cells,by simp [execOp,Instr.box,Sem.run_bind,newVar,newRow,newObj,pure,Sem.run],hl.symm,hr⟩
end
end Go.Proofs.YtjdhnoffoknlnaaGreatDoor
namespace Go.Proofs.YtjdhnoffoknlnaaGreatDoor
open Go.RowKit
def setBlk (w:World) (b:Nat) (us:Array Value) (T:TypeId):World:={ w with heap:=w.heap.setIfInBounds b (.cells us T (0,0)) }
theorem setBlk_at {w:World} {b:Nat} {us:Array Value} {T:TypeId} (h:b < w.heap.size):(setBlk w b us T).heap[b]?=some (.cells us T (0,0)):=by
 unfold setBlk
 exact Array.getElem?_setIfInBounds_self_of_lt h
theorem setBlk_off {w:World} {b k:Nat} {us:Array Value} {T:TypeId} (h:k≠b):(setBlk w b us T).heap[k]?=w.heap[k]?:=by
 unfold setBlk
 exact Array.getElem?_setIfInBounds_ne (Ne.symm h)
theorem setBlk_size {w:World} {b:Nat} {us:Array Value} {T:TypeId}:(setBlk w b us T).heap.size=w.heap.size:=by simp [setBlk]
theorem setBlk_grown (w:World) (b:Nat) (us:Array Value) (T:TypeId):w.grownBy (setBlk w b us T) (some b):=⟨rfl,rfl,rfl,by rw [setBlk_size];exact Nat.le_refl _,fun k _ hk=>setBlk_off fun e=>hk (by rw [e])⟩
theorem setBlk_setBlk {w:World} {b:Nat} {us vs:Array Value} {T:TypeId}:setBlk (setBlk w b us T) b vs T=setBlk w b vs T:=by
 unfold setBlk
 simp [Array.setIfInBounds_setIfInBounds]
theorem setCell_blk {w:World} {b o:Nat} {us:Array Value} {T:TypeId} (h:w.heap[b]?=some (.cells us T (0,0))) (v:Value):w.setCell ⟨b,o,none⟩ v=setBlk w b (us.setIfInBounds o v) T:=by
 unfold World.setCell setBlk
 congr 1
 apply Array.ext_getElem?
 intro k
 rw [Array.getElem?_modify]
 by_cases hk:b=k
 ·subst hk
  have hlt:=(Array.getElem?_eq_some_iff.1 h).1
  rw [if_pos rfl,Array.getElem?_setIfInBounds_self_of_lt hlt,h]
  rfl
 ·rw [if_neg hk,Array.getElem?_setIfInBounds_ne hk]
theorem run_store {P:Program} {w:World} {b o:Nat} {us:Array Value} {T:TypeId} {v:Value} (h:w.heap[b]?=some (.cells us T (0,0))) (ho:o < us.size) (hv:plainV v=true):(store ⟨b,o,none⟩ v).run P w=.ok () (setBlk w b (us.setIfInBounds o v) T):=by
 have hc:w.cell? ⟨b,o,none⟩=some us[o]:=by simp [World.cell?,h,ho]
 have hf:w.frozen? ⟨b,o,none⟩=false:=by simp [World.frozen?,h]
 rw [← setCell_blk h]
 unfold store
 cases v <;> first|(simp [plainV] at hv;done)|(simp [Sem.run,hc,hf])
theorem run_storeCells {P:Program} {b:Nat} {T:TypeId} (j:Nat):∀ (vs:List Value) (i:Nat) (w:World) (us:Array Value),w.heap[b]?=some (.cells us T (0,0))→j+i+vs.length≤us.size→(∀ v∈vs,plainV v=true)→(storeCells ⟨b,j,none⟩ vs i).run P w=.ok () (setBlk w b (putL us (j+i) vs) T)
 | [],i,w,us,h,_,_=>by
  have:setBlk w b us T=w:=by
   unfold setBlk
   have:w.heap.setIfInBounds b (.cells us T (0,0))=w.heap:=by
    apply Array.ext_getElem?
    intro k
    by_cases hk:b=k
    ·subst hk
     rw [Array.getElem?_setIfInBounds_self_of_lt (Array.getElem?_eq_some_iff.1 h).1,h]
    ·rw [Array.getElem?_setIfInBounds_ne hk]
   rw [this]
  simp [storeCells,putL,this,pure,Sem.run]
 | v::vs,i,w,us,h,hl,hv=>by
  simp only [List.length_cons] at hl
  have h1:=run_store (P:=P) (o:=j+i) (v:=v) h (by omega) (hv v (by simp))
  have hlt:=(Array.getElem?_eq_some_iff.1 h).1
  have ih:=run_storeCells (P:=P) (b:=b) (T:=T) j vs (i+1) (setBlk w b (us.setIfInBounds (j+i) v) T) (us.setIfInBounds (j+i) v) (setBlk_at hlt) (by simp;omega) fun u hu=>hv u (by simp [hu])
  unfold storeCells
  simp only [Sem.run_bind,addr_add,h1,Result.andThen_ok,ih,setBlk_setBlk]
  rfl
theorem Lput_same {L:Ls} {i:Nat} {v:Value} (h:L i=some v):Lput L i v=L:=by
 funext j
 unfold Lput
 split
 ·subst_vars;exact h.symm
 ·rfl
def putU (us:List Value) (o:Nat):List Value→List Value
 | []=>us
 | v::vs=>putU (us.set o v) (o+1) vs
theorem putU_len:∀ (vs:List Value) (us:List Value) (o:Nat),(putU us o vs).length=us.length
 | [],_,_=>rfl
 | v::vs,us,o=>by rw [putU,putU_len vs];simp
theorem putL_toList:∀ (vs:List Value) (us:Array Value) (o:Nat),(putL us o vs).toList=putU us.toList o vs
 | [],_,_=>rfl
 | v::vs,us,o=>by rw [putL,putU,putL_toList vs];simp
theorem putU_take:∀ (vs:List Value) (us:List Value) (o n:Nat),o+vs.length≤n→(putU us o vs).take n=putU (us.take n) o vs
 | [],us,o,n,_=>rfl
 | v::vs,us,o,n,h=>by
  simp only [List.length_cons] at h
  rw [putU,putU,putU_take vs _ _ _ (by omega),List.take_set]
theorem ownsRow_put {w:World} {T:TypeId} {sz b n c q:Nat} {us vs:List Value} (h:w.ownsRow 0 T sz (.slice (some ⟨b,0,none⟩) n c) n us) (hq:q+vs.length≤us.length) (hv:∀ v∈vs,plainV v=true) (P:Program) :
  ∃ w',(storeCells ⟨b,q,none⟩ vs).run P w=.ok () w'∧w'.ownsRow 0 T sz (.slice (some ⟨b,0,none⟩) n c) n (putU us q vs)∧w.grownBy w' (some b):=by
 rcases h.2 with ⟨e,_⟩|⟨g,cap,cur,e,hb,hg,hnc,hcm,hcs,htk⟩
 ·cases e
 ·cases e
  have hul:=h.1
  have hle:n * sz≤cur.size:=by rw [hcs];exact Nat.mul_le_mul_right _ hnc
  have hr:=run_storeCells (P:=P) (b:=b) (T:=T) q vs 0 w cur hg (by omega) hv
  rw [Nat.add_zero] at hr
  refine ⟨_,hr,⟨by rw [putU_len];exact h.1,.inr ⟨b,c,putL cur q vs,rfl,hb,setBlk_at (Array.getElem?_eq_some_iff.1 hg).1,hnc,hcm,by rw [putL_size];exact hcs,?_⟩⟩,setBlk_grown _ _ _ _⟩
  rw [putL_toList,putU_take _ _ _ _ (by omega),htk]
def RelRow (A:Nat→Prop) (w:World) (sz:Nat) (es:List (List AV)) (us:List Value):Prop:=(∀ (k:Nat) (cs:List AV),es[k]?=some cs→cs.length=sz)∧∀ (k j:Nat) (cs:List AV) (x:AV),es[k]?=some cs→cs[j]?=some x→∃ u,us[k * sz+j]?=some u∧VR A w x u
theorem RelRow.set {A:Nat→Prop} {w:World} {sz k j:Nat} {es:List (List AV)} {us:List Value} {cs:List AV} {x:AV} {u:Value} (h:RelRow A w sz es us) (hk:es[k]?=some cs) (hj:j < cs.length) (hx:VR A w x u):RelRow A w sz (es.set k (cs.set j x)) (us.set (k * sz+j) u):=by
 have hcl:=h.1 k cs hk
 refine ⟨fun q cs' hq=>?_,fun q p cs' y hq hp=>?_⟩
 ·by_cases hqk:k=q
  ·subst hqk
   rw [List.getElem?_set_self (lt_of_get hk)] at hq
   cases hq
   rw [List.length_set];exact hcl
  ·rw [List.getElem?_set_ne hqk] at hq
   exact h.1 q cs' hq
 ·have hidx:∀ {q p:Nat} {cs':List AV},es[q]?=some cs'→p < cs'.length→(q≠k∨p≠j)→q * sz+p≠k * sz+j:=fun {q p cs'} hq hp hne e=>by
   have h1:=h.1 q cs' hq
   have hpz:p < sz:=by omega
   have hjz:j < sz:=by omega
   have hz:0 < sz:=by omega
   have e1:(q * sz+p) / sz=q:=by rw [Nat.mul_comm,Nat.mul_add_div hz,Nat.div_eq_of_lt hpz,Nat.add_zero]
   have e2:(k * sz+j) / sz=k:=by rw [Nat.mul_comm,Nat.mul_add_div hz,Nat.div_eq_of_lt hjz,Nat.add_zero]
   have e3:q=k:=by rw [← e1,← e2,e]
   subst e3
   rcases hne with h|h
   ·exact h rfl
   ·omega
  by_cases hqk:k=q
  ·subst hqk
   rw [List.getElem?_set_self (lt_of_get hk)] at hq
   cases hq
   by_cases hpj:j=p
   ·subst hpj
    rw [List.getElem?_set_self hj] at hp
    cases hp
    obtain ⟨y0,hy0⟩:=get_of_lt hj
    obtain ⟨u0,hu0,_⟩:=h.2 k j cs y0 hk hy0
    exact ⟨u,by rw [List.getElem?_set_self (lt_of_get hu0)],hx⟩
   ·rw [List.getElem?_set_ne hpj] at hp
    obtain ⟨u0,hu0,hr0⟩:=h.2 k p cs y hk hp
    exact ⟨u0,by rw [List.getElem?_set_ne (Ne.symm (hidx hk (lt_of_get hp) (.inr (Ne.symm hpj))))];exact hu0,hr0⟩
  ·rw [List.getElem?_set_ne hqk] at hq
   obtain ⟨u0,hu0,hr0⟩:=h.2 q p cs' y hq hp
   exact ⟨u0,by rw [List.getElem?_set_ne (Ne.symm (hidx hq (lt_of_get hp) (.inl (Ne.symm hqk))))];exact hu0,hr0⟩
theorem RelRow.put {A:Nat→Prop} {w:World} {sz k:Nat}:∀ (xs:List AV) (vs:List Value) (es:List (List AV)) (us:List Value) (cs:List AV) (j:Nat),RelRow A w sz es us→es[k]?=some cs→j+xs.length≤cs.length→xs.length=vs.length→(∀ (q:Nat) (x:AV) (v:Value),xs[q]?=some x→vs[q]?=some v→VR A w x v)→RelRow A w sz (es.set k (putA cs j xs)) (putU us (k * sz+j) vs)
 | [],[],es,us,cs,j,h,hk,_,_,_=>by
  have:es.set k cs=es:=by
   apply List.ext_getElem?
   intro q
   by_cases hq:k=q
   ·subst hq;rw [List.getElem?_set_self (lt_of_get hk),hk]
   ·rw [List.getElem?_set_ne hq]
  rw [putA,putU,this];exact h
 | x::xs,v::vs,es,us,cs,j,h,hk,hl,hlen,hr=>by
  simp only [List.length_cons] at hl hlen
  have h1:=h.set hk (j:=j) (by omega) (hr 0 x v rfl rfl)
  have h2:=RelRow.put xs vs _ _ (cs.set j x) (j+1) h1 (List.getElem?_set_self (lt_of_get hk)) (by rw [List.length_set];omega) (by omega) fun q y u hy hu=>hr (q+1) y u (by simpa using hy) (by simpa using hu)
  rw [List.set_set] at h2
  rw [putA,putU]
  exact h2
 | [],_::_,_,_,_,_,_,_,_,hl,_=>by simp at hl
 | _::_,[],_,_,_,_,_,_,_,hl,_=>by simp at hl
section
variable {P:Program} {γ:Glob} {κ:Ctx} {fr:Fr} {L:Ls} {w:World} {A:Nat→Prop}
theorem store_ok {env:Env} {dst:Option Tmp} {ty:TypeId} {pos:String} {after:Array Edge} {g:Option (Nat×Bool)} {t:Nat} {ad val:Operand} {x:SV} {fr':Fr} {ks:List Nat} (h:storeE P fr t (rd env ad) (rd env val)=some (x,fr',ks)) :
  OpOk P γ env fr ⟨dst,.store t ad val,ty,pos,after,g⟩ x fr' ks:=fun κ L a w hC hop=>by
 have hav:=rd_ok (hop ad (by simp [Op.operands]))
 have hvv:=rd_ok (hop val (by simp [Op.operands]))
 generalize rd env ad=sa at h hav
 generalize rd env val=sv at h hvv
 unfold storeE at h
 split at h
 ·cases h
 ·rename_i ag n ht
  split at h
  ·cases h
  ·rename_i hc
   rw [Bool.and_eq_true] at hc
   have hone:=List.all_eq_true.1 hc.1
   have hn:(cellsS sv).length=n:=by simpa using hc.2
   obtain ⟨hl,hr⟩:=cellsS_ok hvv hone
   have hpl:=cells_plain hvv hone
   have exec:∀ {b o:Nat} {w1 w':World},a.eval ad=.pointer (some ⟨b,o,none⟩)→(storeCells ⟨b,o,none⟩ (a.eval val).cells.toList).run P w1=.ok () w'→(execOp a.eval ⟨dst,.store t ad val,ty,pos,after,g⟩).run P w1=.ok .skip w':=fun {b o w1 w'} e hs=>by
    have hsz:(a.eval val).cells.size=n:=by omega
    simp [execOp,Instr.storeAt,e,Instr.sureAddr,storeVar,Sem.run_bind,(run_isAgg ht w1).2,hsz,hs,pure,Sem.run]
   split at h
   ·rename_i i j
    split at h
    ·rename_i T cs hb
     split at h
     ·rename_i hj
      cases h
      rw [Nat.ble_eq] at hj
      obtain ⟨b,hL,hav⟩:=inv_lp hav
      obtain ⟨b',us,h3,h4,h5,h6⟩:=hC.box i _ T cs hb
      rw [hL] at h3
      cases h3
      have hlt:=(Array.getElem?_eq_some_iff.1 h4).1
      have hsc:=run_storeCells (P:=P) (b:=b) (T:=T) j (a.eval val).cells.toList 0 w us h4 (by simp;omega) hpl
      rw [Nat.add_zero] at hsc
      obtain ⟨hC',hT⟩:=hC.chg (w':=setBlk w b (putL us j (a.eval val).cells.toList) T) (ks:=[]) (v':=.pointer (some ⟨b,0,none⟩)) (lb':=.box false T (putS cs j (cellsS sv))) hb rfl hL (setBlk_grown _ _ _ _) (.inl rfl) (fun b' hb'=>by cases hb';rw [setBlk_size];exact hlt) (.inl rfl) (fun _=>rfl) fun hT=>
       lbOk_box Lput_self (setBlk_at hlt) (by rw [putL_size,putS_len,h5]) (put_rel2 _ _ _ _ _ (by simp;omega) h5 (fun k y u hy hu=>hT.sr (h6 k y u hy hu)) fun k y u hy hu=>hT.sr (hr k y u hy (by simpa using hu)))
      unfold OpTo
      rw [exec hav hsc]
      exact ⟨_,hT,hC',.dead _⟩
     ·cases h
    ·cases h
   ·rename_i i sz k j
    split at h
    ·rename_i tch sz' es hb
     split at h
     ·cases h
     ·rename_i hz
      obtain rfl:sz=sz':=by simpa using hz
      split at h
      ·cases h
      ·rename_i cs hk
       split at h
       ·cases h
       ·rename_i hj
        rw [Nat.ble_eq] at hj
        split at h
        ·cases h
        ·rename_i xs hxs
         split at h
         ·cases h
         ·rename_i hself
          cases h
          obtain ⟨b,m,c,hL,hav⟩:=inv_le hav
          obtain ⟨hC1,hT1,hM1⟩:=hC.frz (rchs fr (cellsS sv))
          have hb1:(freeze fr (rchs fr (cellsS sv)))[i]?=some (.row false tch sz es):=by rw [freeze_get,hb,hself];rfl
          obtain ⟨x1,x2⟩:=toAVs_ok hC (A:=MA κ.M (freeze fr (rchs fr (cellsS sv))) L) hM1 _ _ hxs (frz_free hC)
          obtain ⟨T,us,how,hlen,⟨q,c',e⟩,hes,her⟩:=row_form hC1 hb1 hL
          cases e
          have hkk:=lt_of_get hk
          have how:=how.own (by omega)
          have hcl:=hes k cs hk
          have hq:k * sz+j+(a.eval val).cells.toList.length≤us.length:=by
           rw [how.1]
           have:(k+1) * sz≤es.length * sz:=Nat.mul_le_mul_right _ hkk
           rw [Nat.add_mul] at this
           simp
           omega
          obtain ⟨w',hrun,how',hg⟩:=ownsRow_put how hq hpl P
          have hcap:∃ c0,c=c0+1:=by
           rcases how.2 with ⟨e,_⟩|⟨g,cap,cur,e,_,_,hnc,_⟩
           ·cases e
           ·cases e;exact ⟨c - 1,by omega⟩
          obtain ⟨c,rfl⟩:=hcap
          have hrel:RelRow (MA κ.M (freeze fr (rchs fr (cellsS sv))) L) w sz (es.set k (putA cs j xs)) (putU us (k * sz+j) (a.eval val).cells.toList):=RelRow.put xs _ es us cs j ⟨hes,her⟩ hk (by omega) (by simp;omega) fun q y u hy hu=>by
           obtain ⟨s,hs⟩:=get_of_lt (xs:=cellsS sv) (k:=q) (by rw [x1];exact lt_of_get hy)
           exact x2 q s y u hs hy (hr q s u hs (by simpa using hu))
          obtain ⟨hC',hT⟩:=hC1.chg (w':=w') (ks:=[]) (v':=.slice (some ⟨b,0,none⟩) es.length (c+1)) (lb':=.row false tch sz (es.set k (putA cs j xs))) hb1 rfl hL hg (.inl rfl) (fun b' hb'=>by
            cases hb'
            rcases how'.2 with ⟨e,_⟩|⟨g,cap,cur,e,_,hgg,_⟩
            ·cases e
            ·cases e;exact (Array.getElem?_eq_some_iff.1 hgg).1) (.inl rfl) (fun h=>h) fun hT=>by
           refine ⟨T,_,_,Lput_self,.inr (by rw [List.length_set];exact how'),by rw [List.length_set];exact hlen,hrel.1,fun q p cs' y hq hp=>?_⟩
           obtain ⟨u,e1,e2⟩:=hrel.2 q p cs' y hq hp
           exact ⟨u,e1,hT.vr e2⟩
          unfold OpTo
          rw [exec hav hrun]
          exact ⟨_,hT1.trans hT,hC',.dead _⟩
    ·cases h
   ·rename_i i p k
    unfold storeQ at h
    split at h
    ·rename_i x0 hb
     split at h
     ·rename_i fs hx0
      split at h
      ·rename_i k1 m0 k2 m hk
       split at h
       ·rename_i hkk
        subst hkk
        cases h
        obtain ⟨t0,b,n0,c,hL,hv,hav⟩:=inv_lq hav
        obtain ⟨v0,t1,e1,e2⟩:=hC.blk i _ hb
        rw [hL] at e1
        cases e1
        obtain ⟨v',t',f1,f2,f3⟩:=e2.at_ hx0
        obtain ⟨b',n',c',u,t2,g1,g2,g3,g4,_⟩:=f2.elem hk
        have:=f2.hd f1 hv
        rw [g1] at this
        cases this
        have hbk:=f3 b g2
        obtain ⟨hlt,cs,T,hg⟩:=e2.lt b hbk
        have hcell:cs[k]?=some u:=by simpa [World.cell?,hg] using g3
        have hin:=(Array.getElem?_eq_some_iff.1 hcell).1
        have hvi:a.eval val=.int k1 m:=inv_int hvv
        have hcl:(a.eval val).cells.toList=[.int k1 m]:=by rw [hvi];rfl
        have hpl1:∀ z∈[Value.int k1 m],plainV z=true:=fun z hz=>by
         rw [List.mem_singleton.1 hz]
         rfl
        have hsc:=run_storeCells (P:=P) (b:=b) (T:=T) k [.int k1 m] 0 w cs hg (by simp;omega) hpl1
        rw [Nat.add_zero] at hsc
        have hgr:=setBlk_grown w b (putL cs k [.int k1 m]) T
        obtain ⟨hC',hT⟩:=hC.chgB (w':=setBlk w b (putL cs k [.int k1 m]) T) (ks:=[]) (v':=t0) (lb':=.own false (setAt x0 p k (.int k1 m))) hb rfl hL hgr.os hgr.tape hgr.output hgr.size (fun q hq hn=>hgr.block q hq fun e=>hn (by cases e;exact hbk)) (fun _ h=>.inl h) (fun b' hb'=>by rw [setBlk_size];exact (e2.lt b' hb').1) (.inl rfl) (fun h=>h) fun hT=>⟨v0,t0,Lput_self,e2.put (m:=m) (fun b' hne=>setBlk_off hne) (fun cs' T' h=>by
          rw [hg] at h
          cases h
          exact setBlk_at hlt) hx0 hk hv⟩
        unfold OpTo
        rw [exec hav (by rw [hcl];exact hsc)]
        exact ⟨_,hT,hC',.dead _⟩
       ·cases h
      ·cases h
     ·cases h
    ·cases h
   ·cases h
def RCells (w:World) (q:Option Addr) (cs:List Value):Prop:=0 < cs.length→∃ b o,q=some ⟨b,o,none⟩∧b < w.heap.size∧∀ j u,cs[j]?=some u→w.cell? ⟨b,o+j,none⟩=some u
theorem vr_cells {M:Nat→Prop} {es:List (List AV)} {v:Value} {sz:Nat} (hsz:0 < sz) (h:VR M w (.arr es) v) (hl:∀ (k:Nat) (cs:List AV),es[k]?=some cs→cs.length=sz) :
  ∃ q c us,v=.slice q es.length c∧RCells w q us∧us.length=es.length * sz∧∀ (k j:Nat) (cs:List AV) (x:AV),es[k]?=some cs→cs[j]?=some x→∃ u,us[k * sz+j]?=some u∧VR M w x u:=by
 cases h with
 | arr0 q c=>exact ⟨q,c,[],rfl,fun h=>absurd h (by simp),by simp,fun k j cs x hk _=>by simp at hk⟩
 | arr b o c sz' _ us hne hlen hcap hb hM hs hc hr=>
  have hss:sz'=sz:=by
   obtain ⟨e0,he⟩:=get_of_lt (xs:=es) (k:=0) (by cases es with|nil=>exact absurd rfl hne|cons=>simp)
   rw [← hs 0 e0 he,hl 0 e0 he]
  subst hss
  have hat:∀ q,q < es.length * sz'→((List.range (es.length * sz')).map fun q=>us (q / sz') (q % sz'))[q]?=some (us (q / sz') (q % sz')):=fun q hq=>by
   rw [List.getElem?_map,List.getElem?_range hq];rfl
  refine ⟨_,c,(List.range (es.length * sz')).map fun q=>us (q / sz') (q % sz'),rfl,fun _=>⟨b,o,rfl,hb,fun q u hu=>?_⟩,by simp,fun k j cs x hk hj=>?_⟩
  ·have hq:q < es.length * sz':=by have:=lt_of_get hu;simpa using this
   rw [hat q hq] at hu
   cases hu
   have h1:=hc (q / sz') (q % sz') ((Nat.div_lt_iff_lt_mul hsz).2 hq) (Nat.mod_lt _ hsz)
   rwa [Nat.mul_comm,Nat.div_add_mod] at h1
  ·have hk':=lt_of_get hk
   have hj':j < sz':=by rw [← hl k cs hk];exact lt_of_get hj
   have hq:k * sz'+j < es.length * sz':=by
    have:(k+1) * sz'≤es.length * sz':=Nat.mul_le_mul_right _ hk'
    rw [Nat.add_mul] at this;omega
   have e1:(k * sz'+j) / sz'=k:=by rw [Nat.mul_comm,Nat.mul_add_div hsz,Nat.div_eq_of_lt hj',Nat.add_zero]
   have e2:(k * sz'+j) % sz'=j:=by rw [Nat.mul_comm,Nat.mul_add_mod,Nat.mod_eq_of_lt hj']
   refine ⟨us k j,?_,hr k j cs x hk hj⟩
   rw [hat _ hq,e1,e2]
theorem row_cells (hC:Core γ κ fr L w) {i sz:Nat} {ro tch:Bool} {es:List (List AV)} {v:Value} (hb:fr[i]?=some (.row ro tch sz es)) (hL:L i=some v):∃ q c us,v=.slice q es.length c∧RCells w q us∧us.length=es.length * sz∧∀ (k j:Nat) (cs:List AV) (x:AV),es[k]?=some cs→cs[j]?=some x→∃ u,us[k * sz+j]?=some u∧VR (MA κ.M fr L) w x u:=by
 obtain ⟨T,us,how,hlen,⟨q,c,rfl⟩,hes,hr⟩:=row_form hC hb hL
 refine ⟨q,c,us,rfl,fun h0=>?_,how.len,hr⟩
 rcases how with ⟨h1,rfl,_⟩|how
 ·simp at h0
 ·rcases how.2 with ⟨e,h1⟩|⟨g,cap,cur,e,_,hg,_⟩
  ·have:=how.1;rw [h1] at this;omega
  ·cases e
   exact ⟨g,0,rfl,(Array.getElem?_eq_some_iff.1 hg).1,fun j u hu=>by rw [Nat.zero_add];exact own_cell how hu⟩
theorem lv_cells (hC:Core γ κ fr L w) {i sz a n:Nat} {es:List (List AV)} {v:Value} (h:lvOf fr i sz a n=some es) (hs:SR (MA κ.M fr L) L w (.lv i sz a n) v):∃ q c us,v=.slice q es.length c∧RCells w q us∧us.length=es.length * sz∧∀ (k j:Nat) (cs:List AV) (x:AV),es[k]?=some cs→cs[j]?=some x→∃ u,us[k * sz+j]?=some u∧VR (MA κ.M fr L) w x u:=by
 have hlen:=lvOf_len h
 obtain ⟨ro,tch,es0,hb,h1,rfl⟩:=lvOf_spec h
 obtain ⟨b,m,c,hL,rfl⟩:=inv_lv hs
 obtain ⟨q,c',us,e,hr,hul,hc⟩:=row_cells hC hb hL
 cases e
 obtain ⟨_,_,_,_,_,hes,_⟩:=row_form hC hb hL
 rw [hlen]
 have hle:a * sz+n * sz≤es0.length * sz:=by rw [← Nat.add_mul];exact Nat.mul_le_mul_right _ h1
 refine ⟨_,_,(us.drop (a * sz)).take (n * sz),rfl,fun h0=>?_,by rw [List.length_take,List.length_drop,hul];omega,fun k j cs x hk hj=>?_⟩
 ·obtain ⟨b',o,e,hlt,hcell⟩:=hr (by rw [List.length_take,List.length_drop] at h0;omega)
  cases e
  refine ⟨b,a * sz,rfl,hlt,fun j u hu=>?_⟩
  rw [List.getElem?_take] at hu
  split at hu
  ·rw [List.getElem?_drop] at hu
   have:=hcell _ u hu
   rwa [Nat.zero_add] at this
  ·cases hu
 ·rw [List.getElem?_take] at hk
  split at hk
  ·rename_i hkn
   rw [List.getElem?_drop] at hk
   obtain ⟨u,e1,e2⟩:=hc _ j cs x hk hj
   refine ⟨u,?_,e2⟩
   have hjs:j < sz:=by rw [← hes _ _ hk];exact lt_of_get hj
   have h2:(k+1) * sz≤n * sz:=Nat.mul_le_mul_right _ hkn
   rw [Nat.add_mul] at h2 e1
   rw [List.getElem?_take,if_pos (by omega),List.getElem?_drop,← e1]
   congr 1
   omega
  ·cases hk
theorem news_cells (hC:Core γ κ fr L w) {s:SV} {v:Value} {es:List (List AV)} {sz:Nat} (hsz:0 < sz) (h:slOf fr s=some es) (hs:SR (MA κ.M fr L) L w s v) (hn:newsOk sz es=true) :
  ∃ q c us,v=.slice q es.length c∧RCells w q us∧us.length=es.length * sz∧(∀ u∈us,plainV u=true)∧RelRow (MA κ.M fr L) w sz es us:=by
 unfold newsOk at hn
 have hn':∀ (k:Nat) (cs:List AV),es[k]?=some cs→cs.length=sz∧cs.all oneA=true:=fun k cs hk=>by
  have:=List.all_eq_true.1 hn cs (List.mem_of_getElem? hk)
  rw [Bool.and_eq_true] at this
  exact ⟨by simpa using this.1,this.2⟩
 have main:∃ q c us,v=.slice q es.length c∧RCells w q us∧us.length=es.length * sz∧∀ (k j:Nat) (cs:List AV) (x:AV),es[k]?=some cs→cs[j]?=some x→∃ u,us[k * sz+j]?=some u∧VR (MA κ.M fr L) w x u:=by
  unfold slOf at h
  split at h
  ·cases h;exact vr_cells hsz (sl_tree hs (.inl rfl)) fun k cs hk=>(hn' k cs hk).1
  ·cases h;exact vr_cells hsz (sl_tree hs (.inr (.inr (.inr ⟨rfl,rfl⟩)))) fun k cs hk=>(hn' k cs hk).1
  ·cases h;exact vr_cells hsz (sl_tree hs (.inr (.inl rfl))) fun k cs hk=>(hn' k cs hk).1
  ·cases h;exact vr_cells hsz (sl_tree hs (.inr (.inr (.inl rfl)))) fun k cs hk=>(hn' k cs hk).1
  ·split at h
   ·rename_i ro tch sz' es' hb
    cases h
    obtain ⟨hL,_⟩:=inv_ls hs
    obtain ⟨T,us,how,hlen,hf,hes,hr⟩:=row_form hC hb hL
    rcases es with _|⟨e0,et⟩
    ·obtain ⟨q,c,rfl⟩:=hf
     exact ⟨q,c,[],rfl,fun h=>absurd h (by simp),by simp,fun k j cs x hk _=>by simp at hk⟩
    ·have:sz'=sz:=by rw [← hes 0 e0 rfl,(hn' 0 e0 rfl).1]
     subst this
     exact row_cells hC hb hL
   ·cases h
  ·rename_i i sz' a n
   obtain ⟨ro,tch,es0,hb,h1,he⟩:=lvOf_spec h
   obtain ⟨b,m,c,hL,hv⟩:=inv_lv hs
   obtain ⟨_,_,_,_,_,hes,_⟩:=row_form hC hb hL
   rcases es with _|⟨e0,et⟩
   ·have:=lvOf_len h
    subst hv
    rw [← this]
    exact ⟨_,_,[],rfl,fun h=>absurd h (by simp),by simp,fun k j cs x hk _=>by simp at hk⟩
   ·have:sz'=sz:=by
     have h2:((es0.drop a).take n)[0]?=some e0:=by rw [← he];rfl
     rw [List.getElem?_take] at h2
     split at h2
     ·rw [List.getElem?_drop] at h2
      rw [← hes _ e0 h2,(hn' 0 e0 rfl).1]
     ·cases h2
    subst this
    exact lv_cells hC h hs
  ·cases h
 obtain ⟨q,c,us,h1,h2,h3,h4⟩:=main
 refine ⟨q,c,us,h1,h2,h3,fun u hu=>?_,fun k cs hk=>(hn' k cs hk).1,h4⟩
 obtain ⟨p,hp,rfl⟩:=List.mem_iff_getElem.1 hu
 have hp':p < es.length * sz:=by omega
 have hk:p / sz < es.length:=(Nat.div_lt_iff_lt_mul hsz).2 hp'
 obtain ⟨cs,hcs⟩:=get_of_lt hk
 have hj:p % sz < cs.length:=by rw [(hn' _ cs hcs).1];exact Nat.mod_lt _ hsz
 obtain ⟨y,hy⟩:=get_of_lt hj
 obtain ⟨u',e1,e2⟩:=h4 _ _ cs y hcs hy
 rw [Nat.mul_comm,Nat.div_add_mod,List.getElem?_eq_getElem hp] at e1
 cases e1
 have ho:=List.all_eq_true.1 (hn' _ cs hcs).2 y (List.mem_of_getElem? hy)
 generalize us[p]=z at e2
 cases e2 <;> first|rfl|(simp [oneA] at ho;done)|(rename_i h;cases z <;> first|rfl|cases h)
theorem run_append_is {t ty e sz by_ T n m c:Nat} {v:Value} {us news:List Value} {q:Option Addr} (ht:rowT P t=some (e,sz,by_)) (h:RowIs w T sz v n us) (hx:RCells w q news) (hl:news.length=m * sz) (h1:∀ u∈news,plainV u=true) (hlen:n+m≤140737488351232) (hby:(n+m) * by_≤140737488355328) :
  ∃ v' w' T',(Builtin.append_ #[t,t] ty #[v,.slice q m c]).run P w=.ok v' w'∧RowIs w' T' sz v' (n+m) (us++news)∧w.grownBy w' (blkOf v)∧(blkOf v'=blkOf v∨blkOf v'=some w.heap.size∨blkOf v'=none):=by
 obtain ⟨i,z,hu,hi,hz,rfl,rfl,hzs,hpos⟩:=rowT_spec ht
 have hul:=h.len
 rcases Nat.eq_zero_or_pos m with h0|h0
 ·subst h0
  have hn:news=[]:=List.eq_nil_of_length_eq_zero (by simpa using hl)
  subst hn
  have hrun:∀ {a:Option Addr} {n cap:Nat},n≤cap→(Builtin.append_ #[t,t] ty #[.slice a n cap,.slice q 0 c]).run P w=.ok (.slice a n cap) w:=fun {a n cap} hnc=>by
   cases q <;> cases a <;> simp [Builtin.append_,run_underlying hu,sizeOf,typeInfo,hi,Builtin.lenOf,Builtin.firstCells,loadCells,loadCellsFrom,hnc,storeCells]
  refine ⟨v,w,T,?_,by simpa using h,⟨rfl,rfl,rfl,Nat.le_refl _,fun _ _ _=>rfl⟩,.inl rfl⟩
  rcases h with ⟨rfl,_,a,rfl⟩|h
  ·exact hrun (Nat.le_refl _)
  ·rcases h.2 with ⟨rfl,_⟩|⟨g,cap,cur,rfl,_,_,hnc,_⟩
   ·exact hrun (Nat.le_refl _)
   ·exact hrun hnc
 ·obtain ⟨b,o,rfl,hb,hnc'⟩:=hx (by rw [hl];exact Nat.mul_pos h0 hpos)
  have hnews:∀ j u,news[j]?=some u→w.cell? ((⟨b,o,none⟩:Addr).add j)=some u:=fun j u hu=>by rw [addr_add];exact hnc' j u hu
  have hone:∀ u∈news,u.oneCell'=true:=fun u hu=>by have:=h1 u hu;cases u <;> first|rfl|cases this
  have made:∀ (old:Nat),old < n+m→∀ (row:Option Nat),RowIs (w.drew.alloc (.cells (us.toArray++news.toArray++Builtin.zeroCells z.cells (grownCap w (n+m) old e - (n+m))) e)) e i.size (.slice (some ⟨w.heap.size,0,none⟩) (n+m) (grownCap w (n+m) old e)) (n+m) (us++news)∧
    w.grownBy (w.drew.alloc (.cells (us.toArray++news.toArray++Builtin.zeroCells z.cells (grownCap w (n+m) old e - (n+m))) e)) row:=fun old ho row=>by
   have hge:=grownCap_ge w (n+m) old e
   have hcm:grownCap w (n+m) old e≤maxLen:=grownCap_le_maxLen w (n+m) old e (by unfold maxLen;omega)
   refine ⟨.inr ⟨by rw [List.length_append,hul,hl,Nat.add_mul],.inr ⟨w.heap.size,_,_,rfl,Nat.zero_le _,heap_alloc_new w.drew _,hge,hcm,?_,?_⟩⟩,⟨rfl,rfl,rfl,by simp,fun k hk _=>Below.heap_alloc w.drew _ k hk⟩⟩
   ·simp only [Array.size_append,List.size_toArray,size_zeroCells,hzs,hul,hl,← Nat.add_mul]
    congr 1
    omega
   ·have:(us++news).length=(n+m) * i.size:=by rw [List.length_append,hul,hl,Nat.add_mul]
    simp only [Array.toList_append]
    rw [← this]
    exact List.take_left
  have grow:∀ {a:Addr} {cap:Nat},cap < n+m→(∀ j u,us[j]?=some u→w.cell? (a.add j)=some u)→(blkOf (.slice (some a) n cap)=none∨True)→∃ v' w' T',(Builtin.append_ #[t,t] ty #[.slice (some a) n cap,.slice (some ⟨b,o,none⟩) m c]).run P w=.ok v' w'∧RowIs w' T' i.size v' (n+m) (us++news)∧w.grownBy w' (blkOf (.slice (some a) n cap))∧(blkOf v'=blkOf (.slice (some a) n cap)∨blkOf v'=some w.heap.size∨blkOf v'=none):=fun {a cap} hcap holds _=>by
   have hr:=run_append_grow (P:=P) w t ty e i z hu hi hz a n cap us hul holds ⟨b,o,none⟩ m c news hl hnews hcap (by omega) (growslice_fits hcap hby)
   obtain ⟨m1,m2⟩:=made cap hcap (blkOf (.slice (some a) n cap))
   have hge:=grownCap_ge w (n+m) cap e
   obtain ⟨k,hk⟩:∃ k,grownCap w (n+m) cap e=k+1:=⟨grownCap w (n+m) cap e - 1,by omega⟩
   refine ⟨_,_,e,hr,m1,m2,.inr (.inl ?_)⟩
   rw [hk];rfl
  have growNil:n=0→us=[]→∃ v' w' T',(Builtin.append_ #[t,t] ty #[.slice none 0 0,.slice (some ⟨b,o,none⟩) m c]).run P w=.ok v' w'∧RowIs w' T' i.size v' (n+m) (us++news)∧w.grownBy w' none∧(blkOf v'=none∨blkOf v'=some w.heap.size∨blkOf v'=none):=fun hn0 hus=>by
   subst hn0 hus
   have hr:=run_append_nil (P:=P) w t ty e i z hu hi hz ⟨b,o,none⟩ m c news hl hnews h0 (by omega) (by have hb:=hby;simp only [Nat.zero_add] at hb;omega)
   obtain ⟨m1,m2⟩:=made 0 (by omega) none
   have hge:=grownCap_ge w (0+m) 0 e
   simp only [Nat.zero_add,List.nil_append,Array.empty_append] at m1 m2 hge ⊢
   obtain ⟨k,hk⟩:∃ k,grownCap w m 0 e=k+1:=⟨grownCap w m 0 e - 1,by omega⟩
   refine ⟨_,_,e,hr,m1,m2,.inr (.inl ?_)⟩
   rw [hk];rfl
  rcases h with ⟨hn0,hus,a,rfl⟩|h
  ·cases a with
   | none=>exact growNil hn0 hus
   | some a=>
    subst hn0
    exact grow (a:=a) (cap:=0) (by omega) (fun j u hu=>by rw [hus] at hu;simp at hu) (.inr trivial)
  ·rcases h.2 with ⟨rfl,hn0⟩|⟨g,cap,cur,rfl,hbg,hg,hnc,hcm,hcs,htk⟩
   ·exact growNil hn0 (List.eq_nil_of_length_eq_zero (by rw [hul,hn0];simp))
   ·rcases Nat.lt_or_ge cap (n+m) with hlt|hge
    ·exact grow hlt (h.cells (g:=g) rfl) (.inr trivial)
    ·have hf:=run_firstCells_some (P:=P) w i.size m ⟨b,o,none⟩ m c news hl hnews
     have hfit:n * i.size+0+news.length≤cur.size:=by rw [hl,hcs,Nat.add_zero,← Nat.add_mul];exact Nat.mul_le_mul_right _ hge
     have hst:=run_storeCells (P:=P) (b:=g) (T:=T) (n * i.size) news 0 w cur hg hfit h1
     rw [Nat.add_zero] at hst
     have hglt:=(Array.getElem?_eq_some_iff.1 hg).1
     obtain ⟨k,rfl⟩:∃ k,cap=k+1:=⟨cap - 1,by omega⟩
     refine ⟨.slice (some ⟨g,0,none⟩) (n+m) (k+1),setBlk w g (putL cur (n * i.size) news) T,T,?_,.inr ⟨by rw [List.length_append,hul,hl,Nat.add_mul],.inr ⟨g,k+1,_,rfl,hbg,setBlk_at hglt,hge,hcm,by rw [putL_size];exact hcs,?_⟩⟩,setBlk_grown _ _ _ _,.inl rfl⟩
     ·simp [Builtin.append_,run_underlying hu,sizeOf,typeInfo,hi,Builtin.lenOf,hge,hf,addr_add,hst]
     ·have hcl:(n+m) * i.size≤cur.toList.length:=by rw [Array.length_toList,hcs];exact Nat.mul_le_mul_right _ hge
      rw [putL_toList,putU_take _ _ _ _ (by rw [hl,← Nat.add_mul];exact Nat.le_refl _)]
      have hput:∀ (vs xs ys:List Value),vs.length=ys.length→putU (xs++ys) xs.length vs=xs++vs:=fun vs=>by
       induction vs with
       | nil=>intro xs ys hy;rw [List.eq_nil_of_length_eq_zero hy.symm];rfl
       | cons v vs ih=>
        intro xs ys hy
        cases ys with
        | nil=>simp at hy
        | cons y ys=>
         rw [putU]
         have:(xs++y::ys).set xs.length v=(xs++[v])++ys:=by simp
         rw [this]
         have:=ih (xs++[v]) ys (by simpa using hy)
         rw [List.length_append] at this
         simp only [List.length_cons,List.length_nil,Nat.zero_add] at this
         rw [this]
         simp
      have hsplit:cur.toList.take ((n+m) * i.size)=us++(cur.toList.drop (n * i.size)).take (m * i.size):=by
       rw [← htk,Nat.add_mul,List.take_add]
      rw [hsplit]
      have hus:n * i.size=us.length:=hul.symm
      rw [hus]
      exact hput news us _ (by rw [List.length_take,List.length_drop];rw [Nat.add_mul] at hcl;omega)
end
end Go.Proofs.YtjdhnoffoknlnaaGreatDoor
namespace Go.Proofs.YtjdhnoffoknlnaaGreatDoor
open Go.RowKit
section
variable {P:Program} {γ:Glob} {env:Env} {fr:Fr} {dst:Option Tmp} {ty:TypeId} {pos:String} {after:Array Edge} {g:Option (Nat×Bool)}
theorem newRow_ok {o:Oper} {sz:Nat} {es:List (List AV)} (h:∀ (κ:Ctx) (L:Ls) (a:Act) (w:World),Core γ κ fr L w→(∀ y∈o.op.operands,SR (MA κ.M fr L) L w (rd env y) (a.eval y))→∃ (T:TypeId) (v:Value) (us:List Value) (w':World),(execOp a.eval o).run P w=.ok (.value v) w'∧Below w.heap.size w w'∧RowIs w' T sz v es.length us∧es.length≤140737488351232∧RelRow (MA κ.M fr L) w sz es us∧∀ b,blkOf v=some b→w.heap.size≤b∧b < w'.heap.size) :
  OpOk P γ env fr o (.ls fr.length) (fr++[.row false false sz es]) []:=fun κ L a w hC hop=>by
 obtain ⟨T,v,us,w',h1,h2,h3,h4,h5,h6⟩:=h κ L a w hC fun y hy=>rd_ok (hop y hy)
 obtain ⟨hC',hT⟩:=hC.push h2 (.row false false sz es) v h6 (hpv:=by obtain ⟨_,_,rfl⟩:=h3.form;rfl) fun hT=>⟨T,v,us,Lput_self,h3,h4,h5.1,fun k j cs x hk hj=>by
  obtain ⟨u,e1,e2⟩:=h5.2 k j cs x hk hj
  exact ⟨u,e1,hT.vr e2⟩⟩
 refine .value' h1 ⟨_,hT,hC',.ls _ v Lput_self ?_⟩
 obtain ⟨q,c,rfl⟩:=h3.form
 rfl
theorem newTree_ok {o:Oper} {sz:Nat} {es:List (List AV)} (h:∀ (κ:Ctx) (L:Ls) (a:Act) (w:World),Core γ κ fr L w→(∀ y∈o.op.operands,SR (MA κ.M fr L) L w (rd env y) (a.eval y))→∃ (T:TypeId) (v:Value) (us:List Value) (w':World),(execOp a.eval o).run P w=.ok (.value v) w'∧Below w.heap.size w w'∧RowIs w' T sz v es.length us∧es.length≤140737488351232∧RelRow (MA κ.M fr L) w sz es us∧∀ b,blkOf v=some b→w.heap.size≤b∧b < w'.heap.size):OpOk P γ env fr o (.t (.arr es)) fr []:=fun κ L a w hC hop=>by
 obtain ⟨T,v,us,w',h1,h2,h3,h4,h5,h6⟩:=h κ L a w hC fun y hy=>rd_ok (hop y hy)
 obtain ⟨hC',hT⟩:=hC.push h2 (.row false false sz es) v h6 (hpv:=by obtain ⟨_,_,rfl⟩:=h3.form;rfl) fun hT=>⟨T,v,us,Lput_self,h3,h4,h5.1,fun k j cs x hk hj=>by
  obtain ⟨u,e1,e2⟩:=h5.2 k j cs x hk hj
  exact ⟨u,e1,hT.vr e2⟩⟩
 refine .value' h1 ⟨L,Tr.below h2,hC.later h2,.t _ _ ?_⟩
 refine row_tree hC' (A:=MA κ.M fr L) (fun b hb=>⟨hb.1,fun ⟨i,u,lb,e1,e2,e3,e4⟩=>hb.2 ⟨i,u,lb,?_,e2,?_,e4⟩⟩) (i:=fr.length) (sz:=sz) (ro:=false) (tch:=false) (by simp) Lput_self fun b hb=>?_
 ·rw [Lput_ne (by have:=hC.lim i u e1;omega)];exact e1
 ·rw [List.getElem?_append_left (lt_of_get e3)];exact e3
 ·have hn:=h6 b hb
  refine ⟨hC.fresh b (by have:=hC.size;omega),fun ⟨i,u,lb,e1,e2,e3,_⟩=>?_⟩
  have:=(hC.new i u b lb e1 e2 e3).1
  omega
theorem exec_append {s x:Operand} {t:Nat} {tys:Array TypeId} {args:Array Operand} {a:Act} {w w':World} {v:Value} (hargs:args.toList=[s,x]) (htys:tys.toList=[t,t]) (h:(Builtin.append_ #[t,t] ty #[a.eval s,a.eval x]).run P w=.ok v w'):(execOp a.eval ⟨dst,.call ⟨.builtin .append,args,tys⟩,ty,pos,after,g⟩).run P w=.ok (.value v) w':=by
 obtain ⟨args⟩:=args
 obtain ⟨tys⟩:=tys
 simp only at hargs htys
 subst hargs htys
 simp only [execOp,resolve,invoke,builtin,Sem.run_bind,Sem.run_pure,Result.andThen_ok,List.map_toArray,List.map_cons,List.map_nil,h]
theorem lenOk_spec {n by_:Nat} (h:lenOk n by_=true):n≤140737488351232∧n * by_≤140737488355328:=by
 unfold lenOk at h
 rw [Bool.and_eq_true,Nat.ble_eq,Nat.ble_eq] at h
 exact h
theorem RelRow.app {A:Nat→Prop} {w:World} {sz:Nat} {es fs:List (List AV)} {us vs:List Value} (h:RelRow A w sz es us) (hu:us.length=es.length * sz) (k:RelRow A w sz fs vs):RelRow A w sz (es++fs) (us++vs):=by
 refine ⟨fun q cs hq=>?_,fun q j cs x hq hj=>?_⟩
 ·by_cases hl:q < es.length
  ·rw [List.getElem?_append_left hl] at hq;exact h.1 q cs hq
  ·rw [List.getElem?_append_right (by omega)] at hq;exact k.1 _ cs hq
 ·by_cases hl:q < es.length
  ·rw [List.getElem?_append_left hl] at hq
   obtain ⟨u,e1,e2⟩:=h.2 q j cs x hq hj
   exact ⟨u,by rw [List.getElem?_append_left (lt_of_get e1)];exact e1,e2⟩
  ·rw [List.getElem?_append_right (by omega)] at hq
   obtain ⟨u,e1,e2⟩:=k.2 _ j cs x hq hj
   refine ⟨u,?_,e2⟩
   have e3:q * sz=es.length * sz+(q - es.length) * sz:=by rw [← Nat.add_mul];congr 1;omega
   rw [List.getElem?_append_right (by omega),hu,show q * sz+j - es.length * sz=(q - es.length) * sz+j by omega]
   exact e1
theorem RelRow.nil {A:Nat→Prop} {w:World} {sz:Nat}:RelRow A w sz [] []:=⟨fun k cs h=>by simp at h,fun k j cs x h=>by simp at h⟩
theorem set_self {α:Type} {l:List α} {i:Nat} {x:α} (h:l[i]?=some x):l.set i x=l:=by
 obtain ⟨hl,rfl⟩:=List.getElem?_eq_some_iff.1 h
 exact List.set_getElem_self hl
theorem RelRow.take {A:Nat→Prop} {w:World} {sz:Nat} {es:List (List AV)} {us:List Value} (h:RelRow A w sz es us) (n:Nat):RelRow A w sz (es.take n) (us.take (n * sz)):=by
 refine ⟨fun k cs hk=>?_,fun k j cs x hk hj=>?_⟩
 ·rw [List.getElem?_take] at hk
  split at hk
  ·exact h.1 k cs hk
  ·cases hk
 ·rw [List.getElem?_take] at hk
  split at hk
  ·rename_i hkn
   obtain ⟨u,e1,e2⟩:=h.2 k j cs x hk hj
   have hj':j < sz:=by rw [← h.1 k cs hk];exact lt_of_get hj
   have:(k+1) * sz≤n * sz:=Nat.mul_le_mul_right _ hkn
   rw [Nat.add_mul] at this
   exact ⟨u,by rw [List.getElem?_take,if_pos (by omega)];exact e1,e2⟩
  ·cases hk
theorem RowIs.trunc {w:World} {T:TypeId} {sz m n b c:Nat} {us:List Value} (h:RowIs w T sz (.slice (some ⟨b,0,none⟩) m c) m us) (hn:n≤m):RowIs w T sz (.slice (some ⟨b,0,none⟩) n c) n (us.take (n * sz)):=by
 rcases h with ⟨h0,rfl,a,e⟩|h
 ·cases e
  obtain rfl:n=0:=by omega
  exact .inl ⟨rfl,by simp,_,rfl⟩
 ·rcases h.2 with ⟨e,_⟩|⟨g,cap,cur,e,hb,hg,hnc,hcm,hcs,htk⟩
  ·cases e
  ·cases e
   refine .inr ⟨?_,.inr ⟨b,c,cur,rfl,hb,hg,by omega,hcm,hcs,?_⟩⟩
   ·rw [List.length_take,h.1];exact Nat.min_eq_left (Nat.mul_le_mul_right _ hn)
   ·rw [← htk,List.take_take,Nat.min_eq_left (Nat.mul_le_mul_right _ hn)]
theorem putU_get:∀ (vs us:List Value) (o k:Nat),o+vs.length≤us.length→(putU us o vs)[k]?=if o≤k∧k < o+vs.length then vs[k - o]? else us[k]?
 | [],us,o,k,h=>by rw [if_neg (by simp)];rfl
 | v::vs,us,o,k,h=>by
  simp only [List.length_cons] at h
  rw [putU,putU_get vs _ _ _ (by rw [List.length_set];omega)]
  simp only [List.length_cons]
  by_cases h1:o+1≤k∧k < o+1+vs.length
  ·rw [if_pos h1,if_pos (by omega)]
   obtain ⟨q,rfl⟩:∃ q,k=o+1+q:=⟨k - (o+1),by omega⟩
   rw [Nat.add_sub_cancel_left,Nat.add_assoc,Nat.add_comm 1 q,← Nat.add_assoc,Nat.add_assoc,Nat.add_sub_cancel_left]
   rfl
  ·rw [if_neg h1]
   by_cases h2:k=o
   ·subst h2
    rw [if_pos (by omega),List.getElem?_set_self (by omega),Nat.sub_self]
    try rfl
   ·rw [if_neg (by omega),List.getElem?_set_ne (fun e=>h2 e.symm)]
theorem RelRow.clear {A:Nat→Prop} {w:World} {sz a n:Nat} {es:List (List AV)} {us:List Value} {zs:List AV} {zu:List Value} (h:RelRow A w sz es us) (hul:us.length=es.length * sz) (hz:zs.length=sz) (hzu:zu.length=n * sz) (han:a+n≤es.length) (hr:∀ (k j:Nat) (x:AV),k < n→zs[j]?=some x→∃ u,zu[k * sz+j]?=some u∧VR A w x u) :
  RelRow A w sz (es.take a++List.replicate n zs++es.drop (a+n)) (putU us (a * sz) zu):=by
 have hat:∀ (k:Nat) (cs:List AV),(es.take a++List.replicate n zs++es.drop (a+n))[k]?=some cs→(k < a∧es[k]?=some cs)∨(a≤k∧k < a+n∧cs=zs)∨(a+n≤k∧es[k]?=some cs):=fun k cs hk=>by
  have hl1:(es.take a).length=a:=by rw [List.length_take];omega
  rw [List.getElem?_append] at hk
  split at hk
  ·rename_i h1
   rw [List.length_append,hl1,List.length_replicate] at h1
   rw [List.getElem?_append] at hk
   split at hk
   ·rename_i h2
    rw [hl1] at h2
    rw [List.getElem?_take,if_pos h2] at hk
    exact .inl ⟨h2,hk⟩
   ·rename_i h2
    rw [hl1] at h2 hk
    rw [List.getElem?_replicate,if_pos (by omega)] at hk
    cases hk
    exact .inr (.inl ⟨by omega,h1,rfl⟩)
  ·rename_i h1
   rw [List.length_append,hl1,List.length_replicate] at h1 hk
   rw [List.getElem?_drop] at hk
   exact .inr (.inr ⟨by omega,by rwa [show a+n+(k - (a+n))=k by omega] at hk⟩)
 have hle:a * sz+n * sz≤us.length:=by rw [hul,← Nat.add_mul];exact Nat.mul_le_mul_right _ han
 refine ⟨fun k cs hk=>?_,fun k j cs x hk hj=>?_⟩
 ·rcases hat k cs hk with ⟨_,h2⟩|⟨_,_,rfl⟩|⟨_,h2⟩
  ·exact h.1 k cs h2
  ·exact hz
  ·exact h.1 k cs h2
 ·rw [putU_get _ _ _ _ (by omega),hzu]
  rcases hat k cs hk with ⟨h1,h2⟩|⟨h1,h2,rfl⟩|⟨h1,h2⟩
  ·have hj':j < sz:=by rw [← h.1 k cs h2];exact lt_of_get hj
   have:(k+1) * sz≤a * sz:=Nat.mul_le_mul_right _ h1
   rw [Nat.add_mul] at this
   rw [if_neg (by omega)]
   exact h.2 k j cs x h2 hj
  ·have hj':j < sz:=by rw [← hz];exact lt_of_get hj
   obtain ⟨q,rfl⟩:∃ q,k=a+q:=⟨k - a,by omega⟩
   have:(q+1) * sz≤n * sz:=Nat.mul_le_mul_right _ (by omega)
   rw [Nat.add_mul] at this
   rw [Nat.add_mul,if_pos (by omega),show a * sz+q * sz+j - a * sz=q * sz+j by omega]
   exact hr q j x (by omega) hj
  ·have hj':j < sz:=by rw [← h.1 k cs h2];exact lt_of_get hj
   have:(a+n) * sz≤k * sz:=Nat.mul_le_mul_right _ h1
   rw [Nat.add_mul] at this
   rw [if_neg (by omega)]
   exact h.2 k j cs x h2 hj
theorem append_ok {s y:Operand} {t:Nat} {args:Array Operand} {tys:Array TypeId} {x:SV} {fr':Fr} {ks:List Nat} (hargs:args.toList=[s,y]) (htys:tys.toList=[t,t]) (h:appendE P fr t (rd env s) (rd env y)=some (x,fr',ks)) :
  OpOk P γ env fr ⟨dst,.call ⟨.builtin .append,args,tys⟩,ty,pos,after,g⟩ x fr' ks:=by
 have hms:s∈(Op.call ⟨.builtin .append,args,tys⟩).operands:=by simp [Op.operands,Call.operands,← Array.mem_toList_iff,hargs]
 have hmy:y∈(Op.call ⟨.builtin .append,args,tys⟩).operands:=by simp [Op.operands,Call.operands,← Array.mem_toList_iff,hargs]
 unfold appendE at h
 split at h
 ·cases h
 ·rename_i e sz by_ ht
  obtain ⟨_,_,_,_,_,_,_,_,hpos⟩:=rowT_spec ht
  split at h
  ·cases h
  ·rename_i news hnews
   split at h
   ·cases h
   ·rename_i hnok
    -- a new row out of an empty one,or out of one without room
    have fresh:∀ (olds:List (List AV)),lenOk (olds.length+news.length) by_=true→(∀ (κ:Ctx) (L:Ls) (w:World) (v:Value),Core γ κ fr L w→SR (MA κ.M fr L) L w (rd env s) v→∃ (ous:List Value) (T:Nat),RelRow (MA κ.M fr L) w sz olds ous∧ous.length=olds.length * sz∧
      ∀ (q:Option Addr) (c:Nat) (nus:List Value),RCells w q nus→nus.length=news.length * sz→(∀ u∈nus,plainV u=true)→∃ v' w' T',(Builtin.append_ #[t,t] ty #[v,.slice q news.length c]).run P w=.ok v' w'∧RowIs w' T' sz v' (olds.length+news.length) (ous++nus)∧Below w.heap.size w w'∧(blkOf v'=some w.heap.size∨blkOf v'=none))→
      OpOk P γ env fr ⟨dst,.call ⟨.builtin .append,args,tys⟩,ty,pos,after,g⟩ (.ls fr.length) (fr++[.row false false sz (olds++news)]) []:=fun olds hlk hmk=>newRow_ok fun κ L a w hC hop=>by
     obtain ⟨h1,h2⟩:=lenOk_spec hlk
     obtain ⟨q,c,nus,e1,e2,e3,e4,e5⟩:=news_cells hC hpos hnews (hop y hmy) hnok
     obtain ⟨ous,T,o1,o2,o3⟩:=hmk κ L w _ hC (hop s hms)
     obtain ⟨v',w',T',r1,r2,r3,r4⟩:=o3 q c nus e2 e3 e4
     refine ⟨T',v',ous++nus,w',exec_append hargs htys (by rw [e1];exact r1),r3,by rw [List.length_append];exact r2,by rw [List.length_append];exact h1,o1.app o2 e5,fun b hb=>?_⟩
     rcases r4 with h|h
     ·rw [h] at hb;cases hb
      refine ⟨Nat.le_refl _,?_⟩
      rcases r2 with ⟨_,_,a',rfl⟩|r2
      ·cases a' <;> cases h
      ·rcases r2.2 with ⟨rfl,_⟩|⟨gg,cap,cur,rfl,_,hgg,_⟩
       ·cases h
       ·have hlt:=(Array.getElem?_eq_some_iff.1 hgg).1
        cases cap with
        | zero=>cases h
        | succ cap=>cases h;exact hlt
     ·rw [h] at hb;cases hb
    have growBelow:∀ {w w':World} {v:Value},blkOf v=none→w.grownBy w' (blkOf v)→Below w.heap.size w w':=fun {w w' v} hn hg=>⟨hg.os,hg.tape,hg.output,hg.size,fun k hk=>hg.block k hk (by rw [hn];intro h;cases h)⟩
    have empty:lenOk news.length by_=true→(∀ (A:Nat→Prop) (L:Ls) (w:World) (v:Value),SR A L w (rd env s) v→∃ a,v=.slice a 0 0)→OpOk P γ env fr ⟨dst,.call ⟨.builtin .append,args,tys⟩,ty,pos,after,g⟩ (.ls fr.length) (fr++[.row false false sz news]) []:=fun hlk hv=>by
     have:=fresh [] (by simpa using hlk) fun κ L w v hC hs=>by
      obtain ⟨a,rfl⟩:=hv _ _ _ _ hs
      refine ⟨[],0,RelRow.nil,by simp,fun q c nus hx hl hp=>?_⟩
      obtain ⟨h1,h2⟩:=lenOk_spec hlk
      obtain ⟨v',w',T',r1,r2,r3,r4⟩:=run_append_is (P:=P) (ty:=ty) (T:=0) (n:=0) (us:=[]) ht (.inl ⟨rfl,rfl,a,rfl⟩) hx hl hp (by omega) (by simpa using h2)
      have hn:blkOf (.slice a 0 0)=none:=by cases a <;> rfl
      refine ⟨v',w',T',r1,r2,growBelow hn r3,?_⟩
      rcases r4 with r4|r4|r4
      ·rw [hn] at r4;exact .inr r4
      ·exact .inl r4
      ·exact .inr r4
     simpa using this
    split at h
    ·-- a row of the call's own
     rename_i i hsi
     split at h
     ·rename_i tch sz' es hb
      split at h
      ·rename_i hc
       cases h
       rw [Bool.and_eq_true] at hc
       obtain rfl:sz=sz':=by simpa using hc.1
       obtain ⟨h1,h2⟩:=lenOk_spec hc.2
       intro κ L a w hC hop
       have hsv:=rd_ok (hop s hms)
       rw [hsi] at hsv
       obtain ⟨q,c,nus,e1,e2,e3,e4,e5⟩:=news_cells hC hpos hnews (rd_ok (hop y hmy)) hnok
       obtain ⟨hL,hpv⟩:=inv_ls hsv
       obtain ⟨T,us,how,hlen,hform,hes,her⟩:=row_form hC hb hL
       obtain ⟨v',w',T',r1,r2,r3,r4⟩:=run_append_is (P:=P) (ty:=ty) ht how e2 e3 e4 h1 h2
       obtain ⟨hC',hT⟩:=hC.chg (w':=w') (ks:=[i]) (v':=v') (lb':=.row false true sz (es++news)) (hpv:=by obtain ⟨_,_,rfl⟩:=r2.form;rfl) hb rfl hL r3 r4 (fun b hbb=>by
         rcases r2 with ⟨_,_,a',rfl⟩|r2
         ·cases a' <;> cases hbb
         ·rcases r2.2 with ⟨rfl,_⟩|⟨gg,cap,cur,rfl,_,hgg,_⟩
          ·cases hbb
          ·have hlt:=(Array.getElem?_eq_some_iff.1 hgg).1
           cases cap with
           | zero=>cases hbb
           | succ cap=>cases hbb;exact hlt) (.inr ⟨by simp,rfl⟩) (fun h=>by cases h) fun hT=>by
        have hrel:RelRow (MA κ.M fr L) w sz (es++news) (us++nus):=RelRow.app ⟨hes,her⟩ how.len e5
        refine ⟨T',v',us++nus,Lput_self,by rw [List.length_append];exact r2,by rw [List.length_append];exact h1,hrel.1,fun k j cs x hk hj=>?_⟩
        obtain ⟨u,f1,f2⟩:=hrel.2 k j cs x hk hj
        exact ⟨u,f1,hT.vr f2⟩
       refine .value' (exec_append hargs htys (by rw [e1];exact r1)) ⟨_,hT,hC',.ls _ v' Lput_self ?_⟩
       obtain ⟨q',c',rfl⟩:=r2.form
       rfl
      ·cases h
     ·cases h
    ·-- a piece of a row,from its beginning
     rename_i i sz1 n hsi
     split at h
     ·rename_i tch sz' es hb
      split at h
      ·rename_i hc
       cases h
       rw [Bool.and_eq_true,Bool.and_eq_true,Bool.and_eq_true,Nat.ble_eq] at hc
       obtain rfl:sz=sz':=by simpa using hc.1
       obtain rfl:sz1=sz:=by simpa using hc.2.1
       obtain ⟨h1,h2⟩:=lenOk_spec hc.2.2.2
       intro κ L a w hC hop
       have hsv:=rd_ok (hop s hms)
       rw [hsi] at hsv
       obtain ⟨q,c,nus,e1,e2,e3,e4,e5⟩:=news_cells hC hpos hnews (rd_ok (hop y hmy)) hnok
       obtain ⟨bb,m,cc,hL,hv⟩:=inv_lv hsv
       obtain ⟨T,us,how,hlen,⟨q0,c0,hform⟩,hes,her⟩:=row_form hC hb hL
       cases hform
       have hv':a.eval s=.slice (some ⟨bb,0,none⟩) n cc:=by rw [hv];simp
       have how':RowIs w T sz1 (.slice (some ⟨bb,0,none⟩) n cc) n (us.take (n * sz1)):=how.trunc hc.2.2.1
       have hlt:(es.take n).length=n:=by rw [List.length_take];omega
       obtain ⟨v',w',T',r1,r2,r3,r4⟩:=run_append_is (P:=P) (ty:=ty) ht how' e2 e3 e4 h1 h2
       have hbk:blkOf (.slice (some ⟨bb,0,none⟩) n cc)=blkOf (.slice (some ⟨bb,0,none⟩) es.length cc):=by cases cc <;> rfl
       rw [hbk] at r3 r4
       obtain ⟨hC',hT⟩:=hC.chg (w':=w') (ks:=[i]) (v':=v') (lb':=.row false true sz1 (es.take n++news)) (hpv:=by obtain ⟨_,_,rfl⟩:=r2.form;rfl) hb rfl hL r3 r4 (fun b hbb=>by
         rcases r2 with ⟨_,_,a',rfl⟩|r2
         ·cases a' <;> cases hbb
         ·rcases r2.2 with ⟨rfl,_⟩|⟨gg,cap,cur,rfl,_,hgg,_⟩
          ·cases hbb
          ·have hlt:=(Array.getElem?_eq_some_iff.1 hgg).1
           cases cap with
           | zero=>cases hbb
           | succ cap=>cases hbb;exact hlt) (.inr ⟨by simp,rfl⟩) (fun h=>by cases h) fun hT=>by
        have hrel:RelRow (MA κ.M fr L) w sz1 (es.take n++news) (us.take (n * sz1)++nus):=RelRow.app (RelRow.take ⟨hes,her⟩ n) (by rw [hlt];exact how'.len) e5
        refine ⟨T',v',us.take (n * sz1)++nus,Lput_self,by rw [List.length_append,hlt];exact r2,by rw [List.length_append,hlt];exact h1,hrel.1,fun k j cs x hk hj=>?_⟩
        obtain ⟨u,f1,f2⟩:=hrel.2 k j cs x hk hj
        exact ⟨u,f1,hT.vr f2⟩
       refine .value' (exec_append hargs htys (by rw [e1,hv'];exact r1)) ⟨_,hT,hC',.ls _ v' Lput_self ?_⟩
       obtain ⟨q',c',rfl⟩:=r2.form
       rfl
      ·cases h
     ·cases h
    ·rename_i hs
     split at h
     ·rename_i hlk
      cases h
      exact empty hlk fun A L w v hv=>by rw [hs] at hv;cases hv;exact ⟨none,rfl⟩
     ·cases h
    ·rename_i hs
     split at h
     ·rename_i hlk
      cases h
      exact empty hlk fun A L w v hv=>by rw [hs] at hv;cases hv with|tc _ a h=>exact ⟨a,rfl⟩
     ·cases h
    ·rename_i e0 et hs
     split at h
     ·rename_i c0 ct
      split at h
      ·rename_i hc
       cases h
       rw [Bool.and_eq_true] at hc
       obtain ⟨h1,h2⟩:=lenOk_spec hc.2
       refine fresh (e0::et) hc.2 fun κ L w v hC hv=>?_
       rw [hs] at hv
       have hv':VR (MA κ.M fr L) w (.arr (e0::et)) v:=sl_tree hv (.inr (.inl rfl))
       have hok:=hc.1
       unfold newsOk at hok
       have hok':∀ (k:Nat) (cs:List AV),(e0::et)[k]?=some cs→cs.length=sz:=fun k cs hk=>by
        have:=List.all_eq_true.1 hok cs (List.mem_of_getElem? hk)
        rw [Bool.and_eq_true] at this
        simpa using this.1
       obtain ⟨q',c',ous,f1,f2,f3,f4⟩:=vr_cells hpos hv' hok'
       refine ⟨ous,0,⟨hok',f4⟩,f3,fun q c nus hx hl hp=>?_⟩
       have hvt:∃ a,v=.slice a (e0::et).length (e0::et).length:=by cases hv with|tc _ a h=>exact ⟨a,rfl⟩
       obtain ⟨a,rfl⟩:=hvt
       cases f1
       obtain ⟨i,z,hu,hi,hz,hisz,hby,hzs,hpos⟩:=rowT_spec ht
       subst hisz hby
       obtain ⟨b,o,rfl,hb,hcl⟩:=f2 (by rw [f3];exact Nat.mul_pos (by simp) hpos)
       obtain ⟨b2,o2,rfl,hb2,hcl2⟩:=hx (by rw [hl];exact Nat.mul_pos (by simp) hpos)
       have hlt:(e0::et).length < (e0::et).length+(c0::ct).length:=by simp
       have hr:=run_append_grow (P:=P) w t ty e i z hu hi hz ⟨b,o,none⟩ _ _ ous f3 (fun j u hu=>by rw [addr_add];exact hcl j u hu) ⟨b2,o2,none⟩ _ c nus hl (fun j u hu=>by rw [addr_add];exact hcl2 j u hu) hlt (by omega) (growslice_fits hlt h2)
       have hge:=grownCap_ge w ((e0::et).length+(c0::ct).length) (e0::et).length e
       have hcm:grownCap w ((e0::et).length+(c0::ct).length) (e0::et).length e≤maxLen:=grownCap_le_maxLen w _ _ e (by unfold maxLen;omega)
       refine ⟨_,_,e,hr,.inr ⟨by rw [List.length_append,f3,hl,Nat.add_mul],.inr ⟨w.heap.size,_,_,rfl,Nat.zero_le _,heap_alloc_new w.drew _,hge,hcm,?_,?_⟩⟩,⟨rfl,rfl,rfl,by simp,fun k hk=>Below.heap_alloc w.drew _ k hk⟩,.inl ?_⟩
       ·simp only [Array.size_append,List.size_toArray,size_zeroCells,hzs,f3,hl,← Nat.add_mul]
        congr 1
        omega
       ·have:(ous++nus).length=((e0::et).length+(c0::ct).length) * i.size:=by rw [List.length_append,f3,hl,Nat.add_mul]
        simp only [Array.toList_append]
        rw [← this]
        exact List.take_left
       ·obtain ⟨k,hk⟩:∃ k,grownCap w ((e0::et).length+(c0::ct).length) (e0::et).length e=k+1:=⟨grownCap w ((e0::et).length+(c0::ct).length) (e0::et).length e - 1,by simp at hge ⊢;omega⟩
        rw [hk];rfl
      ·cases h
     ·cases h
    ·cases h
theorem lit0_ok {t:Nat} {parts:Array (Nat×Operand)} {e sz by_:Nat} (ht:rowT P t=some (e,sz,by_)) (hp:parts.toList=[]):OpOk P γ env fr ⟨dst,.buildSlice t 0 parts,ty,pos,after,g⟩ (.ls fr.length) (fr++[.row false false sz []]) []:=newRow_ok fun κ L a w hC hop=>by
 obtain ⟨i,z,hu,hi,hz,rfl,rfl,hzs,hpos⟩:=rowT_spec ht
 obtain rfl:parts=#[]:=by simpa using hp
 have hr0:(Instr.buildSlice t 0 #[]).run P w=.ok (.slice (some ⟨w.heap.size,0,none⟩) 0 0) (w.alloc (.cells #[] e)):=by
  unfold Instr.buildSlice
  simp [run_underlying hu,run_size hi,Sem.run_bind,Instr.fill,newRow,newObj,pure,Sem.run]
  congr 2
  apply Array.ext
  ·simp
  ·intro k h1 _;simp at h1
 have he:execOp a.eval ⟨dst,.buildSlice t 0 #[],ty,pos,after,g⟩=(do pure (.value (← Instr.buildSlice t 0 ((#[]:Array (Nat×Operand)).map fun (i,x)=>(i,a.eval x))))):=rfl
 have hrun:(execOp a.eval ⟨dst,.buildSlice t 0 #[],ty,pos,after,g⟩).run P w=.ok (.value (.slice (some ⟨w.heap.size,0,none⟩) 0 0)) (w.alloc (.cells #[] e)):=exec_v he (by rw [Array.map_empty];exact hr0)
 have hb:Below w.heap.size w (w.alloc (.cells #[] e)):=(Below.refl _ _).alloc (Nat.le_refl _) _
 exact ⟨e,_,[],_,hrun,hb,.inl ⟨rfl,rfl,_,rfl⟩,by rw [List.length_nil];omega,RelRow.nil,fun b hb=>by cases hb⟩
theorem build_ok {op:Op} {x:SV} {fr':Fr} (h:evB P env fr op=some (x,fr')):OpOk P γ env fr ⟨dst,op,ty,pos,after,g⟩ x fr' []:=by
 unfold evB at h
 split at h
 ·rename_i t len parts
  split at h
  ·rename_i hone
   split at h
   ·rename_i c cs hb
    cases h
    refine newRow_ok fun κ L a w hC hop=>?_
    obtain ⟨e,sz,us,h1,hpos,hl,h2,h3,h4,h5⟩:=builtSl_ok (A:=MA κ.M fr L) (L:=L) (w:=w) hb (vs:=(parts.map fun (i,x)=>(i,a.eval x)).toList) (by simp) fun k p q hk hq=>by
      rw [Array.toList_map,List.getElem?_map] at hq
      rw [List.getElem?_map] at hk
      cases hy:parts.toList[k]? with
      | none=>rw [hy] at hq;cases hq
      | some y=>
       rw [hy] at hq hk;cases hq;cases hk
       refine ⟨rfl,cellsS_ok (hop y.2 ?_) (List.all_eq_true.1 (List.all_eq_true.1 hone y (List.mem_of_getElem? hy)))⟩
       have:=List.mem_of_getElem? hy
       simp [Op.operands]
       exact ⟨y.1,by simpa using this⟩
    have hsz:c.length=sz:=h4 0 c rfl
    rw [hsz]
    refine ⟨e,_,us.toList,_,exec_v rfl h1,(Below.refl _ _).alloc (Nat.le_refl _) _,?_,by omega,⟨h4,fun k j cs x hk hj=>?_⟩,fun b hb=>?_⟩
    ·rw [h3]
     refine .inr ⟨by simpa using h2,.inr ⟨w.heap.size,len,us,rfl,Nat.zero_le _,by show (w.heap.push _)[w.heap.size]?=_;exact Array.getElem?_push_size,Nat.le_refl _,by unfold maxLen;omega,h2,?_⟩⟩
     rw [← h2,← Array.length_toList,List.take_length]
    ·obtain ⟨u,e1,e2⟩:=h5 k j cs x hk hj
     exact ⟨u,by simpa using e1,e2⟩
    ·cases len with
     | zero=>cases hb
     | succ k=>cases hb;exact ⟨Nat.le_refl _,by simp⟩
   ·cases h
  ·cases h
 ·cases h
theorem make_run {fr0:Fr} {t:Nat} {l c:Operand} {x:SV} {fr':Fr} {ks:List Nat} (h:makeE P fr0 t (rd env l) (rd env c)=some (x,fr',ks)):∃ (sz:Nat) (es:List (List AV)),x=.ls fr0.length∧fr'=fr0++[.row false false sz es]∧ks=[]∧∀ (κ:Ctx) (L:Ls) (a:Act) (w:World),Core γ κ fr L w→(∀ y∈(Op.makeSlice t l c).operands,SR (MA κ.M fr L) L w (rd env y) (a.eval y))→∃ (T:TypeId) (v:Value) (us:List Value) (w':World),(execOp a.eval ⟨dst,.makeSlice t l c,ty,pos,after,g⟩).run P w=.ok (.value v) w'∧Below w.heap.size w w'∧RowIs w' T sz v es.length us∧es.length≤140737488351232∧RelRow (MA κ.M fr L) w sz es us∧∀ b,blkOf v=some b→w.heap.size≤b∧b < w'.heap.size:=by
 unfold makeE at h
 split at h
 ·rename_i e hu
  split at h
  ·rename_i i hi
   split at h
   ·rename_i z hz
    split at h
    ·rename_i zs hzs hd
     have hd:=of_decide_eq_true hd
     split at h
     ·rename_i m n hl hc
      split at h
      ·rename_i hcond
       cases h
       simp only [Bool.and_eq_true,Nat.ble_eq,decide_eq_true_eq] at hcond
       obtain ⟨⟨⟨h0,hmn⟩,hby⟩,hn⟩:=hcond
       refine ⟨i.size,List.replicate m.toNat zs,rfl,rfl,rfl,fun κ L a w hC hop=>?_⟩
       have h1:=hop l (by simp [Op.operands])
       have h2:=hop c (by simp [Op.operands])
       rw [hl] at h1
       rw [hc] at h2
       have h1:=inv_int h1
       have h2:=inv_int h2
       have hb:(i.bytes:Int) * n≤281474976710656:=by
        have e1:((n.toNat * i.bytes:Nat):Int)≤281474976710656:=by omega
        rw [Int.natCast_mul,Int.toNat_of_nonneg (by omega),Int.mul_comm] at e1
        exact e1
       have hr:=run_make (P:=P) w t e i z hu hi hz .i64 .i64 m n h0 hmn hb (by omega)
       have hcs:(madeCells z.cells (n.toNat * i.size)).size=n.toNat * i.size:=size_madeCells _ _
       have hmn':m.toNat≤n.toNat:=by omega
       obtain ⟨z1,z2⟩:=pursN_ok (A:=MA κ.M fr L) (L:=L) (w:=w) hzs
       have hzl:zs.length=i.size:=by rw [← z1,List.length_map,Array.length_toList,hd.1]
       have hlen:(List.replicate m.toNat zs).length=m.toNat:=List.length_replicate
       have hat:∀ q,q < m.toNat * i.size→((madeCells z.cells (n.toNat * i.size)).toList.take (m.toNat * i.size))[q]?=some (z.cells.getD (q % i.size) undef):=fun q hq=>by
        have hq2:q < n.toNat * i.size:=Nat.lt_of_lt_of_le hq (Nat.mul_le_mul_right _ hmn')
        have hlt:q % i.size < z.cells.size:=by rw [hd.1];exact Nat.mod_lt _ hd.2
        rw [List.getElem?_take,if_pos hq,Array.getElem?_toList]
        unfold madeCells
        rw [Array.getElem?_map,Array.getElem?_range]
        simp only [hq2,if_true,Option.map_some,hd.1]
        rw [Array.getD_eq_getD_getElem?,Array.getElem?_eq_getElem hlt,getElem!_pos z.cells _ hlt];rfl
       refine ⟨e,_,(madeCells z.cells (n.toNat * i.size)).toList.take (m.toNat * i.size),_,exec_v rfl (by rw [h1,h2];exact hr),(Below.refl _ _).alloc (Nat.le_refl _) _,?_,by rw [hlen];omega,⟨fun k cs hk=>?_,fun k j cs x hk hj=>?_⟩,fun b hb=>?_⟩
       ·rw [hlen]
        refine .inr ⟨by rw [List.length_take,Array.length_toList,hcs];exact Nat.min_eq_left (Nat.mul_le_mul_right _ hmn'),.inr ⟨w.heap.size,n.toNat,_,rfl,Nat.zero_le _,by show (w.heap.push _)[w.heap.size]?=_;exact Array.getElem?_push_size,hmn',by unfold maxLen;omega,hcs,rfl⟩⟩
       ·rw [List.getElem?_replicate] at hk
        split at hk
        ·cases hk;exact hzl
        ·cases hk
       ·rw [List.getElem?_replicate] at hk
        split at hk
        ·rename_i hkm
         cases hk
         have hjl:j < i.size:=by rw [← hzl];exact lt_of_get hj
         have hq:k * i.size+j < m.toNat * i.size:=by
          have:(k+1) * i.size≤m.toNat * i.size:=Nat.mul_le_mul_right _ hkm
          rw [Nat.add_mul] at this;omega
         refine ⟨_,hat _ hq,?_⟩
         have e2:(k * i.size+j) % i.size=j:=by rw [Nat.mul_comm,Nat.mul_add_mod,Nat.mod_eq_of_lt hjl]
         rw [e2]
         have hjz:j < z.cells.size:=by rw [hd.1];exact hjl
         refine z2 j (cv z.cells[j]) x _ (by rw [List.getElem?_map,Array.getElem?_toList,Array.getElem?_eq_getElem hjz];rfl) hj ?_
         rw [Array.getD_eq_getD_getElem?,Array.getElem?_eq_getElem hjz]
         exact cv_ok _
        ·cases hk
       ·cases hq:n.toNat with
        | zero=>rw [hq] at hb;cases hb
        | succ k=>rw [hq] at hb;cases hb;exact ⟨Nat.le_refl _,by simp⟩
      ·cases h
     ·cases h
    ·cases h
   ·cases h
  ·cases h
 ·cases h
theorem make_ok {t:Nat} {l c:Operand} {x:SV} {fr':Fr} {ks:List Nat} (h:makeE P fr t (rd env l) (rd env c)=some (x,fr',ks)):OpOk P γ env fr ⟨dst,.makeSlice t l c,ty,pos,after,g⟩ x fr' ks:=by
 obtain ⟨sz,es,rfl,rfl,rfl,hr⟩:=make_run (γ:=γ) (fr:=fr) (dst:=dst) (ty:=ty) (pos:=pos) (after:=after) (g:=g) h
 exact newRow_ok hr
theorem makeT_ok {t:Nat} {l c:Operand} {x:SV} {fr':Fr} {ks:List Nat} (h:makeT P fr t (rd env l) (rd env c)=some (x,fr',ks)):OpOk P γ env fr ⟨dst,.makeSlice t l c,ty,pos,after,g⟩ x fr' ks:=by
 unfold makeT at h
 split at h
 ·rename_i hE
  cases h
  obtain ⟨sz,es,_,e2,_,hr⟩:=make_run (γ:=γ) (fr:=fr) (dst:=dst) (ty:=ty) (pos:=pos) (after:=after) (g:=g) hE
  cases e2
  exact newTree_ok hr
 ·cases h
end
end Go.Proofs.YtjdhnoffoknlnaaGreatDoor
namespace Go.Proofs.YtjdhnoffoknlnaaGreatDoor
open Go.RowKit
section
variable {P:Program} {γ:Glob} {fr:Fr} {env:Env} {dst:Option Tmp} {ty:TypeId} {pos:String} {after:Array Edge} {g:Option (Nat×Bool)}
theorem makeMap_ok {t:Nat}:OpOk P γ env fr ⟨dst,.makeMap t none,ty,pos,after,g⟩ (.lm fr.length) (fr++[.map false [] []]) []:=fun κ L a w hC hop=>by
 have hbl:Below w.heap.size w (w.alloc (.map #[] 0)):=(Below.refl _ _).alloc (Nat.le_refl _) _
 obtain ⟨hC',hT⟩:=hC.push hbl (.map false [] []) (.map (some w.heap.size)) (fun b hb=>by cases hb;exact ⟨Nat.le_refl _,by simp⟩) fun hT=>⟨w.heap.size,#[],0,Lput_self,by show (w.heap.push (.map #[] 0))[w.heap.size]?=_;exact Array.getElem?_push_size,rfl,rfl,fun j x u hx _=>by simp at hx,fun j x u hx _=>by simp at hx,Stamps.nil _⟩
 exact .value' (v:=.map (some w.heap.size)) (by simp [execOp,Instr.makeMap,Sem.run_bind,newObj,pure,Sem.run]) ⟨_,hT,hC',.lm _ _ Lput_self⟩
def setO (w:World) (r:Nat) (o:Obj):World:={ w with heap:=w.heap.setIfInBounds r o }
theorem setO_at {w:World} {r:Nat} {o:Obj} (h:r < w.heap.size):(setO w r o).heap[r]?=some o:=by
 show (w.heap.setIfInBounds r o)[r]?=_
 rw [Array.getElem?_setIfInBounds_self_of_lt h]
theorem setO_grown (w:World) (r:Nat) (o:Obj):w.grownBy (setO w r o) (some r):=⟨rfl,rfl,rfl,by simp [setO],fun k _ hk=>by
 show (w.heap.setIfInBounds r o)[k]?=_
 rw [Array.getElem?_setIfInBounds_ne (fun e=>hk (by rw [e]))]⟩
theorem ba_beq (a b:ByteArray):(a == b)=decide (a=b):=by
 obtain ⟨x⟩:=a
 obtain ⟨y⟩:=b
 show (x == y)=_
 by_cases h:x=y <;> simp [h]
theorem eqLeaf_same {d:TypeDesc} {k x:AV} (h:eqLeaf d [k] [x]=some true):k=x:=by
 unfold eqLeaf at h
 split at h
 ·rename_i e1 e2
  cases e1;cases e2
  split at h
  ·rename_i hk;subst hk;simp at h;rw [h]
  ·cases h
 ·rename_i e1 e2;cases e1;cases e2;simp at h;rw [h]
 ·rename_i e1 e2;cases e1;cases e2;rw [ba_beq] at h;simp at h;rw [h]
 ·cases h
theorem sameBits_leaf {A:Nat→Prop} {w:World} {d:TypeDesc} {k:AV} {u v:Value} (h:keyD d k=true) (hu:VR A w k u) (hv:VR A w k v) (n:Nat):Instr.sameBits (n+1) u v=true:=by
 unfold keyD at h
 split at h
 ·cases hu;cases hv;simp [Instr.sameBits]
 ·cases hu;cases hv;simp [Instr.sameBits]
 ·cases hu;cases hv;simp [Instr.sameBits,ba_beq]
 ·cases h
theorem sameL_eq:∀ (xs ys:List AV),sameL xs ys=true→xs=ys
 | [],[],_=>rfl
 | .int k m::xs,.int j n::ys,h=>by
  unfold sameL at h
  simp only [Bool.and_eq_true,decide_eq_true_eq] at h
  rw [h.1,h.2.1,sameL_eq xs ys h.2.2]
 | .bool a::xs,.bool b::ys,h=>by
  unfold sameL at h
  simp only [Bool.and_eq_true,beq_iff_eq] at h
  rw [h.1,sameL_eq xs ys h.2]
 | .str a::xs,.str b::ys,h=>by
  unfold sameL at h
  simp only [Bool.and_eq_true,decide_eq_true_eq] at h
  rw [h.1,sameL_eq xs ys h.2]
theorem sameBits_list {A:Nat→Prop} {w:World} (n:Nat):∀ (xs:List AV) (us vs:List Value),sameL xs xs=true→us.length=xs.length→vs.length=xs.length→(∀ (j:Nat) (x:AV) (u:Value),xs[j]?=some x→us[j]?=some u→VR A w x u)→(∀ (j:Nat) (x:AV) (u:Value),xs[j]?=some x→vs[j]?=some u→VR A w x u)→((us.zip vs).all fun (x,y)=>Instr.sameBits (n+1) x y)=true
 | [],[],[],_,_,_,_,_=>rfl
 | x::xs,u::us,v::vs,h,h1,h2,hu,hv=>by
  have ih:=fun h=>sameBits_list n xs us vs h (by simpa using h1) (by simpa using h2) (fun j x u hx hq=>hu (j+1) x u hx hq) (fun j x u hx hq=>hv (j+1) x u hx hq)
  have h3:=hu 0 x u rfl rfl
  have h4:=hv 0 x v rfl rfl
  rw [List.zip_cons_cons,List.all_cons,Bool.and_eq_true]
  cases x with
  | int k m=>
   unfold sameL at h
   simp only [Bool.and_eq_true,decide_eq_true_eq] at h
   refine ⟨?_,ih h.2.2⟩
   cases h3;cases h4;simp [Instr.sameBits]
  | bool b=>
   unfold sameL at h
   simp only [Bool.and_eq_true,beq_iff_eq] at h
   refine ⟨?_,ih h.2⟩
   cases h3;cases h4;simp [Instr.sameBits]
  | str s=>
   unfold sameL at h
   simp only [Bool.and_eq_true,decide_eq_true_eq] at h
   refine ⟨?_,ih h.2⟩
   cases h3;cases h4;simp [Instr.sameBits,ba_beq]
  | _=>unfold sameL at h;cases h
 | [],_::_,_,_,h,_,_,_=>by simp at h
 | [],[],_::_,_,_,h,_,_=>by simp at h
 | _::_,[],_,_,h,_,_,_=>by simp at h
 | _::_,_::_,[],_,_,h,_,_=>by simp at h
theorem sameBits_struct {A:Nat→Prop} {w:World} {xs:List AV} {u v:Value} (h:sameL xs xs=true) (hu:VR A w (.agg xs) u) (hv:VR A w (.agg xs) v) (n:Nat):Instr.sameBits (n+2) u v=true:=by
 cases hu with
 | agg _ us hl1 hr1=>
  cases hv with
  | agg _ vs hl2 hr2=>
   unfold Instr.sameBits
   rw [Bool.and_eq_true]
   refine ⟨by simp [hl1,hl2],sameBits_list n xs us.toList vs.toList h (by simpa using hl1) (by simpa using hl2) (fun j x u hx hu=>hr1 j x u hx (by simpa using hu)) (fun j x u hx hu=>hr2 j x u hx (by simpa using hu))⟩
theorem insertA_ok {t:Nat} {m k y:Operand} {op:Op} {x:SV} {fr':Fr} {ks:List Nat} (hop':op=.insert t m k y∨op=.mapUpdate t m k y) (h:insertA P fr t (rd env m) (rd env k) (rd env y)=some (x,fr',ks)):OpOk P γ env fr ⟨dst,op,ty,pos,after,g⟩ x fr' ks:=fun κ L a w hC hop=>by
 have hexec:execOp a.eval ⟨dst,op,ty,pos,after,g⟩=(do Instr.mapUpdate t (a.eval m) (a.eval k) (a.eval y);pure .skip):=by rcases hop' with rfl|rfl <;> rfl
 have hm:=rd_ok (hop m (by rcases hop' with rfl|rfl <;> simp [Op.operands]))
 have hk:=rd_ok (hop k (by rcases hop' with rfl|rfl <;> simp [Op.operands]))
 have hy:=rd_ok (hop y (by rcases hop' with rfl|rfl <;> simp [Op.operands]))
 unfold insertA at h
 split at h
 ·cases h
 ·rename_i e kt n ht
  obtain ⟨fs,hut,huk,hsz,hfl⟩:=mapTS_spec ht
  split at h
  ·rename_i i cs hrm hrk
   rw [hrm] at hm
   rw [hrk] at hk
   have hka:VR (MA κ.M fr L) w (.agg cs) (a.eval k):=by cases hk with|t _ _ h=>exact h
   obtain ⟨us,hue,hus⟩:∃ us,a.eval k=.agg us∧TRs (MA κ.M fr L) w cs us:=by
    generalize a.eval k=z at hka
    cases hka with|agg _ us h1 h2=>exact ⟨us,rfl,h1,h2⟩
   split at h
   ·rename_i mks mvs hi
    split at h
    ·cases h
    ·rename_i hbl
     have hcl:cs.length=n:=by simpa using hbl
     obtain ⟨r,ents,clock,h1,h2,h3,h4,h5,h6,hst⟩:=hC.blk i _ hi
     have hv:a.eval m=.map (some r):=by
      generalize a.eval m=z at hm
      cases hm with
      | lm _ r' hL=>rw [h1] at hL;cases hL;rfl
     have hrlt:=(Array.getElem?_eq_some_iff.1 h2).1
     have hg:(getObj r).run P w=.ok (.map ents clock) w:=by simp [getObj,Sem.run,h2]
     have hset:∀ (es:Array MapEntry) (c:Nat),(setObj r (.map es c)).run P w=.ok () (setO w r (.map es c)):=fun es c=>by simp [setObj,Sem.run,h2,setO]
     have step:∀ (es:Array MapEntry) (c:Nat) (ks':List AV) (vs':List SV),(Instr.mapUpdate t (a.eval m) (a.eval k) (a.eval y)).run P w=.ok () (setO w r (.map es c))→es.size=ks'.length→es.size=vs'.length→(∀ (j:Nat) (x:AV) (e:MapEntry),ks'[j]?=some x→es[j]?=some e→VR (MA κ.M fr L) w x e.key)→(∀ (j:Nat) (x:SV) (e:MapEntry),vs'[j]?=some x→es[j]?=some e→SR (MA κ.M fr L) L w x e.val)→Stamps es c→
       OpTo P ⟨dst,op,ty,pos,after,g⟩ a w fun v w'=>∃ L',Tr κ.M fr L w (fr.set i (.map false ks' vs')) L' w' []∧Core γ κ (fr.set i (.map false ks' vs')) L' w'∧SR (MA κ.M (fr.set i (.map false ks' vs')) L') L' w' .dead v:=fun es c ks' vs' hrun e1 e2 e3 e4 e5=>by
      obtain ⟨hC',hT⟩:=hC.chg (w':=setO w r (.map es c)) (ks:=[]) (v':=.map (some r)) (lb':=.map false ks' vs') hi rfl h1 (setO_grown w r _) (.inl rfl) (fun b hb=>by cases hb;simp [setO];exact hrlt) (.inl rfl) (fun _=>rfl) fun hT=>⟨r,es,c,Lput_self,setO_at hrlt,e1,e2,fun j x u hx hu=>hT.vr (e3 j x u hx hu),fun j x u hx hu=>by rw [Lput_same h1] at hT ⊢;exact hT.sr (e4 j x u hx hu),e5⟩
      unfold OpTo
      rw [hexec,Sem.run_bind,hrun]
      exact ⟨_,hT,hC',.dead _⟩
     split at h
     ·cases h
     ·rename_i j hf
      rcases run_findAsking hsz hus mks ents.toList 0 _ (by simpa using h3.symm) (fun j x e hx he=>h5 j x e hx (by simpa using he)) hf with ⟨h7,_⟩|⟨j',e',h7,h8,h9⟩
      ·cases h7
      ·rw [Nat.zero_add] at h7 h9
       cases h7
       split at h
       ·rename_i ds h10
        split at h
        ·rename_i hsm
         cases h
         obtain rfl:=sameL_eq _ _ hsm
         have he':ents[j]?=some e':=by simpa using h8
         have hsame:Instr.sameBits 10000 e'.key (a.eval k)=true:=sameBits_struct hsm (h5 j _ e' h10 he') hka 9998
         have hkt:(Instr.keyThatStays (((ents[j]?).map (·.key)).getD (a.eval k)) (a.eval k)).run P w=.ok (a.eval k) w:=by
          rw [he']
          show (Instr.keyThatStays e'.key (a.eval k)).run P w=_
          unfold Instr.keyThatStays
          rw [hsame]
          rfl
         refine step (ents.modify j fun e=>{ e with key:=a.eval k,val:=a.eval y }) clock _ _ ?_ (by simpa using h3) (by simpa using h4) (fun q z e hz he=>?_) (fun q z e hz he=>?_) (hst.modify _ _ _)
         ·unfold Instr.mapUpdate
          rw [Sem.run_bind,run_underlying hut,Result.andThen_ok,hv]
          rw [hue] at hkt ⊢
          simp only [Sem.run_bind,hg,Result.andThen_ok,run_checkKeyS huk hfl hus hcl,run_findKeyS huk h9,hkt,hset]
         ·rw [Array.getElem?_modify] at he
          split at he
          ·rename_i hq
           subst hq
           rw [he'] at he
           rw [h10] at hz
           cases he;cases hz
           exact hka
          ·exact h5 q z e hz he
         ·rw [Array.getElem?_modify] at he
          split at he
          ·rename_i hq
           subst hq
           rw [he'] at he
           rw [List.getElem?_set_self (by rw [← h4];exact (Array.getElem?_eq_some_iff.1 he').1)] at hz
           cases he;cases hz
           exact hy
          ·rename_i hq
           rw [List.getElem?_set_ne hq] at hz
           exact h6 q z e hz he
        ·cases h
       ·cases h
     ·rename_i hf
      cases h
      rcases run_findAsking hsz hus mks ents.toList 0 _ (by simpa using h3.symm) (fun j x e hx he=>h5 j x e hx (by simpa using he)) hf with ⟨_,h7⟩|⟨j',e',h7,_⟩
      ·refine step (ents.push { key:=a.eval k,val:=a.eval y,born:=clock }) (clock+1) _ _ ?_ (by simp [h3]) (by simp [h4]) (fun q z e hz he=>?_) (fun q z e hz he=>?_) (hst.push _ _)
       ·unfold Instr.mapUpdate
        rw [Sem.run_bind,run_underlying hut,Result.andThen_ok,hv]
        rw [hue]
        simp only [Sem.run_bind,hg,Result.andThen_ok,run_checkKeyS huk hfl hus hcl,run_findKeyS huk h7,hset]
       ·rw [Array.getElem?_push] at he
        split at he
        ·rename_i hq
         rw [hq,h3,List.getElem?_append_right (Nat.le_refl _),Nat.sub_self] at hz
         cases he;cases hz
         exact hka
        ·rename_i hq
         have:=(Array.getElem?_eq_some_iff.1 he).1
         rw [List.getElem?_append_left (by omega)] at hz
         exact h5 q z e hz he
       ·rw [Array.getElem?_push] at he
        split at he
        ·rename_i hq
         rw [hq,h4,List.getElem?_append_right (Nat.le_refl _),Nat.sub_self] at hz
         cases he;cases hz
         exact hy
        ·rename_i hq
         have:=(Array.getElem?_eq_some_iff.1 he).1
         rw [List.getElem?_append_left (by omega)] at hz
         exact h6 q z e hz he
      ·cases h7
   ·cases h
  ·cases h
theorem insertE_ok {t:Nat} {m k y:Operand} {op:Op} {x:SV} {fr':Fr} {ks:List Nat} (hop':op=.insert t m k y∨op=.mapUpdate t m k y) (h:insertE P fr t (rd env m) (rd env k) (rd env y)=some (x,fr',ks)):OpOk P γ env fr ⟨dst,op,ty,pos,after,g⟩ x fr' ks:=fun κ L a w hC hop=>by
 have hexec:execOp a.eval ⟨dst,op,ty,pos,after,g⟩=(do Instr.mapUpdate t (a.eval m) (a.eval k) (a.eval y);pure .skip):=by rcases hop' with rfl|rfl <;> rfl
 have hm:=rd_ok (hop m (by rcases hop' with rfl|rfl <;> simp [Op.operands]))
 have hk:=rd_ok (hop k (by rcases hop' with rfl|rfl <;> simp [Op.operands]))
 have hy:=rd_ok (hop y (by rcases hop' with rfl|rfl <;> simp [Op.operands]))
 unfold insertE at h
 split at h
 ·exact insertA_ok hop' h κ L a w hC hop
 ·rename_i e d ht
  obtain ⟨kt,hut,huk,hl⟩:=mapT_spec ht
  split at h
  ·rename_i i ka hrm hrk
   rw [hrm] at hm
   rw [hrk] at hk
   have hka:VR (MA κ.M fr L) w ka (a.eval k):=by cases hk with|t _ _ h=>exact h
   split at h
   ·rename_i mks mvs hi
    split at h
    ·cases h
    ·rename_i hd
     obtain ⟨r,ents,clock,h1,h2,h3,h4,h5,h6,hst⟩:=hC.blk i _ hi
     have hv:a.eval m=.map (some r):=by
      generalize a.eval m=z at hm
      cases hm with
      | lm _ r' hL=>rw [h1] at hL;cases hL;rfl
     have hrlt:=(Array.getElem?_eq_some_iff.1 h2).1
     have hg:(getObj r).run P w=.ok (.map ents clock) w:=by simp [getObj,Sem.run,h2]
     have hset:∀ (es:Array MapEntry) (c:Nat),(setObj r (.map es c)).run P w=.ok () (setO w r (.map es c)):=fun es c=>by simp [setObj,Sem.run,h2,setO]
     have step:∀ (es:Array MapEntry) (c:Nat) (ks':List AV) (vs':List SV),(Instr.mapUpdate t (a.eval m) (a.eval k) (a.eval y)).run P w=.ok () (setO w r (.map es c))→es.size=ks'.length→es.size=vs'.length→(∀ (j:Nat) (x:AV) (e:MapEntry),ks'[j]?=some x→es[j]?=some e→VR (MA κ.M fr L) w x e.key)→(∀ (j:Nat) (x:SV) (e:MapEntry),vs'[j]?=some x→es[j]?=some e→SR (MA κ.M fr L) L w x e.val)→Stamps es c→
       OpTo P ⟨dst,op,ty,pos,after,g⟩ a w fun v w'=>∃ L',Tr κ.M fr L w (fr.set i (.map false ks' vs')) L' w' []∧Core γ κ (fr.set i (.map false ks' vs')) L' w'∧SR (MA κ.M (fr.set i (.map false ks' vs')) L') L' w' .dead v:=fun es c ks' vs' hrun e1 e2 e3 e4 e5=>by
      obtain ⟨hC',hT⟩:=hC.chg (w':=setO w r (.map es c)) (ks:=[]) (v':=.map (some r)) (lb':=.map false ks' vs') hi rfl h1 (setO_grown w r _) (.inl rfl) (fun b hb=>by cases hb;simp [setO];exact hrlt) (.inl rfl) (fun _=>rfl) fun hT=>⟨r,es,c,Lput_self,setO_at hrlt,e1,e2,fun j x u hx hu=>hT.vr (e3 j x u hx hu),fun j x u hx hu=>by rw [Lput_same h1] at hT ⊢;exact hT.sr (e4 j x u hx hu),e5⟩
      unfold OpTo
      rw [hexec,Sem.run_bind,hrun]
      exact ⟨_,hT,hC',.dead _⟩
     split at h
     ·cases h
     ·rename_i j hf
      cases h
      rcases findA_ok hka mks ents.toList 0 _ (by simpa using h3.symm) (fun j x e hx he=>h5 j x e hx (by simpa using he)) hf with ⟨h7,_⟩|⟨j',e',h7,h8,h9,x0,h10,h11⟩
      ·cases h7
      ·rw [Nat.zero_add] at h7 h9
       cases h7
       obtain rfl:=eqLeaf_same h11
       have he':ents[j]?=some e':=by simpa using h8
       have hsame:=sameBits_leaf hd (h5 j _ e' h10 he') hka 9999
       have hkt:(Instr.keyThatStays (((ents[j]?).map (·.key)).getD (a.eval k)) (a.eval k)).run P w=.ok (a.eval k) w:=by
        rw [he']
        show (Instr.keyThatStays e'.key (a.eval k)).run P w=_
        unfold Instr.keyThatStays
        rw [hsame]
        rfl
       refine step (ents.modify j fun e=>{ e with key:=a.eval k,val:=a.eval y }) clock _ _ ?_ (by simpa using h3) (by simpa using h4) (fun q z e hz he=>?_) (fun q z e hz he=>?_) (hst.modify _ _ _)
       ·unfold Instr.mapUpdate
        rw [Sem.run_bind,run_underlying hut,Result.andThen_ok,hv]
        simp only [Sem.run_bind,hg,Result.andThen_ok,run_checkKey huk hl,run_findKey huk h9,hkt,hset]
       ·rw [Array.getElem?_modify] at he
        split at he
        ·rename_i hq
         subst hq
         rw [he'] at he
         rw [h10] at hz
         cases he;cases hz
         exact hka
        ·exact h5 q z e hz he
       ·rw [Array.getElem?_modify] at he
        split at he
        ·rename_i hq
         subst hq
         rw [he'] at he
         rw [List.getElem?_set_self (by rw [← h4];exact (Array.getElem?_eq_some_iff.1 he').1)] at hz
         cases he;cases hz
         exact hy
        ·rename_i hq
         rw [List.getElem?_set_ne hq] at hz
         exact h6 q z e hz he
     ·rename_i hf
      cases h
      rcases findA_ok hka mks ents.toList 0 _ (by simpa using h3.symm) (fun j x e hx he=>h5 j x e hx (by simpa using he)) hf with ⟨_,h7⟩|⟨j',e',h7,_⟩
      ·refine step (ents.push { key:=a.eval k,val:=a.eval y,born:=clock }) (clock+1) _ _ ?_ (by simp [h3]) (by simp [h4]) (fun q z e hz he=>?_) (fun q z e hz he=>?_) (hst.push _ _)
       ·unfold Instr.mapUpdate
        rw [Sem.run_bind,run_underlying hut,Result.andThen_ok,hv]
        simp only [Sem.run_bind,hg,Result.andThen_ok,run_checkKey huk hl,run_findKey huk h7,hset]
       ·rw [Array.getElem?_push] at he
        split at he
        ·rename_i hq
         rw [hq,h3,List.getElem?_append_right (Nat.le_refl _),Nat.sub_self] at hz
         cases he;cases hz
         exact hka
        ·rename_i hq
         have:=(Array.getElem?_eq_some_iff.1 he).1
         rw [List.getElem?_append_left (by omega)] at hz
         exact h5 q z e hz he
       ·rw [Array.getElem?_push] at he
        split at he
        ·rename_i hq
         rw [hq,h4,List.getElem?_append_right (Nat.le_refl _),Nat.sub_self] at hz
         cases he;cases hz
         exact hy
        ·rename_i hq
         have:=(Array.getElem?_eq_some_iff.1 he).1
         rw [List.getElem?_append_left (by omega)] at hz
         exact h6 q z e hz he
      ·cases h7
   ·cases h
  ·cases h
theorem RelRow.lay {A:Nat→Prop} {w:World} {sz a:Nat} {es zs:List (List AV)} {us zu:List Value} (h:RelRow A w sz es us) (hul:us.length=es.length * sz) (hz:RelRow A w sz zs zu) (hzu:zu.length=zs.length * sz) (han:a+zs.length≤es.length) :
  RelRow A w sz (es.take a++zs++es.drop (a+zs.length)) (putU us (a * sz) zu):=by
 have hat:∀ (k:Nat) (cs:List AV),(es.take a++zs++es.drop (a+zs.length))[k]?=some cs→(k < a∧es[k]?=some cs)∨(a≤k∧k < a+zs.length∧zs[k - a]?=some cs)∨(a+zs.length≤k∧es[k]?=some cs):=fun k cs hk=>by
  have hl1:(es.take a).length=a:=by rw [List.length_take];omega
  rw [List.getElem?_append] at hk
  split at hk
  ·rename_i h1
   rw [List.length_append,hl1] at h1
   rw [List.getElem?_append] at hk
   split at hk
   ·rename_i h2
    rw [hl1] at h2
    rw [List.getElem?_take,if_pos h2] at hk
    exact .inl ⟨h2,hk⟩
   ·rename_i h2
    rw [hl1] at h2 hk
    exact .inr (.inl ⟨by omega,h1,hk⟩)
  ·rename_i h1
   rw [List.length_append,hl1] at h1 hk
   rw [List.getElem?_drop] at hk
   exact .inr (.inr ⟨by omega,by rwa [show a+zs.length+(k - (a+zs.length))=k by omega] at hk⟩)
 have hle:a * sz+zs.length * sz≤us.length:=by rw [hul,← Nat.add_mul];exact Nat.mul_le_mul_right _ han
 refine ⟨fun k cs hk=>?_,fun k j cs x hk hj=>?_⟩
 ·rcases hat k cs hk with ⟨_,h2⟩|⟨_,_,h2⟩|⟨_,h2⟩
  ·exact h.1 k cs h2
  ·exact hz.1 _ cs h2
  ·exact h.1 k cs h2
 ·rw [putU_get _ _ _ _ (by omega),hzu]
  rcases hat k cs hk with ⟨h1,h2⟩|⟨h1,h2,h3⟩|⟨h1,h2⟩
  ·have hj':j < sz:=by rw [← h.1 k cs h2];exact lt_of_get hj
   have:(k+1) * sz≤a * sz:=Nat.mul_le_mul_right _ h1
   rw [Nat.add_mul] at this
   rw [if_neg (by omega)]
   exact h.2 k j cs x h2 hj
  ·have hj':j < sz:=by rw [← hz.1 _ cs h3];exact lt_of_get hj
   obtain ⟨q,rfl⟩:∃ q,k=a+q:=⟨k - a,by omega⟩
   rw [Nat.add_sub_cancel_left] at h3
   have:(q+1) * sz≤zs.length * sz:=Nat.mul_le_mul_right _ (by omega)
   rw [Nat.add_mul] at this
   rw [Nat.add_mul,if_pos (by omega),show a * sz+q * sz+j - a * sz=q * sz+j by omega]
   exact hz.2 q j cs x h3 hj
  ·have hj':j < sz:=by rw [← h.1 k cs h2];exact lt_of_get hj
   have:(a+zs.length) * sz≤k * sz:=Nat.mul_le_mul_right _ h1
   rw [Nat.add_mul] at this
   rw [if_neg (by omega)]
   exact h.2 k j cs x h2 hj
theorem exec_copy {x y:Operand} {t u n:Nat} {tys:Array TypeId} {args:Array Operand} {a:Act} {w w':World} (hargs:args.toList=[x,y]) (htys:tys.toList=[t,u]) (h:(Builtin.copy_ #[t,u] ty #[a.eval x,a.eval y]).run P w=.ok (.int .i64 (n:Int)) w'):(execOp a.eval ⟨dst,.call ⟨.builtin .copy,args,tys⟩,ty,pos,after,g⟩).run P w=.ok (.value (.int .i64 (n:Int))) w':=by
 obtain ⟨args⟩:=args
 obtain ⟨tys⟩:=tys
 simp only at hargs htys
 subst hargs htys
 simp only [execOp,resolve,invoke,builtin,Sem.run_bind,Sem.run_pure,Result.andThen_ok,List.map_toArray,List.map_cons,List.map_nil,h]
theorem copy_ok {x y:Operand} {t u:Nat} {args:Array Operand} {tys:Array TypeId} {s:SV} {fr':Fr} {ks:List Nat} (hargs:args.toList=[x,y]) (htys:tys.toList=[t,u]) (h:copyE P fr t (rd env x) (rd env y)=some (s,fr',ks)) :
  OpOk P γ env fr ⟨dst,.call ⟨.builtin .copy,args,tys⟩,ty,pos,after,g⟩ s fr' ks:=by
 have hmx:x∈(Op.call ⟨.builtin .copy,args,tys⟩).operands:=by simp [Op.operands,Call.operands,← Array.mem_toList_iff,hargs]
 have hmy:y∈(Op.call ⟨.builtin .copy,args,tys⟩).operands:=by simp [Op.operands,Call.operands,← Array.mem_toList_iff,hargs]
 unfold copyE at h
 split at h
 ·cases h
 ·rename_i e sz by_ ht
  obtain ⟨i,z,hu,hi,hz,rfl,rfl,hzs,hpos⟩:=rowT_spec ht
  split at h
  ·cases h
  ·rename_i zs hzs'
   split at h
   ·cases h
   ·rename_i hnok
    have row:∀ (r sz a0 n:Nat),sz=i.size→copyRow fr zs r sz a0 n=some (s,fr',ks)→(∀ (κ:Ctx) (L:Ls) (w:World) (v:Value),Core γ κ fr L w→SR (MA κ.M fr L) L w (rd env x) v→∃ q b m c c',L r=some (.slice q m c)∧(n≠0→q=some ⟨b,0,none⟩∧v=.slice (some ⟨b,a0 * sz,none⟩) n c')∧(n=0→∃ q,v=.slice q 0 c'))→OpOk P γ env fr ⟨dst,.call ⟨.builtin .copy,args,tys⟩,ty,pos,after,g⟩ s fr' ks:=fun r sz a0 n hsz hrow hv=>by
     subst hsz
     unfold copyRow at hrow
     split at hrow
     ·rename_i tch sz' es hb
      split at hrow
      ·rename_i hc
       rw [Bool.and_eq_true,Nat.ble_eq] at hc
       obtain rfl:i.size=sz':=by simpa using hc.1
       cases hrow
       intro κ L a w hC hop
       obtain ⟨q,b,m,c,c',hL,hv1,hv2⟩:=hv κ L w _ hC (rd_ok (hop x hmx))
       obtain ⟨q2,c2,nus,e1,e2,e3,e4,e5⟩:=news_cells hC hpos hzs' (rd_ok (hop y hmy)) hnok
       obtain ⟨T,us,how,hlen,⟨q0,c0,hform⟩,hes,her⟩:=row_form hC hb hL
       cases hform
       have hpre:∀ {dv:Value} {q':Option Addr} {cc:Nat} {w':World},dv=.slice q' n cc→(∀ (bs:Array Value),bs.toList=nus.take (Nat.min zs.length n * i.size)→(match q' with|some ad=>(storeCells ad bs.toList).run P w=.ok () w'|none=>w'=w))→(Builtin.copy_ #[t,u] ty #[dv,a.eval y]).run P w=.ok (.int .i64 ((Nat.min zs.length n:Nat):Int)) w':=fun {dv q' cc w'} hdv hst=>by
        rw [e1,hdv]
        have hload:∃ bs:Array Value,bs.toList=nus.take (Nat.min zs.length n * i.size)∧(Builtin.firstCells i.size (Nat.min zs.length n) (.slice q2 zs.length c2)).run P w=.ok bs w:=by
         have hml:(nus.take (Nat.min zs.length n * i.size)).length=Nat.min zs.length n * i.size:=by
          rw [List.length_take,e3]
          exact Nat.min_eq_left (Nat.mul_le_mul_right _ (Nat.min_le_left _ _))
         rcases Nat.eq_zero_or_pos nus.length with h0|h0
         ·have h1:Nat.min zs.length n * i.size=0:=by
           have:zs.length=0:=by
            rcases Nat.eq_zero_or_pos zs.length with h|h
            ·exact h
            ·have:=Nat.mul_pos h hpos;omega
           rw [this]
           simp [Nat.min_def]
          refine ⟨#[],by rw [h1];simp,?_⟩
          cases q2 with
          | none=>simp [Builtin.firstCells,pure,Sem.run]
          | some ad=>simp [Builtin.firstCells,h1,loadCells,loadCellsFrom,pure,Sem.run]
         ·obtain ⟨b2,o2,rfl,_,hcell⟩:=e2 h0
          refine ⟨(nus.take (Nat.min zs.length n * i.size)).toArray,by simp,?_⟩
          exact run_firstCells_some (P:=P) w i.size (Nat.min zs.length n) ⟨b2,o2,none⟩ zs.length c2 _ hml fun j v hj=>by
           rw [List.getElem?_take] at hj
           split at hj
           ·rw [addr_add];exact hcell j v hj
           ·cases hj
        obtain ⟨bs,hbs,hrun⟩:=hload
        have:=hst bs hbs
        unfold Builtin.copy_
        simp only [List.getElem?_toArray,List.getElem?_cons_zero,List.getElem?_cons_succ,Sem.run_bind,run_underlying hu,Result.andThen_ok,Builtin.lenOf,Sem.run_pure,run_size hi,hrun]
        cases q' with
        | none=>simp only at this;subst this;rfl
        | some ad=>simp only [Sem.run_bind,this,Result.andThen_ok];rfl
       rcases Nat.eq_zero_or_pos (Nat.min zs.length n) with h0|h0
       ·have e0:zs.take n=[]:=by
         apply List.eq_nil_of_length_eq_zero
         rw [List.length_take]
         simpa [Nat.min_comm] using h0
        have e6:es.take a0++zs.take n++es.drop (a0+Nat.min zs.length n)=es:=by rw [e0,h0];simp
        have hdv:∃ q' cc,a.eval x=.slice q' n cc:=by
         rcases Nat.eq_zero_or_pos n with hn|hn
         ·subst hn
          obtain ⟨q',e'⟩:=hv2 rfl
          exact ⟨q',_,e'⟩
         ·obtain ⟨_,e'⟩:=hv1 (by omega)
          exact ⟨_,_,e'⟩
        obtain ⟨q',cc,hdv⟩:=hdv
        rw [e6,set_self hb]
        refine .value' (exec_copy (n:=Nat.min zs.length n) hargs htys (w':=w) (hpre hdv (fun bs hbs=>?_))) ⟨L,Tr.refl,hC,.t _ _ (.int _ _)⟩
        rw [h0] at hbs
        simp only [Nat.zero_mul,List.take_zero] at hbs
        cases q' with
        | none=>rfl
        | some ad=>rw [hbs];rfl
       ·have hn0:n≠0:=by
         intro hn
         subst hn
         simp at h0
        obtain ⟨rfl,hav⟩:=hv1 hn0
        have how:=how.own (by omega)
        obtain ⟨vs,hvs⟩:∃ vs,nus.take (Nat.min zs.length n * i.size)=vs:=⟨_,rfl⟩
        have hml:(zs.take n).length=Nat.min zs.length n:=by rw [List.length_take];exact Nat.min_comm _ _
        have hvl:vs.length=(zs.take n).length * i.size:=by
         rw [← hvs,List.length_take,e3,hml]
         exact Nat.min_eq_left (Nat.mul_le_mul_right _ (Nat.min_le_left _ _))
        have hplain:∀ u∈vs,plainV u=true:=fun u hu=>e4 u (List.mem_of_mem_take (by rw [hvs];exact hu))
        have hmn:Nat.min zs.length n≤n:=Nat.min_le_right _ _
        have hle:a0 * i.size+vs.length≤us.length:=by
         rw [hvl,hml,how.1,← Nat.add_mul]
         exact Nat.mul_le_mul_right _ (by omega)
        obtain ⟨w',hrun,how',hg⟩:=ownsRow_put how (q:=a0 * i.size) (vs:=vs) hle hplain P
        have hcap:∃ c1,c=c1+1:=by
         rcases how.2 with ⟨e,_⟩|⟨g,cap,cur,e,_,_,hnc,_⟩
         ·cases e
         ·cases e;exact ⟨c - 1,by omega⟩
        obtain ⟨c,rfl⟩:=hcap
        have hzrel:RelRow (MA κ.M fr L) w i.size (zs.take n) vs:=by
         have hk:=e5.take (Nat.min zs.length n)
         rw [hvs] at hk
         have:zs.take (Nat.min zs.length n)=zs.take n:=by
          rcases Nat.le_total zs.length n with hl|hl
          ·rw [show Nat.min zs.length n=zs.length from Nat.min_eq_left hl,List.take_length,List.take_of_length_le hl]
          ·rw [show Nat.min zs.length n=n from Nat.min_eq_right hl]
         rwa [this] at hk
        have hrel:=RelRow.lay (a:=a0) (zs:=zs.take n) (zu:=vs) ⟨hes,her⟩ how.1 hzrel hvl (by rw [hml];omega)
        rw [hml] at hrel
        have hl2:(es.take a0++zs.take n++es.drop (a0+Nat.min zs.length n)).length=es.length:=by
         rw [List.length_append,List.length_append,hml,List.length_take,List.length_drop];omega
        obtain ⟨hC',hT⟩:=hC.chg (w':=w') (ks:=[]) (v':=.slice (some ⟨b,0,none⟩) es.length (c+1)) (lb':=.row false tch i.size (es.take a0++zs.take n++es.drop (a0+Nat.min zs.length n))) hb rfl hL hg (.inl rfl) (fun b' hb'=>by
          cases hb'
          rcases how'.2 with ⟨e,_⟩|⟨g,cap,cur,e,_,hgg,_⟩
          ·cases e
          ·cases e;exact (Array.getElem?_eq_some_iff.1 hgg).1) (.inl rfl) (fun h=>h) fun hT=>by
         refine ⟨T,_,_,Lput_self,.inr (by rw [hl2];exact how'),by rw [hl2];exact hlen,hrel.1,fun q p cs' y hq hp=>?_⟩
         obtain ⟨u,e1,e2⟩:=hrel.2 q p cs' y hq hp
         exact ⟨u,e1,hT.vr e2⟩
        refine .value' (exec_copy (n:=Nat.min zs.length n) hargs htys (w':=w') (hpre hav (fun bs hbs=>?_))) ⟨_,hT,hC',.t _ _ (.int _ _)⟩
        simp only
        rw [hbs,hvs]
        exact hrun
      ·cases hrow
     ·cases hrow
    split at h
    ·rename_i r sz a n hs
     split at h
     ·rename_i hz'
      obtain rfl:sz=i.size:=by simpa using hz'
      exact row r i.size a n rfl h fun κ L w v hC hv=>by
       rw [hs] at hv
       obtain ⟨b,m,c,hL,rfl⟩:=inv_lv hv
       exact ⟨_,b,m,c,c - a,hL,fun _=>⟨rfl,rfl⟩,fun h0=>by subst h0;exact ⟨_,rfl⟩⟩
     ·cases h
    ·rename_i r hs
     split at h
     ·rename_i ro tch sz es hb
      exact row r i.size 0 es.length rfl h fun κ L w v hC hv=>by
       rw [hs] at hv
       obtain ⟨hL,_⟩:=inv_ls hv
       obtain ⟨T,us,how,hlen,⟨q,c,rfl⟩,hes,her⟩:=row_form hC hb hL
       rcases Nat.eq_zero_or_pos es.length with h0|h0
       ·exact ⟨q,0,es.length,c,c,hL,fun h=>absurd h0 h,fun _=>⟨q,by rw [h0]⟩⟩
       ·rcases (how.own h0).2 with ⟨e,hz⟩|⟨b,cap,cur,e,_⟩
        ·omega
        ·cases e
         exact ⟨_,b,es.length,c,c,hL,fun _=>⟨rfl,by rw [Nat.zero_mul]⟩,fun h0'=>by omega⟩
     ·cases h
    ·cases h
end
end Go.Proofs.YtjdhnoffoknlnaaGreatDoor
namespace Go.Proofs.YtjdhnoffoknlnaaGreatDoor
open Go.RowKit
theorem dedup_nodup:∀ (l acc:List Nat),acc.Nodup→(dedup acc l).Nodup
 | [],acc,h=>h
 | i::r,acc,h=>by
  unfold dedup
  split
  ·exact dedup_nodup r acc h
  ·rename_i hn
   refine dedup_nodup r _ ?_
   rw [List.nodup_append]
   refine ⟨h,by simp,fun a ha b hb=>?_⟩
   simp at hb
   subst hb
   intro e
   subst e
   exact hasN_not.1 hn ha
theorem close_nodup (fr:Fr):∀ (n:Nat) (l:List Nat),l.Nodup→(close fr n l).Nodup
 | 0,l,h=>h
 | n+1,l,h=>close_nodup fr n _ (dedup_nodup _ _ h)
theorem getAll_get {fr:Fr}:∀ {l:List Nat} {bs:Fr},getAll fr l=some bs→bs.length=l.length∧∀ (j i:Nat),l[j]?=some i→∃ b,fr[i]?=some b∧bs[j]?=some b
 | [],bs,h=>by unfold getAll at h;cases h;exact ⟨rfl,fun j i h=>by simp at h⟩
 | k::r,bs,h=>by
  unfold getAll at h
  split at h
  ·cases h
  ·rename_i b hb
   split at h
   ·cases h
   ·rename_i l hl
    cases h
    obtain ⟨h1,h2⟩:=getAll_get hl
    refine ⟨by simp [h1],fun j i hj=>?_⟩
    cases j with
    | zero=>cases hj;exact ⟨b,hb,rfl⟩
    | succ j=>
     obtain ⟨b',h3,h4⟩:=h2 j i (by simpa using hj)
     exact ⟨b',h3,by simpa using h4⟩
theorem idxσ_some {l:List Nat} {i j:Nat} (h:idxσ l i=some j):l[j]?=some i:=by
 unfold idxσ at h
 obtain ⟨hj,hp,_⟩:=List.findIdx?_eq_some_iff_getElem.1 h
 rw [List.getElem?_eq_getElem hj]
 rw [Nat.beq_eq] at hp
 rw [hp]
theorem idxσ_of {l:List Nat} {i j:Nat} (hn:l.Nodup) (h:l[j]?=some i):idxσ l i=some j:=by
 unfold idxσ
 rw [List.findIdx?_eq_some_iff_getElem]
 obtain ⟨hj,hv⟩:=List.getElem?_eq_some_iff.1 h
 refine ⟨hj,by rw [hv];simp,fun k hk=>?_⟩
 rw [Bool.not_eq_true]
 rw [← Bool.not_eq_true,Nat.beq_eq]
 intro e
 have h1:l[k]'(by omega)=l[j]:=by rw [hv];exact e.symm
 exact (List.pairwise_iff_getElem.1 hn) k j (by omega) hj hk h1
theorem nodup_idx {l:List Nat} {j k i:Nat} (hn:l.Nodup) (hj:l[j]?=some i) (hk:l[k]?=some i):j=k:=by
 have h1:=idxσ_of hn hj
 have h2:=idxσ_of hn hk
 rw [h1] at h2
 exact Option.some.inj h2
theorem unTch_ro (b:Lb):(unTch b).ro=b.ro:=by cases b <;> rfl
theorem blkTo_unTch {σ:Nat→Option Nat} {b b':Lb} (h:BlkTo σ b b'):BlkTo σ b (unTch b'):=by
 cases b <;> cases b' <;> first|exact h.elim|exact h
theorem blkTo_orTch {σ:Nat→Option Nat} {o:Option Lb} {b b':Lb} (h:BlkTo σ b b'):BlkTo σ b (orTch o b'):=by
 unfold orTch
 split
 ·cases b <;> first|exact h.elim|exact h
 ·exact h
theorem orTch_ro (o:Option Lb) (b:Lb):(orTch o b).ro=b.ro:=by
 unfold orTch
 split <;> rfl
theorem layBack_len (τ:Nat→Option Nat):∀ (hs:List Nat) (bs fr:Fr),(layBack τ hs bs fr).length=fr.length
 | [],_,_=>rfl
 | _::_,[],_=>rfl
 | i::hs,b::bs,fr=>by rw [layBack,layBack_len τ hs bs];simp
theorem layBack_off (τ:Nat→Option Nat):∀ (hs:List Nat) (bs fr:Fr) (i:Nat),i ∉ hs→(layBack τ hs bs fr)[i]?=fr[i]?
 | [],_,_,_,_=>rfl
 | _::_,[],_,_,_=>rfl
 | k::hs,b::bs,fr,i,h=>by
  simp only [List.mem_cons,not_or] at h
  rw [layBack,layBack_off τ hs bs _ i h.2,List.getElem?_set_ne (Ne.symm h.1)]
theorem layBack_at (τ:Nat→Option Nat):∀ (hs:List Nat) (bs fr:Fr) (j i:Nat) (b:Lb),hs.Nodup→hs[j]?=some i→bs[j]?=some b→i < fr.length→(layBack τ hs bs fr)[i]?=some (orTch fr[i]? (b.sub τ))
 | [],_,_,j,_,_,_,h,_,_=>by simp at h
 | _::_,[],_,j,_,_,_,_,h,_=>by simp at h
 | k::hs,c::bs,fr,j,i,b,hn,hj,hb,hi=>by
  rw [List.nodup_cons] at hn
  rw [layBack]
  cases j with
  | zero=>
   cases hj;cases hb
   rw [layBack_off τ hs bs _ k hn.1,List.getElem?_set_self hi]
  | succ j=>
   have hj':hs[j]?=some i:=by simpa using hj
   have hne:k≠i:=fun e=>by subst e;exact hn.1 (List.mem_of_getElem? hj')
   rw [layBack_at τ hs bs _ j i b hn.2 hj' (by simpa using hb) (by rw [List.length_set];exact hi),List.getElem?_set_ne hne]
theorem touched_mem:∀ {hs:List Nat} {bs:Fr} {j i:Nat} {b:Lb},hs[j]?=some i→bs[j]?=some b→b.tch=true→i∈touched hs bs
 | [],_,j,_,_,h,_,_=>by simp at h
 | _::_,[],j,_,_,_,h,_=>by simp at h
 | k::hs,c::bs,j,i,b,hj,hb,ht=>by
  unfold touched
  cases j with
  | zero=>cases hj;cases hb;rw [ht];simp
  | succ j=>
   have:=touched_mem (hs:=hs) (bs:=bs) (j:=j) (by simpa using hj) (by simpa using hb) ht
   split
   ·exact List.mem_cons_of_mem _ this
   ·exact this
theorem kindOk_at:∀ {hs:List Nat} {bs fr:Fr} {j i:Nat} {b:Lb} {ro:Bool} {sz:Nat} {es:List (List AV)},kindOk hs bs fr=true→hs[j]?=some i→bs[j]?=some b→fr[i]?=some (.row ro true sz es)→∃ ro' tch' sz' es',b=.row ro' tch' sz' es'
 | [],_,_,j,_,_,_,_,_,_,h,_,_=>by simp at h
 | _::_,[],_,j,_,_,_,_,_,_,_,h,_=>by simp at h
 | k::hs,c::bs,fr,j,i,b,ro,sz,es,hk,hj,hb,hf=>by
  unfold kindOk at hk
  rw [Bool.and_eq_true] at hk
  cases j with
  | zero=>
   cases hj;cases hb
   have:=hk.1
   rw [hf] at this
   cases c with
   | row a b' c d=>exact ⟨a,b',c,d,rfl⟩
   | box=>cases this
   | map=>cases this
   | own=>cases this
  | succ j=>exact kindOk_at hk.2 (by simpa using hj) (by simpa using hb) hf
def handCtx (κ:Ctx) (fr1:Fr) (L:Ls) (w:World) (hs:List Nat):Ctx where
 M:=fun b=>MA κ.M fr1 L b∨w.heap.size≤b∨∃ i∈hs,∃ v,L i=some v∧Bk v b
 X:=fun b=>∃ i∈hs,∃ v lb,L i=some v∧Bk v b∧fr1[i]?=some lb∧lb.ro=false
 H:=fun b=>∃ i∈hs,∃ v,L i=some v∧Bk v b
 W:=w
 L:=fun j=>(hs[j]?).bind L
section
variable {γ:Glob} {κ:Ctx} {fr1 fr':Fr} {L L':Ls} {w w':World} {hs:List Nat} {bs:Fr}
theorem Core.handed (hC:Core γ κ fr1 L w) (hn:hs.Nodup) (hb:getAll fr1 hs=some bs):Core γ (handCtx κ fr1 L w hs) (bs.map fun b=>unTch (b.sub (idxσ hs))) (handCtx κ fr1 L w hs).L w∧(∀ b,MA κ.M fr1 L b→MA (handCtx κ fr1 L w hs).M (bs.map fun b=>unTch (b.sub (idxσ hs))) (handCtx κ fr1 L w hs).L b)∧
  ∀ x v,SR (MA κ.M fr1 L) L w x v→SR (MA (handCtx κ fr1 L w hs).M (bs.map fun b=>unTch (b.sub (idxσ hs))) (handCtx κ fr1 L w hs).L) (handCtx κ fr1 L w hs).L w (x.sub (idxσ hs)) v:=by
 obtain ⟨hbl,hbg⟩:=getAll_get hb
 have hget:∀ (j:Nat) (lb':Lb),(bs.map fun b=>unTch (b.sub (idxσ hs)))[j]?=some lb'→∃ (i:Nat) (lb:Lb),hs[j]?=some i∧fr1[i]?=some lb∧lb'=unTch (lb.sub (idxσ hs)):=fun j lb' h=>by
  rw [List.getElem?_map] at h
  cases hbj:bs[j]? with
  | none=>rw [hbj] at h;cases h
  | some lb=>
   rw [hbj] at h;cases h
   obtain ⟨i,hi⟩:=get_of_lt (xs:=hs) (k:=j) (by rw [← hbl];exact lt_of_get hbj)
   obtain ⟨b,h1,h2⟩:=hbg j i hi
   rw [hbj] at h2
   cases h2
   exact ⟨i,lb,hi,h1,rfl⟩
 have hL:∀ j v,(handCtx κ fr1 L w hs).L j=some v→∃ i,hs[j]?=some i∧L i=some v:=fun j v h=>by
  cases hj:hs[j]? with
  | none=>simp [handCtx,hj] at h
  | some i=>exact ⟨i,rfl,by simpa [handCtx,hj] using h⟩
 have hLs:∀ i j v,idxσ hs i=some j→L i=some v→(handCtx κ fr1 L w hs).L j=some v:=fun i j v h1 h2=>by
  have:=idxσ_some h1
  simp [handCtx,this,h2]
 have hO:∀ b,Own (bs.map fun b=>unTch (b.sub (idxσ hs))) (handCtx κ fr1 L w hs).L b→Own fr1 L b:=fun b ⟨j,v,lb',h1,h2,h3,h4⟩=>by
  obtain ⟨i,hi,h1⟩:=hL j v h1
  obtain ⟨i',lb,hi',h5,rfl⟩:=hget j lb' h3
  rw [hi] at hi'
  cases hi'
  rw [unTch_ro,Lb.sub_ro] at h4
  exact ⟨i,v,lb,h1,h2,h5,h4⟩
 have hMA:∀ b,MA κ.M fr1 L b→MA (handCtx κ fr1 L w hs).M (bs.map fun b=>unTch (b.sub (idxσ hs))) (handCtx κ fr1 L w hs).L b:=fun b hm=>⟨.inl hm,fun h=>hm.2 (hO b h)⟩
 refine ⟨⟨hC.glob,Nat.le_trans hC.gn hC.size,fun b hx=>?_,fun b hb=>.inr (.inl hb),rfl,rfl,rfl,Nat.le_refl _,fun _ _ _=>rfl,fun j v h=>?_,fun j v b lb' h1 h2 h3=>?_,fun j k v v' b h1 h2 h3 h4=>?_,fun j v h=>?_,fun j lb' h=>?_⟩,hMA,fun x v hv=>SR.sub _ (Nat.le_refl _) (fun b _ hm=>⟨hMA b hm,rfl⟩) hLs hv⟩
 ·obtain ⟨i,_,v,lb,h1,h2,h3,h4⟩:=hx
  obtain ⟨a1,_,a3⟩:=hC.own ⟨i,v,lb,h1,h2,h3,h4⟩
  refine ⟨?_,a1⟩
  rcases a3 with h|h
  ·exact Nat.le_trans hC.gn h
  ·exact (hC.gx b h).1
 ·obtain ⟨i,hi,_⟩:=hL j v h
  rw [List.length_map,hbl]
  exact lt_of_get hi
 ·obtain ⟨i,hi,h1⟩:=hL j v h1
  obtain ⟨i',lb,hi',h5,rfl⟩:=hget j lb' h3
  rw [hi] at hi'
  cases hi'
  have hmem:=List.mem_of_getElem? hi
  refine ⟨(hC.new i v b lb h1 h2 h5).1,.inr (.inr ⟨i,hmem,v,h1,h2⟩),.inr ⟨i,hmem,v,h1,h2⟩,fun hr=>.inr ⟨i,hmem,v,lb,h1,h2,h5,?_⟩⟩
  rw [unTch_ro,Lb.sub_ro] at hr
  exact hr
 ·obtain ⟨i,hi,h1⟩:=hL j v h1
  obtain ⟨i',hi',h2⟩:=hL k v' h2
  have:=hC.dis i i' v v' b h1 h2 h3 h4
  subst this
  exact nodup_idx hn hi hi'
 ·obtain ⟨i,hi,h1⟩:=hL j v h
  obtain ⟨lb,h5,h6⟩:=hbg j i hi
  exact ⟨unTch (lb.sub (idxσ hs)),by rw [List.getElem?_map,h6];rfl,fun _=>h⟩
 ·obtain ⟨i,lb,hi,h5,rfl⟩:=hget j lb' h
  refine lbOk_to (i:=i) (σ:=idxσ hs) (Nat.le_refl _) (fun b _ hm=>⟨hMA b hm,rfl⟩) hLs (fun v hv=>?_) (fun _ _ _ _=>rfl) (fun _ _ _ _ _ _ h=>h) (blkTo_unTch (blkTo_sub _ _)) (hC.blk i lb h5)
  simp [handCtx,hi,hv]
def backL (hs:List Nat) (n:Nat) (L L':Ls):Ls:=fun i=>match idxσ hs i with
 | some j=>L' j
 | none=>if i < n then L i else L' (hs.length+(i - n))
theorem Core.back (hC:Core γ κ fr1 L w) (hn:hs.Nodup) (hb:getAll fr1 hs=some bs) (hC':Core γ (handCtx κ fr1 L w hs) fr' L' w') (hk:kindOk hs fr' fr1=true) :
  Core γ κ (back hs fr1 fr') (backL hs fr1.length L L') w'∧Tr κ.M fr1 L w (back hs fr1 fr') (backL hs fr1.length L L') w' (touched hs fr')∧(∀ b,MA (handCtx κ fr1 L w hs).M fr' L' b→MA κ.M (back hs fr1 fr') (backL hs fr1.length L L') b)∧
  ∀ x v,SR (MA (handCtx κ fr1 L w hs).M fr' L') L' w' x v→SR (MA κ.M (back hs fr1 fr') (backL hs fr1.length L L')) (backL hs fr1.length L L') w' (x.sub (backσ hs fr1.length)) v:=by
 obtain ⟨hbl,hbg⟩:=getAll_get hb
 have hsz:w.heap.size≤w'.heap.size:=hC'.size
 have hhs:∀ j i,hs[j]?=some i→∃ v lb,L i=some v∧fr1[i]?=some lb∧i < fr1.length:=fun j i hi=>by
  obtain ⟨lb,h1,_⟩:=hbg j i hi
  have hlt:=lt_of_get h1
  cases hv:L i with
  | some v=>exact ⟨v,lb,rfl,h1,hlt⟩
  | none=>
   have:=hC.blk i lb h1
   cases lb with
   | box=>obtain ⟨g,us,e,_⟩:=this;rw [hv] at e;cases e
   | row=>obtain ⟨T,v,us,e,_⟩:=this;rw [hv] at e;cases e
   | map=>obtain ⟨r,ents,clock,e,_⟩:=this;rw [hv] at e;cases e
   | own=>obtain ⟨v,t,e,_⟩:=this;rw [hv] at e;cases e
 have hcL:∀ j i v,hs[j]?=some i→L i=some v→(handCtx κ fr1 L w hs).L j=some v:=fun j i v hj hv=>by simp [handCtx,hj,hv]
 have hlen':hs.length≤fr'.length:=by
  rcases Nat.lt_or_ge fr'.length hs.length with h|h
  ·obtain ⟨i,hi⟩:=get_of_lt (xs:=hs) (k:=fr'.length) h
   obtain ⟨v,_,hv,_⟩:=hhs _ i hi
   obtain ⟨lb,h1,_⟩:=hC'.hand _ v (hcL _ i v hi hv)
   have:=lt_of_get h1;omega
  ·exact h
 have hblen:(Go.Proofs.YtjdhnoffoknlnaaGreatDoor.back hs fr1 fr').length=fr1.length+(fr'.length - hs.length):=by
  unfold Go.Proofs.YtjdhnoffoknlnaaGreatDoor.back
  rw [List.length_append,layBack_len,killFr_len,List.length_map,List.length_drop]
 -- the three kinds of places
 have gOld:∀ i,i < fr1.length→i ∉ hs→(Go.Proofs.YtjdhnoffoknlnaaGreatDoor.back hs fr1 fr')[i]?=(fr1[i]?).map (Lb.sub (killσ (touched hs fr'))):=fun i hi hm=>by
  unfold Go.Proofs.YtjdhnoffoknlnaaGreatDoor.back
  rw [List.getElem?_append_left (by rw [layBack_len,killFr_len];exact hi),layBack_off _ _ _ _ _ hm,killFr_get]
 have gHand:∀ (j i:Nat) (b:Lb),hs[j]?=some i→fr'[j]?=some b→(Go.Proofs.YtjdhnoffoknlnaaGreatDoor.back hs fr1 fr')[i]?=some (orTch ((fr1[i]?).map (Lb.sub (killσ (touched hs fr')))) (b.sub (backσ hs fr1.length))):=fun j i b hj hbj=>by
  obtain ⟨_,_,_,_,hi⟩:=hhs j i hj
  unfold Go.Proofs.YtjdhnoffoknlnaaGreatDoor.back
  rw [List.getElem?_append_left (by rw [layBack_len,killFr_len];exact hi),layBack_at _ _ _ _ j i b hn hj hbj (by rw [killFr_len];exact hi),killFr_get]
 have gNew:∀ i,fr1.length≤i→(Go.Proofs.YtjdhnoffoknlnaaGreatDoor.back hs fr1 fr')[i]?=(fr'[hs.length+(i - fr1.length)]?).map fun b=>unTch (b.sub (backσ hs fr1.length)):=fun i hi=>by
  unfold Go.Proofs.YtjdhnoffoknlnaaGreatDoor.back
  rw [List.getElem?_append_right (by rw [layBack_len,killFr_len];exact hi),layBack_len,killFr_len,List.getElem?_map,List.getElem?_drop]
 have lOld:∀ i,i < fr1.length→i ∉ hs→backL hs fr1.length L L' i=L i:=fun i hi hm=>by
  unfold backL
  cases hx:idxσ hs i with
  | none=>simp only [if_pos hi]
  | some j=>exact absurd (List.mem_of_getElem? (idxσ_some hx)) hm
 have lHand:∀ j i,hs[j]?=some i→backL hs fr1.length L L' i=L' j:=fun j i hj=>by
  unfold backL
  rw [idxσ_of hn hj]
 have lNew:∀ i,fr1.length≤i→backL hs fr1.length L L' i=L' (hs.length+(i - fr1.length)):=fun i hi=>by
  unfold backL
  cases hx:idxσ hs i with
  | none=>simp only [if_neg (by omega:¬ i < fr1.length)]
  | some j=>
   obtain ⟨_,_,_,_,h⟩:=hhs j i (idxσ_some hx)
   omega
 -- every place is of one kind
 have kinds:∀ i,(i < fr1.length∧i ∉ hs)∨(∃ j,hs[j]?=some i)∨fr1.length≤i:=fun i=>by
  by_cases h1:i∈hs
  ·obtain ⟨j,hj,he⟩:=List.mem_iff_getElem.1 h1
   exact .inr (.inl ⟨j,by rw [List.getElem?_eq_getElem hj,he]⟩)
  ·rcases Nat.lt_or_ge i fr1.length with h|h
   ·exact .inl ⟨h,h1⟩
   ·exact .inr (.inr h)
 -- the callee's place of one that is not old
 have place:∀ i v,backL hs fr1.length L L' i=some v→(i < fr1.length∧i ∉ hs∧L i=some v)∨∃ q lb,L' q=some v∧fr'[q]?=some lb∧((hs[q]?=some i)∨(fr1.length≤i∧q=hs.length+(i - fr1.length))):=fun i v h=>by
  rcases kinds i with ⟨h1,h2⟩|⟨j,hj⟩|h1
  ·rw [lOld i h1 h2] at h;exact .inl ⟨h1,h2,h⟩
  ·rw [lHand j i hj] at h
   have:=hC'.lim j v h
   exact .inr ⟨j,fr'[j],h,List.getElem?_eq_getElem this,.inl hj⟩
  ·rw [lNew i h1] at h
   have:=hC'.lim _ v h
   exact .inr ⟨_,fr'[hs.length+(i - fr1.length)],h,List.getElem?_eq_getElem this,.inr ⟨h1,rfl⟩⟩
 have placeBlk:∀ i q lb,fr'[q]?=some lb→((hs[q]?=some i)∨(fr1.length≤i∧q=hs.length+(i - fr1.length)))→∃ lb'',(Go.Proofs.YtjdhnoffoknlnaaGreatDoor.back hs fr1 fr')[i]?=some lb''∧lb''.ro=lb.ro∧BlkTo (backσ hs fr1.length) lb lb'':=fun i q lb h1 h2=>by
  rcases h2 with h2|⟨h2,rfl⟩
  ·exact ⟨_,gHand q i lb h2 h1,by rw [orTch_ro,Lb.sub_ro],blkTo_orTch (blkTo_sub _ _)⟩
  ·exact ⟨_,by rw [gNew i h2,h1];rfl,by rw [unTch_ro,Lb.sub_ro],blkTo_unTch (blkTo_sub _ _)⟩
 have placeInj:∀ i k q,((hs[q]?=some i)∨(fr1.length≤i∧q=hs.length+(i - fr1.length)))→((hs[q]?=some k)∨(fr1.length≤k∧q=hs.length+(k - fr1.length)))→i=k:=fun i k q h1 h2=>by
  rcases h1 with h1|⟨h1,h3⟩ <;> rcases h2 with h2|⟨h2,h4⟩
  ·rw [h1] at h2;exact Option.some.inj h2
  ·have:=lt_of_get h1;omega
  ·have:=lt_of_get h2;omega
  ·omega
 have hLs:∀ q i v,backσ hs fr1.length q=some i→L' q=some v→backL hs fr1.length L L' i=some v:=fun q i v h1 h2=>by
  unfold backσ at h1
  cases hq:hs[q]? with
  | some j=>
   rw [hq] at h1
   cases h1
   rw [lHand q _ hq];exact h2
  | none=>
   rw [hq] at h1
   cases h1
   have hql:hs.length≤q:=by rw [List.getElem?_eq_none_iff] at hq;exact hq
   rw [lNew _ (by omega)]
   rw [show hs.length+(fr1.length+(q - hs.length) - fr1.length)=q by omega]
   exact h2
 -- blocks of the caller's that are not handed over stay
 have hkeepOld:∀ i v b,i < fr1.length→i ∉ hs→L i=some v→Bk v b→b < w.heap.size∧¬ (handCtx κ fr1 L w hs).X b∧¬ (handCtx κ fr1 L w hs).H b:=fun i v b hi hm hv hvb=>by
  refine ⟨(hC.new i v b fr1[i] hv hvb (List.getElem?_eq_getElem hi)).1,fun ⟨k,hk,u,lb,h1,h2,_⟩=>?_,fun ⟨k,hk,u,h1,h2⟩=>?_⟩
  ·have:=hC.dis i k v u b hv h1 hvb h2;subst this;exact hm hk
  ·have:=hC.dis i k v u b hv h1 hvb h2;subst this;exact hm hk
 have hKeep:∀ i v,i ∉ touched hs fr'→L i=some v→backL hs fr1.length L L' i=some v:=fun i v hi hv=>by
  have hlt:=hC.lim i v hv
  rcases kinds i with ⟨h1,h2⟩|⟨j,hj⟩|h1
  ·rw [lOld i h1 h2];exact hv
  ·rw [lHand j i hj]
   obtain ⟨lb,h3,h4⟩:=hC'.hand j v (hcL j i v hj hv)
   refine h4 ?_
   rw [← Bool.not_eq_true]
   exact fun ht=>hi (touched_mem hj h3 ht)
  ·omega
 have hOwn:∀ b,Own (Go.Proofs.YtjdhnoffoknlnaaGreatDoor.back hs fr1 fr') (backL hs fr1.length L L') b→(∃ i v lb,i < fr1.length∧i ∉ hs∧L i=some v∧Bk v b∧fr1[i]?=some lb∧lb.ro=false)∨Own fr' L' b:=fun b ⟨i,v,lb'',h1,h2,h3,h4⟩=>by
  rcases place i v h1 with ⟨a1,a2,a3⟩|⟨q,lb,a1,a2,a3⟩
  ·rw [gOld i a1 a2] at h3
   cases hf:fr1[i]? with
   | none=>rw [hf] at h3;cases h3
   | some lb=>rw [hf] at h3;cases h3;rw [Lb.sub_ro] at h4;exact .inl ⟨i,v,lb,a1,a2,a3,h2,hf,h4⟩
  ·obtain ⟨lb3,b1,b2,_⟩:=placeBlk i q lb a2 a3
   rw [b1] at h3
   cases h3
   exact .inr ⟨q,v,lb,a1,h2,a2,by rw [← b2];exact h4⟩
 have hOwn':∀ b,Own fr' L' b→w.heap.size≤b∨(handCtx κ fr1 L w hs).X b:=fun b h=>(hC'.own h).2.2
 have xOwn:∀ b,(handCtx κ fr1 L w hs).X b→Own fr1 L b:=fun b ⟨i,_,v,lb,h1,h2,h3,h4⟩=>⟨i,v,lb,h1,h2,h3,h4⟩
 have hMA:∀ b,MA (handCtx κ fr1 L w hs).M fr' L' b→MA κ.M (Go.Proofs.YtjdhnoffoknlnaaGreatDoor.back hs fr1 fr') (backL hs fr1.length L L') b:=fun b hm=>by
  refine ⟨?_,fun ho=>?_⟩
  ·rcases hm.1 with h|h|⟨i,hi,v,h1,h2⟩
   ·exact h.1
   ·exact hC.fresh b (Nat.le_trans hC.size h)
   ·have hl:=hC.lim i v h1
    exact (hC.new i v b fr1[i] h1 h2 (List.getElem?_eq_getElem hl)).2.1
  ·rcases hOwn b ho with ⟨i,v,lb,h1,h2,h3,h4,h5,h6⟩|h
   ·obtain ⟨k1,_,k3⟩:=hkeepOld i v b h1 h2 h3 h4
    rcases hm.1 with h|h|h
    ·exact h.2 ⟨i,v,lb,h3,h4,h5,h6⟩
    ·omega
    ·exact k3 h
   ·exact hm.2 h
 have hTr:Tr κ.M fr1 L w (Go.Proofs.YtjdhnoffoknlnaaGreatDoor.back hs fr1 fr') (backL hs fr1.length L L') w' (touched hs fr'):=⟨hsz,fun b hb hm=>⟨⟨hm.1,fun ho=>by
   rcases hOwn b ho with ⟨i,v,lb,h1,h2,h3,h4,h5,h6⟩|h
   ·exact hm.2 ⟨i,v,lb,h3,h4,h5,h6⟩
   ·rcases hOwn' b h with h|h
    ·omega
    ·exact hm.2 (xOwn b h)⟩,hC'.kept b hb fun hx=>hm.2 (xOwn b hx)⟩,hKeep⟩
 refine ⟨⟨hC'.glob,hC.gn,hC.gx,hC.fresh,hC'.os.trans hC.os,hC'.tape.trans hC.tape,hC'.output.trans hC.output,Nat.le_trans hC.size hsz,fun k hk hx=>?_,fun i v h=>?_,fun i v b lb'' h1 h2 h3=>?_,fun i k v v' b h1 h2 h3 h4=>?_,fun j v h=>?_,fun i lb'' h=>?_⟩,hTr,hMA,fun x v hv=>SR.sub _ (Nat.le_refl _) (fun b _ hm=>⟨hMA b hm,rfl⟩) hLs hv⟩
 ·rw [hC'.kept k (Nat.lt_of_lt_of_le hk hC.size) fun h=>?_]
  ·exact hC.kept k hk hx
  ·rcases (hC.own (xOwn k h)).2.2 with h|h
   ·omega
   ·exact hx h
 ·rw [hblen]
  rcases place i v h with ⟨a1,_,_⟩|⟨q,lb,a1,a2,a3⟩
  ·omega
  ·have:=lt_of_get a2
   rcases a3 with a3|⟨a3,rfl⟩
   ·obtain ⟨_,_,_,_,h⟩:=hhs q i a3;omega
   ·omega
 ·rcases place i v h1 with ⟨a1,a2,a3⟩|⟨q,lb,a1,a2,a3⟩
  ·rw [gOld i a1 a2] at h3
   cases hf:fr1[i]? with
   | none=>rw [hf] at h3;cases h3
   | some lb=>
    rw [hf] at h3;cases h3
    obtain ⟨c1,c2,c0,c3⟩:=hC.new i v b lb a3 h2 hf
    exact ⟨Nat.lt_of_lt_of_le c1 hsz,c2,c0,fun hr=>c3 (by rw [Lb.sub_ro] at hr;exact hr)⟩
  ·obtain ⟨lb3,b1,b2,_⟩:=placeBlk i q lb a2 a3
   rw [b1] at h3
   cases h3
   obtain ⟨c1,_,c0,c3⟩:=hC'.new q v b lb a1 h2 a2
   have hh:(κ.M b∧(κ.W.heap.size≤b∨κ.H b)):=by
    rcases c0 with c0|⟨k,hk,u,e1,e2⟩
    ·exact ⟨hC.fresh b (Nat.le_trans hC.size c0),.inl (Nat.le_trans hC.size c0)⟩
    ·have hl:=hC.lim k u e1
     have:=hC.new k u b fr1[k] e1 e2 (List.getElem?_eq_getElem hl)
     exact ⟨this.2.1,this.2.2.1⟩
   refine ⟨c1,hh.1,hh.2,fun hr=>?_⟩
   rcases c3 (by rw [← b2];exact hr) with h|h
   ·exact .inl (Nat.le_trans hC.size h)
   ·exact (hC.own (xOwn b h)).2.2
 ·have old_new:∀ i v q u lb,i < fr1.length→i ∉ hs→L i=some v→Bk v b→L' q=some u→fr'[q]?=some lb→Bk u b→False:=fun i v q u lb a1 a2 a3 a4 a5 a6 a7=>by
   obtain ⟨k1,_,k3⟩:=hkeepOld i v b a1 a2 a3 a4
   rcases (hC'.new q u b lb a5 a7 a6).2.2.1 with h|h
   ·exact Nat.lt_irrefl _ (Nat.lt_of_lt_of_le k1 h)
   ·exact k3 h
  rcases place i v h1 with ⟨a1,a2,a3⟩|⟨q,lb,a1,a2,a3⟩ <;> rcases place k v' h2 with ⟨b1,b2,b3⟩|⟨p,lb2,b1,b2,b3⟩
  ·exact hC.dis i k v v' b a3 b3 h3 h4
  ·exact (old_new i v p v' lb2 a1 a2 a3 h3 b1 b2 h4).elim
  ·exact (old_new k v' q v lb b1 b2 b3 h4 a1 a2 h3).elim
  ·have:=hC'.dis q p v v' b a1 b1 h3 h4
   subst this
   exact placeInj i k q a3 b3
 ·obtain ⟨lb,h1,h2⟩:=hC.hand j v h
  have hjl:=lt_of_get h1
  rcases kinds j with ⟨a1,a2⟩|⟨q,hq⟩|a1
  ·exact ⟨_,by rw [gOld j a1 a2,h1];rfl,fun ht=>by rw [Lb.sub_tch] at ht;rw [lOld j a1 a2];exact h2 ht⟩
  ·obtain ⟨u,lbu,hu,_,_⟩:=hhs q j hq
   obtain ⟨lb',h3,h4⟩:=hC'.hand q u (hcL q j u hq hu)
   refine ⟨_,gHand q j lb' hq h3,fun ht=>?_⟩
   have htl:lb.tch=false:=by
    rw [← Bool.not_eq_true]
    intro htt
    cases lb with
    | row ro tch sz es=>
     have:tch=true:=htt
     subst this
     obtain ⟨ro',tch',sz',es',rfl⟩:=kindOk_at hk hq h3 h1
     rw [h1] at ht
     simp [orTch,Lb.sub,Lb.tch] at ht
    | box=>cases htt
    | map=>cases htt
    | own=>cases htt
   have htl':lb'.tch=false:=by
    rw [← Bool.not_eq_true]
    intro htt
    cases lb' with
    | row ro tch sz es=>
     have:tch=true:=htt
     subst this
     unfold orTch at ht
     split at ht
     ·rename_i e1 e2;cases e2;cases ht
     ·cases ht
    | box=>cases htt
    | map=>cases htt
    | own=>cases htt
   have:=h2 htl
   rw [hu] at this
   cases this
   rw [lHand q j hq]
   exact h4 htl'
  ·omega
 ·rcases kinds i with ⟨a1,a2⟩|⟨q,hq⟩|a1
  ·rw [gOld i a1 a2] at h
   cases hf:fr1[i]? with
   | none=>rw [hf] at h;cases h
   | some lb=>
    rw [hf] at h;cases h
    have hk2:∀ v b,L i=some v→Bk v b→w'.heap[b]?=w.heap[b]?:=fun v b hv hvb=>by
     obtain ⟨k1,k2,_⟩:=hkeepOld i v b a1 a2 hv hvb
     exact hC'.kept b k1 k2
    exact lbOk_to (i:=i) (σ:=killσ (touched hs fr')) hsz hTr.same (fun p q u hq hu=>by obtain ⟨rfl,hq⟩:=killσ_some hq;exact hKeep _ u hq hu) (fun v hv=>by rw [lOld i a1 a2];exact hv) hk2 (fun T sz v n us hv hr=>hr.same fun b hvb=>hk2 v b hv (.one hvb)) (blkTo_sub _ _) (hC.blk i lb hf)
  ·obtain ⟨u,_,hu,_,_⟩:=hhs q i hq
   obtain ⟨lb,h3,_⟩:=hC'.hand q u (hcL q i u hq hu)
   obtain ⟨lb3,b1,_,b3⟩:=placeBlk i q lb h3 (.inl hq)
   rw [b1] at h
   cases h
   exact lbOk_to (i:=q) (σ:=backσ hs fr1.length) (Nat.le_refl _) (fun b _ hm=>⟨hMA b hm,rfl⟩) hLs (fun v hv=>by rw [lHand q i hq];exact hv) (fun _ _ _ _=>rfl) (fun _ _ _ _ _ _ h=>h) b3 (hC'.blk q lb h3)
  ·have hi:=lt_of_get h
   rw [hblen] at hi
   obtain ⟨lb,h3⟩:=get_of_lt (xs:=fr') (k:=hs.length+(i - fr1.length)) (by omega)
   obtain ⟨lb3,b1,_,b3⟩:=placeBlk i _ lb h3 (.inr ⟨a1,rfl⟩)
   rw [b1] at h
   cases h
   exact lbOk_to (i:=hs.length+(i - fr1.length)) (σ:=backσ hs fr1.length) (Nat.le_refl _) (fun b _ hm=>⟨hMA b hm,rfl⟩) hLs (fun v hv=>by rw [lNew i a1];exact hv) (fun _ _ _ _=>rfl) (fun _ _ _ _ _ _ h=>h) b3 (hC'.blk _ lb h3)
end
end Go.Proofs.YtjdhnoffoknlnaaGreatDoor
namespace Go.Proofs.YtjdhnoffoknlnaaGreatDoor
open Go.RowKit
section
variable {A A':Nat→Prop} {L L':Ls} {w w':World}
mutual
theorem flatA_any:∀ (x:AV),flatA x=true→∀ (v:Value),VR A w x v→VR A' w' x v
 | .int k n,_,v,h=>by cases h;exact .int _ _
 | .bool b,_,v,h=>by cases h;exact .bool _
 | .str s,_,v,h=>by cases h;exact .str _
 | .lit u,_,v,h=>by cases h with|lit _ h=>exact .lit _ h
 | .ifn,_,v,h=>by cases h;exact .ifn _ _
 | .agg cs,hf,v,h=>by
  cases h with
  | agg _ us hl hr=>exact .agg _ _ hl (flatAL_any cs (by rw [flatA] at hf;exact hf) us hr)
 | .tup cs,hf,v,h=>by
  cases h with
  | tup _ us hl hr=>exact .tup _ _ hl (flatAL_any cs (by rw [flatA] at hf;exact hf) us hr)
 | .arr es,hf,_,_=>by simp [flatA] at hf
 | .tp cs,hf,_,_=>by simp [flatA] at hf
 | .fn f nf cs,hf,_,_=>by simp [flatA] at hf
 | .mp ks vs,hf,_,_=>by simp [flatA] at hf
theorem flatAL_any:∀ (cs:List AV),flatAL cs=true→∀ (us:Array Value),(∀ (j:Nat) (x:AV) (u:Value),cs[j]?=some x→us[j]?=some u→VR A w x u)→∀ (j:Nat) (x:AV) (u:Value),cs[j]?=some x→us[j]?=some u→VR A' w' x u
 | [],_,us,_=>fun j x u hx _=>by simp at hx
 | c::cs,hf,us,hr=>fun j x u hx hu=>by
  rw [flatAL,Bool.and_eq_true] at hf
  cases j with
  | zero=>cases hx;exact flatA_any c hf.1 u (hr 0 c u rfl hu)
  | succ j=>
   refine flatAL_any cs hf.2 (us.extract 1 us.size) (fun j x u hx hu=>?_) j x u (by simpa using hx) ?_
   ·rw [Array.getElem?_extract] at hu
    split at hu
    ·rw [Nat.add_comm] at hu;exact hr (j+1) x u (by simpa using hx) hu
    ·cases hu
   ·have hj:=(Array.getElem?_eq_some_iff.1 hu).1
    rw [Array.getElem?_extract,if_pos (by omega),Nat.add_comm]
    exact hu
end
mutual
theorem flatS_any:∀ (x:SV),flatS x=true→∀ (v:Value),SR A L w x v→SR A' L' w' x v
 | .t x,hf,v,h=>by cases h with|t _ _ h=>exact .t _ _ (flatA_any x (by rw [flatS] at hf;exact hf) v h)
 | .nil,_,v,h=>by cases h;exact .nil
 | .agg cs,hf,v,h=>by
  cases h with
  | agg _ us hl hr=>exact .agg _ _ hl (flatSL_any cs (by rw [flatS] at hf;exact hf) us hr)
 | .tup cs,hf,v,h=>by
  cases h with
  | tup _ us hl hr=>exact .tup _ _ hl (flatSL_any cs (by rw [flatS] at hf;exact hf) us hr)
 | .tc es,hf,_,_=>by simp [flatS] at hf
 | .nn es,hf,_,_=>by simp [flatS] at hf
 | .lp i j,hf,_,_=>by simp [flatS] at hf
 | .ls i,hf,_,_=>by simp [flatS] at hf
 | .lv i sz a n,hf,_,_=>by simp [flatS] at hf
 | .le i sz k j,hf,_,_=>by simp [flatS] at hf
 | .lm i,hf,_,_=>by simp [flatS] at hf
 | .lo i p,hf,_,_=>by simp [flatS] at hf
 | .lr i p k,hf,_,_=>by simp [flatS] at hf
 | .fn f nf cs,hf,_,_=>by simp [flatS] at hf
 | .yes s,hf,_,_=>by simp [flatS] at hf
 | .no,hf,_,_=>by simp [flatS] at hf
 | .dead,hf,_,_=>by simp [flatS] at hf
theorem flatSL_any:∀ (cs:List SV),flatSL cs=true→∀ (us:Array Value),(∀ (j:Nat) (x:SV) (u:Value),cs[j]?=some x→us[j]?=some u→SR A L w x u)→∀ (j:Nat) (x:SV) (u:Value),cs[j]?=some x→us[j]?=some u→SR A' L' w' x u
 | [],_,us,_=>fun j x u hx _=>by simp at hx
 | c::cs,hf,us,hr=>fun j x u hx hu=>by
  rw [flatSL,Bool.and_eq_true] at hf
  cases j with
  | zero=>cases hx;exact flatS_any c hf.1 u (hr 0 c u rfl hu)
  | succ j=>
   refine flatSL_any cs hf.2 (us.extract 1 us.size) (fun j x u hx hu=>?_) j x u (by simpa using hx) ?_
   ·rw [Array.getElem?_extract] at hu
    split at hu
    ·rw [Nat.add_comm] at hu;exact hr (j+1) x u (by simpa using hx) hu
    ·cases hu
   ·have hj:=(Array.getElem?_eq_some_iff.1 hu).1
    rw [Array.getElem?_extract,if_pos (by omega),Nat.add_comm]
    exact hu
end
theorem SR.norefs (hA:∀ b,b < w.heap.size→A b→A' b∧w'.heap[b]?=w.heap[b]?) (hs:w.heap.size≤w'.heap.size) {x:SV} {v:Value} (h:SR A L w x v):x.refs=[]→SR A' L' w' x v:=by
 have key:∀ {cs:List SV},SV.refsL cs=[]→∀ (j:Nat) (c:SV),cs[j]?=some c→c.refs=[]:=fun {cs}=>by
  induction cs with
  | nil=>intro _ j c hj;simp at hj
  | cons d ds ih=>
   intro hr j c hj
   rw [SV.refsL,List.append_eq_nil_iff] at hr
   cases j with
   | zero=>cases hj;exact hr.1
   | succ j=>exact ih hr.2 j c (by simpa using hj)
 induction h with
 | t x v h=>intro _;exact .t x v (VR.on hs hA h)
 | nil=>intro _;exact .nil
 | tc es a h=>intro _;exact .tc es a (VR.on hs hA h)
 | nn es a c h=>intro _;exact .nn es a c (VR.on hs hA h)
 | agg cs us hl hr ih=>intro hx;rw [SV.refs] at hx;exact .agg cs us hl fun j x u h1 h2=>ih j x u h1 h2 (key hx j x h1)
 | tup cs us hl hr ih=>intro hx;rw [SV.refs] at hx;exact .tup cs us hl fun j x u h1 h2=>ih j x u h1 h2 (key hx j x h1)
 | fn f cs fs us hl hr ih=>intro hx;rw [SV.refs] at hx;exact .fn f cs fs us hl fun j x u h1 h2=>ih j x u h1 h2 (key hx j x h1)
 | yes x v h ih=>intro hx;rw [SV.refs] at hx;exact .yes x v (ih hx)
 | no=>intro _;exact .no
 | dead v=>intro _;exact .dead v
 | lp=>intro hx;rw [SV.refs] at hx;cases hx
 | ls=>intro hx;rw [SV.refs] at hx;cases hx
 | lv=>intro hx;rw [SV.refs] at hx;cases hx
 | le=>intro hx;rw [SV.refs] at hx;cases hx
 | lm=>intro hx;rw [SV.refs] at hx;cases hx
 | lo=>intro hx;rw [SV.refs] at hx;cases hx
 | lr=>intro hx;rw [SV.refs] at hx;cases hx
end
def Known (P : Program) (f : FuncId) : Prop := ∃ fn, P.funcs[f]? = some fn ∧ (fn.name == "runtime.NumGoroutine") = false ∧ fn.body.isNone = false
theorem run_callFunc {P:Program} {f:FuncId} (h:Known P f) (args:Array Value) (w:World):(callFunc f args).run P w=.ok (.enter f args) w:=by
 obtain ⟨fn,h1,h2,h3⟩:=h
 have h2' : ¬ fn.name = "runtime.NumGoroutine" := by simpa using h2
 have h3':¬ fn.body=none:=by intro h;rw [h] at h3;cases h3
 simp [callFunc,program,Sem.run_bind,Sem.run,Result.andThen_ok,h1,h2',h3']
def CallSnd (P:Program) (γ:Glob) (C:CallF):Prop:=∀ (f:Nat) (args:List SV) (fr:Fr) (r:SV) (fr':Fr),C f args fr=some (r,fr')→Known P f∧∀ (κ:Ctx) (w:World) (us:Array Value),Core γ κ fr κ.L w→κ.W=w→us.size=args.length→(∀ (j:Nat) (x:SV) (u:Value),args[j]?=some x→us[j]?=some u→SR (MA κ.M fr κ.L) κ.L w x u)→
 Calls P f us w fun e w'=>∃ v L',e=.returned v∧Core γ κ fr' L' w'∧SR (MA κ.M fr' L') L' w' r v
section
variable {P:Program} {γ:Glob} {κ:Ctx} {fr:Fr} {L:Ls} {w:World}
theorem Core.pure (hC:Core γ κ fr L w) (M:Nat→Prop) (hM:∀ b,w.heap.size≤b→M b):Core γ ⟨M,fun _=>False,fun _=>False,w,fun _=>none⟩ [] (fun _=>none) w where
 glob:=hC.glob
 gn:=Nat.le_trans hC.gn hC.size
 gx:=fun _ h=>h.elim
 fresh:=hM
 os:=rfl
 tape:=rfl
 output:=rfl
 size:=Nat.le_refl _
 kept:=fun _ _ _=>rfl
 lim:=fun _ _ h=>by cases h
 new:=fun _ _ _ _ h=>by cases h
 dis:=fun _ _ _ _ _ h=>by cases h
 hand:=fun _ _ h=>by cases h
 blk:=fun i lb h=>by simp at h
theorem mixArgs_ok {A A':Nat→Prop} {L':Ls} {σ:Nat→Option Nat}:∀ (hl:List Bool) (args:List SV) (xs:List AV) (us:List Value),hl.length=args.length→args.length=us.length→(treeArgs hl args).length=xs.length→(∀ (j:Nat) (s:SV) (u:Value),args[j]?=some s→us[j]?=some u→SR A L w s u)→(∀ s v,SR A L w s v→SR A' L' w (s.sub σ) v)→(∀ (j:Nat) (s:SV) (x:AV) (v:Value),(treeArgs hl args)[j]?=some s→xs[j]?=some x→SR A L w s v→VR A' w x v)→
  (mixArgs σ hl args xs).length=us.length∧∀ (j:Nat) (s:SV) (u:Value),(mixArgs σ hl args xs)[j]?=some s→us[j]?=some u→SR A' L' w s u
 | [],[],xs,us,_,h2,_,_,_,_=>by
  have:us=[]:=List.eq_nil_of_length_eq_zero h2.symm
  subst this
  exact ⟨by simp [mixArgs],fun j s u hs=>by simp [mixArgs] at hs⟩
 | true::hl,s::args,xs,us,h1,h2,h3,h4,h5,h6=>by
  cases us with
  | nil=>simp at h2
  | cons u us=>
   obtain ⟨a1,a2⟩:=mixArgs_ok hl args xs us (by simpa using h1) (by simpa using h2) h3 (fun j s u hs hu=>h4 (j+1) s u (by simpa using hs) (by simpa using hu)) h5 h6
   refine ⟨by rw [mixArgs];simp [a1],fun j s' u' hs hu=>?_⟩
   rw [mixArgs] at hs
   cases j with
   | zero=>cases hs;cases hu;exact h5 s u (h4 0 s u rfl rfl)
   | succ j=>exact a2 j s' u' (by simpa using hs) (by simpa using hu)
 | false::hl,s::args,xs,us,h1,h2,h3,h4,h5,h6=>by
  cases us with
  | nil=>simp at h2
  | cons u us=>
   rw [treeArgs] at h3 h6
   cases xs with
   | nil=>simp at h3
   | cons x xs=>
    obtain ⟨a1,a2⟩:=mixArgs_ok hl args xs us (by simpa using h1) (by simpa using h2) (by simpa using h3) (fun j s u hs hu=>h4 (j+1) s u (by simpa using hs) (by simpa using hu)) h5 fun j s x v hs hx hv=>h6 (j+1) s x v (by simpa using hs) (by simpa using hx) hv
    refine ⟨by rw [mixArgs];simp [a1],fun j s' u' hs hu=>?_⟩
    rw [mixArgs] at hs
    cases j with
    | zero=>cases hs;cases hu;exact .t _ _ (h6 0 s x u rfl rfl (h4 0 s u rfl rfl))
    | succ j=>exact a2 j s' u' (by simpa using hs) (by simpa using hu)
 | [],_::_,_,_,h1,_,_,_,_,_=>by simp at h1
 | _::_,[],_,_,h1,_,_,_,_,_=>by simp at h1
theorem handL_len (g:Cfg) (f:Nat):∀ (args:List SV) (k:Nat),(handL g f k args).length=args.length
 | [],_=>rfl
 | s::r,k=>by rw [handL];simp [handL_len g f r]
theorem callS_ok {g:Cfg} {C:CallF} {dr:Bool} {f:Nat} {args:List SV} {x:SV} {fr':Fr} {ks:List Nat} (hS:CallSnd g.P γ C) (h:callS g C dr fr f args=some (x,fr',ks)) (hC:Core γ κ fr L w) (us:List Value) (hul:us.length=args.length) (hus:∀ (j:Nat) (s:SV) (u:Value),args[j]?=some s→us[j]?=some u→SR (MA κ.M fr L) L w s u) :
  Known g.P f∧Calls g.P f us.toArray w fun e w'=>∃ v,e=.returned v∧∃ L',Tr κ.M fr L w fr' L' w' ks∧Core γ κ fr' L' w'∧SR (MA κ.M fr' L') L' w' x v:=by
 unfold callS at h
 split at h
 ·cases h
 ·rename_i xs hxs
  split at h
  ·rename_i hh
   split at h
   ·cases h
   ·rename_i r ex hcall
    obtain ⟨hk,hcall⟩:=hS _ _ _ _ _ hcall
    refine ⟨hk,?_⟩
    have hnoSub:∀ (s:SV) (v:Value),SR (MA κ.M fr L) L w s v→True:=fun _ _ _=>trivial
    split at h
    ·-- the answer holds no address
     rename_i hflat
     cases h
     obtain ⟨x1,x2⟩:=toAVs_ok hC (A:=fun _=>True) (fun _ _=>trivial) _ _ hxs (fun _ _ _ _ _ _=>trivial)
     have hC0:=hC.pure (fun _=>True) (fun _ _=>trivial)
     obtain ⟨m1,m2⟩:=mixArgs_ok (L:=L) (w:=w) (A:=MA κ.M fr L) (A':=MA (fun _=>True) [] (fun _=>none)) (L':=fun _=>none) (σ:=idxσ []) (handL g f 0 args) args xs us (handL_len g f args 0) hul.symm x1 hus (fun s v hv=>SR.sub _ (Nat.le_refl _) (fun b _ _=>⟨⟨trivial,fun ⟨i,_,_,h,_⟩=>by cases h⟩,rfl⟩) (fun i j v hi=>by cases hi) hv) fun j s x v hs hx hv=>VR.on (Nat.le_refl _) (fun b _ _=>⟨⟨trivial,fun ⟨i,_,_,h,_⟩=>by cases h⟩,rfl⟩) (x2 j s x v hs hx hv)
     refine (hcall ⟨fun _=>True,fun _=>False,fun _=>False,w,fun _=>none⟩ w us.toArray hC0 rfl (by simpa using m1.symm) fun j s u hs hu=>m2 j s u hs (by simpa using hu)).mono ?_
     rintro e w' ⟨v,L',rfl,hC',hr⟩
     have hb:Below w.heap.size w w':=⟨hC'.os,hC'.tape,hC'.output,hC'.size,fun k hk=>hC'.kept k hk fun h=>h⟩
     exact ⟨v,rfl,L,Tr.below hb,hC.later hb,flatS_any _ hflat v hr⟩
    ·obtain ⟨hC1,hT1,hM1⟩:=hC.frz (rchs fr (treeArgs (handL g f 0 args) args))
     obtain ⟨x1,x2⟩:=toAVs_ok hC (A:=MA κ.M (freeze fr (rchs fr (treeArgs (handL g f 0 args) args))) L) hM1 _ _ hxs (frz_free hC)
     have hgn:getAll (freeze fr (rchs fr (treeArgs (handL g f 0 args) args))) []=some []:=rfl
     obtain ⟨hCh,hMh,hSh⟩:=hC1.handed (hs:=[]) List.nodup_nil hgn
     obtain ⟨m1,m2⟩:=mixArgs_ok (L:=L) (w:=w) (A:=MA κ.M fr L) (A':=MA (handCtx κ (freeze fr (rchs fr (treeArgs (handL g f 0 args) args))) L w []).M [] (handCtx κ (freeze fr (rchs fr (treeArgs (handL g f 0 args) args))) L w []).L) (L':=(handCtx κ (freeze fr (rchs fr (treeArgs (handL g f 0 args) args))) L w []).L) (σ:=idxσ []) (handL g f 0 args) args xs us (handL_len g f args 0) hul.symm x1 hus (fun s v hv=>hSh s v (hT1.sr hv)) fun j s x v hs hx hv=>VR.on (Nat.le_refl _) (fun b _ hb=>⟨hMh b hb,rfl⟩) (x2 j s x v hs hx hv)
     have hcalled:=hcall (handCtx κ (freeze fr (rchs fr (treeArgs (handL g f 0 args) args))) L w []) w us.toArray hCh rfl (by simpa using m1.symm) fun j s u hs hu=>m2 j s u hs (by simpa using hu)
     split at h
     ·-- in the text's order: what came back is taken into the list
      cases h
      refine hcalled.mono ?_
      rintro e w' ⟨v,L',rfl,hC',hr⟩
      obtain ⟨b1,b2,b3,b4⟩:=hC1.back List.nodup_nil hgn hC' rfl
      have e1:Go.Proofs.YtjdhnoffoknlnaaGreatDoor.back [] (freeze fr (rchs fr (treeArgs (handL g f 0 args) args))) ex=freeze fr (rchs fr (treeArgs (handL g f 0 args) args))++ex.map (fun b=>unTch (b.sub (backσ [] fr.length))):=by
       unfold Go.Proofs.YtjdhnoffoknlnaaGreatDoor.back
       rw [freeze_len]
       simp [layBack,touched,killFr]
      rw [freeze_len] at b1 b2 b4
      rw [e1] at b1 b2 b4
      exact ⟨v,rfl,_,(hT1.trans (ks:=[]) b2),b1,b4 _ v hr⟩
     ·-- drawn: as trees
      split at h
      ·rename_i hrs
       rw [hrs] at hcalled hC1
       have hMb:∀ {ex:Fr} {L':Ls} {b:Nat},MA (handCtx κ (freeze fr []) L w []).M ex L' b→MA κ.M fr L b:=fun {ex L' b} hm=>by
        rcases hm.1 with h|h|⟨i,hi,_⟩
        ·exact h
        ·exact ⟨hC.fresh b (Nat.le_trans hC.size h),fun ho=>by have:=(hC.own ho).1;omega⟩
        ·cases hi
       split at h
       ·rename_i hrr
        cases h
        refine hcalled.mono ?_
        rintro e w' ⟨v,L',rfl,hC',hr⟩
        have hb:Below w.heap.size w w':=⟨hC'.os,hC'.tape,hC'.output,hC'.size,fun k hk=>hC'.kept k hk fun ⟨i,hi,_⟩=>by cases hi⟩
        exact ⟨v,rfl,L,Tr.below hb,hC.later hb,SR.norefs (fun b _ hm=>⟨hMb hm,rfl⟩) (Nat.le_refl _) hr hrr⟩
       ·split at h
        ·rename_i y hy
         cases h
         refine hcalled.mono ?_
         rintro e w' ⟨v,L',rfl,hC',hr⟩
         have hb:Below w.heap.size w w':=⟨hC'.os,hC'.tape,hC'.output,hC'.size,fun k hk=>hC'.kept k hk fun ⟨i,hi,_⟩=>by cases hi⟩
         refine ⟨v,rfl,L,Tr.below hb,hC.later hb,.t _ _ ((toAV_ok hC' (A:=MA κ.M fr L) (fun b hm=>hMb hm) deep).1 r y v hy (fun i _ u b hu hub=>?_) hr)⟩
         have hil:=hC'.lim i u hu
         rcases (hC'.new i u b ex[i] hu hub (List.getElem?_eq_getElem hil)).2.2.1 with h|⟨k,hk,_⟩
         ·exact ⟨hC.fresh b (Nat.le_trans hC.size h),fun ho=>by have:=(hC.own ho).1;have h':w.heap.size≤b:=h;omega⟩
         ·cases hk
        ·cases h
      ·cases h
  ·rename_i h0 ht hh
   split at h
   ·cases h
   ·simp only at h
    split at h
    ·cases h
    ·rename_i bs hbs
     split at h
     ·cases h
     ·split at h
      ·cases h
      ·rename_i r fr2 hcall
       split at h
       ·cases h
       ·rename_i hkind
        cases h
        obtain ⟨hk,hcall⟩:=hS _ _ _ _ _ hcall
        refine ⟨hk,?_⟩
        have hnd:(close fr 4 (h0::ht)).Nodup:=close_nodup _ _ _ (by rw [← hh];exact dedup_nodup _ _ List.nodup_nil)
        obtain ⟨hC1,hT1,hM1⟩:=hC.frz (rchs fr (treeArgs (handL g f 0 args) args))
        obtain ⟨x1,x2⟩:=toAVs_ok hC (A:=MA κ.M (freeze fr (rchs fr (treeArgs (handL g f 0 args) args))) L) hM1 _ _ hxs (frz_free hC)
        obtain ⟨hCh,hMh,hSh⟩:=hC1.handed hnd hbs
        obtain ⟨m1,m2⟩:=mixArgs_ok (L:=L) (w:=w) (A:=MA κ.M fr L) (A':=MA (handCtx κ (freeze fr (rchs fr (treeArgs (handL g f 0 args) args))) L w (close fr 4 (h0::ht))).M (bs.map fun b=>unTch (b.sub (idxσ (close fr 4 (h0::ht))))) (handCtx κ (freeze fr (rchs fr (treeArgs (handL g f 0 args) args))) L w (close fr 4 (h0::ht))).L) (L':=(handCtx κ (freeze fr (rchs fr (treeArgs (handL g f 0 args) args))) L w (close fr 4 (h0::ht))).L) (σ:=idxσ (close fr 4 (h0::ht))) (handL g f 0 args) args xs us (handL_len g f args 0) hul.symm x1 hus (fun s v hv=>hSh s v (hT1.sr hv)) fun j s x v hs hx hv=>VR.on (Nat.le_refl _) (fun b _ hb=>⟨hMh b hb,rfl⟩) (x2 j s x v hs hx hv)
        refine (hcall (handCtx κ (freeze fr (rchs fr (treeArgs (handL g f 0 args) args))) L w (close fr 4 (h0::ht))) w us.toArray hCh rfl (by simpa using m1.symm) fun j s u hs hu=>m2 j s u hs (by simpa using hu)).mono ?_
        rintro e w' ⟨v,L',rfl,hC',hr⟩
        obtain ⟨b1,b2,b3,b4⟩:=hC1.back hnd hbs hC' hkind
        rw [freeze_len] at b1 b2 b4
        exact ⟨v,rfl,_,((hT1.weaken fun i hi=>by cases hi).trans b2),b1,b4 _ v hr⟩
end
end Go.Proofs.YtjdhnoffoknlnaaGreatDoor
namespace Go.Proofs.YtjdhnoffoknlnaaGreatDoor
open Go.RowKit
def isLd:Obj→Bool
 | .deferred _=>true
 | .loop _=>true
 | .mapIter ..=>true
 | _=>false
structure Lq (B:Nat) (w w':World):Prop where
 os:w'.os=w.os
 tape:w'.tape=w.tape
 output:w'.output=w.output
 size:w'.heap.size=w.heap.size
 blk:∀ b,w'.heap[b]?=w.heap[b]?∨(B≤b∧∃ o,w.heap[b]?=some o∧isLd o=true)
theorem Lq.refl {B:Nat} {w:World}:Lq B w w:=⟨rfl,rfl,rfl,rfl,fun _=>.inl rfl⟩
theorem Lq.put {B:Nat} {w:World} {b:Nat} {o o':Obj} (hB:B≤b) (h:w.heap[b]?=some o) (ho:isLd o=true):Lq B w (w.putObj b o'):=
 ⟨rfl,rfl,rfl,by simp [World.putObj],fun k=>by
  by_cases hk:k=b
  ·subst hk;exact .inr ⟨hB,o,h,ho⟩
  ·exact .inl (World.putObj_heap_other hk)⟩
theorem Lq.trans {B:Nat} {w w' w'':World} (h:Lq B w w') (k:Lq B w' w'') (hs:∀ (b:Nat) (o:Obj),w.heap[b]?=some o→isLd o=true→∃ o',w'.heap[b]?=some o'∧isLd o'=true):Lq B w w'':=
 ⟨k.os.trans h.os,k.tape.trans h.tape,k.output.trans h.output,k.size.trans h.size,fun b=>by
  rcases h.blk b with h1|⟨hB,o,h1,h2⟩
  ·rcases k.blk b with h3|⟨hB,o,h3,h4⟩
   ·exact .inl (h3.trans h1)
   ·exact .inr ⟨hB,o,by rw [← h1];exact h3,h4⟩
  ·exact .inr ⟨hB,o,h1,h2⟩⟩
section
variable {B:Nat} {w w':World}
theorem Lq.keep (h:Lq B w w') {b:Nat} {o:Obj} (hb:w.heap[b]?=some o) (ho:isLd o=false):w'.heap[b]?=w.heap[b]?:=by
 rcases h.blk b with h1|⟨_,o',h1,h2⟩
 ·exact h1
 ·rw [hb] at h1;cases h1;rw [ho] at h2;cases h2
theorem cell_obj {w:World} {a:Addr} {v:Value} (h:w.cell? a=some v):∃ o,w.heap[a.block]?=some o∧isLd o=false:=by
 unfold World.cell? at h
 cases hx:w.heap[a.block]? with
 | none=>rw [hx] at h;simp at h
 | some o=>
  rw [hx] at h
  refine ⟨o,rfl,?_⟩
  cases o <;> simp_all [isLd]
theorem Lq.cell (h:Lq B w w') {a:Addr} {v:Value} (hc:w.cell? a=some v):w'.cell? a=some v:=by
 obtain ⟨o,h1,h2⟩:=cell_obj hc
 obtain ⟨b,p,s⟩:=a
 rw [World.cell?_of_block (w:=w) (h.keep h1 h2)]
 exact hc
theorem VR.lq {M:Nat→Prop} (hq:Lq B w w') {x:AV} {v:Value} (h:VR M w x v):VR M w' x v:=by
 induction h with
 | int k n=>exact .int k n
 | bool b=>exact .bool b
 | str s=>exact .str s
 | arr0 A c=>exact .arr0 A c
 | arr b o c sz es us hne hlen hcap hb hMb hsz hc hr ih=>exact .arr b o c sz es us hne hlen hcap (by rw [hq.size];exact hb) hMb hsz (fun k j hk hj=>hq.cell (hc k j hk hj)) ih
 | tp b o cs us hne hb hMb hc hr ih=>exact .tp b o cs us hne (by rw [hq.size];exact hb) hMb (fun j hj=>hq.cell (hc j hj)) ih
 | agg cs us hl hr ih=>exact .agg cs us hl ih
 | tup cs us hl hr ih=>exact .tup cs us hl ih
 | fn f cs fs us hl hr ih=>exact .fn f cs fs us hl ih
 | mp r ks vs ents clock hb hMb hh hk hv hrk hrv ihk ihv=>exact .mp r ks vs ents clock (by rw [hq.size];exact hb) hMb (by rw [hq.keep hh rfl];exact hh) hk hv ihk ihv
 | lit v h=>exact .lit v h
 | ifn t v=>exact .ifn t v
theorem SR.lq {A:Nat→Prop} {L:Ls} (hq:Lq B w w') {x:SV} {v:Value} (h:SR A L w x v):SR A L w' x v:=by
 induction h with
 | t x v h=>exact .t x v (h.lq hq)
 | nil=>exact .nil
 | tc es a h=>exact .tc es a (h.lq hq)
 | nn es a c h=>exact .nn es a c (h.lq hq)
 | lp i j g h=>exact .lp i j g h
 | ls i v h hp=>exact .ls i v h hp
 | lv i sz a n b m c h=>exact .lv i sz a n b m c h
 | le i sz k j b m c h=>exact .le i sz k j b m c h
 | lm i r h=>exact .lm i r h
 | lo i p t v h hv hp=>exact .lo i p t v h hv hp
 | lr i p k b n c t h hv=>exact .lr i p k b n c t h hv
 | agg cs us hl hr ih=>exact .agg cs us hl ih
 | tup cs us hl hr ih=>exact .tup cs us hl ih
 | fn f cs fs us hl hr ih=>exact .fn f cs fs us hl ih
 | yes x v h ih=>exact .yes x v ih
 | no=>exact .no
 | dead v=>exact .dead v
theorem row_obj {T:TypeId} {sz n:Nat} {v:Value} {us:List Value} (h:RowIs w T sz v n us) {k:Nat} (hk:blkOf v=some k):∃ o,w.heap[k]?=some o∧isLd o=false:=by
 rcases h with ⟨_,_,a,rfl⟩|h
 ·cases a <;> cases hk
 ·rcases h.2 with ⟨rfl,h0⟩|⟨g,cap,cur,rfl,hbg,hgg,hnc,hcm,hcs,htk⟩
  ·cases hk
  ·cases cap with
   | zero=>cases hk
   | succ c=>cases hk;exact ⟨_,hgg,rfl⟩
theorem LbOk.lq {A:Nat→Prop} {L:Ls} (hq:Lq B w w') {i:Nat} {b:Lb} (h:LbOk A L w i b):LbOk A L w' i b:=by
 cases b with
 | box ro T cs=>
  obtain ⟨g,us,h1,h2,h3,h4⟩:=h
  exact ⟨g,us,h1,by rw [hq.keep h2 rfl];exact h2,h3,fun j x u hx hu=>(h4 j x u hx hu).lq hq⟩
 | row ro tch sz es=>
  obtain ⟨T,v,us,h1,h2,h2',h3,h4⟩:=h
  refine ⟨T,v,us,h1,h2.same fun k hk=>?_,h2',h3,fun k j cs x hk hj=>?_⟩
  ·obtain ⟨o,h5,h6⟩:=row_obj h2 hk
   exact hq.keep h5 h6
  ·obtain ⟨u,h5,h6⟩:=h4 k j cs x hk hj
   exact ⟨u,h5,h6.lq hq⟩
 | map ro ks vs=>
  obtain ⟨r,ents,clock,h1,h2,h3,h4,h5,h6,h7⟩:=h
  exact ⟨r,ents,clock,h1,by rw [hq.keep h2 rfl];exact h2,h3,h4,fun j x u hx hu=>(h5 j x u hx hu).lq hq,fun j x u hx hu=>(h6 j x u hx hu).lq hq,h7⟩
 | own ro x=>
  obtain ⟨v,t,h1,h2⟩:=h
  refine ⟨v,t,h1,h2.same fun b hb=>?_⟩
  obtain ⟨_,cs,T,h5⟩:=h2.lt b hb
  exact hq.keep h5 rfl
variable {γ:Glob} {κ:Ctx} {fr:Fr} {L:Ls}
theorem Core.lq (hq:Lq κ.W.heap.size w w') (h:Core γ κ fr L w):Core γ κ fr L w' where
 glob:=γ.stays _ _ h.glob fun k hk=>by
  rcases hq.blk k with h1|⟨hB,_⟩
  ·exact h1
  ·have:=h.gn;omega
 gn:=h.gn
 gx:=h.gx
 fresh:=h.fresh
 os:=hq.os.trans h.os
 tape:=hq.tape.trans h.tape
 output:=hq.output.trans h.output
 size:=by rw [hq.size];exact h.size
 kept:=fun k hk hx=>by
  rcases hq.blk k with h1|⟨hB,_⟩
  ·exact h1.trans (h.kept k hk hx)
  ·omega
 lim:=h.lim
 new:=fun i v b lb h1 h2 h3=>by rw [hq.size];exact h.new i v b lb h1 h2 h3
 dis:=h.dis
 hand:=h.hand
 blk:=fun i lb hi=>(h.blk i lb hi).lq hq
theorem Core.mark (h:Core γ κ fr L w) {D:Nat} {o:Obj} (hge:κ.W.heap.size≤D) (hD:w.heap[D]?=some o) (ho:isLd o=true):MA κ.M fr L D:=by
 refine ⟨h.fresh D hge,fun ⟨i,v,lb,h1,h2,h3,_⟩=>?_⟩
 have hb:=h.blk i lb h3
 cases lb with
 | box ro T cs=>
  obtain ⟨g,us,h4,h5,_⟩:=hb
  rw [h1] at h4;cases h4;cases h2.of rfl
  rw [hD] at h5;cases h5;cases ho
 | row ro tch sz es=>
  obtain ⟨T,v',us,h4,h5,_⟩:=hb
  rw [h1] at h4;cases h4
  obtain ⟨o',h6,h7⟩:=row_obj h5 (h2.of (by obtain ⟨_,_,rfl⟩:=h5.form;rfl))
  rw [hD] at h6;cases h6;rw [ho] at h7;cases h7
 | map ro ks vs=>
  obtain ⟨r,ents,clock,h4,h5,_⟩:=hb
  rw [h1] at h4;cases h4;cases h2.of rfl
  rw [hD] at h5;cases h5;cases ho
 | own ro x=>
  obtain ⟨v',t,h4,h6⟩:=hb
  rw [h1] at h4;cases h4
  obtain ⟨_,cs,T,h7⟩:=h6.lt D h2
  rw [hD] at h7;cases h7;cases ho
def Marks (κ:Ctx) (w:World) (ds:List Deferred):Prop:=(∃ Ds:List Nat,Ds.Nodup∧ds=Ds.map (fun D=>{ target:=.collected D,args:=#[] })∧∀ D∈Ds,κ.W.heap.size≤D∧w.heap[D]?=some (.deferred (some [])))∧(κ.H κ.W.heap.size→ds=[])
theorem Marks.nil:Marks κ w []:=⟨⟨[],List.nodup_nil,rfl,fun D h=>by cases h⟩,fun _=>rfl⟩
theorem Marks.tr {fr':Fr} {L':Ls} {ks:List Nat} {ds:List Deferred} (h:Marks κ w ds) (hC:Core γ κ fr L w) (hT:Tr κ.M fr L w fr' L' w' ks):Marks κ w' ds:=by
 obtain ⟨⟨Ds,h1,h2,h3⟩,h4⟩:=h
 refine ⟨⟨Ds,h1,h2,fun D hD=>⟨(h3 D hD).1,?_⟩⟩,h4⟩
 have hlt:=(Array.getElem?_eq_some_iff.1 (h3 D hD).2).1
 rw [(hT.same D hlt (hC.mark (h3 D hD).1 (h3 D hD).2 rfl)).2]
 exact (h3 D hD).2
theorem leaves_marks {F:Fence} {n:Nat} {P:Program} {fn:Func} {tmps:Array Value} {R:Ending→World→Prop} {B:Nat}:∀ (Ds:List Nat) (w:World),Ds.Nodup→(∀ D∈Ds,B≤D∧w.heap[D]?=some (.deferred (some [])))→
  (∀ w',Lq B w w'→∃ v,(results fn tmps).run P w'=.ok v w'∧R (.returned v) w')→LeavesInM F n P fn tmps R (Ds.map (fun D=>{ target:=.collected D,args:=#[] })) .returning w
 | [],w,_,_,h=>h w Lq.refl
 | D::Ds,w,hn,hD,h=>by
  have h0:=hD D (by simp)
  refine ⟨by simp,.inl ⟨D,_,rfl,run_takeDeferred h0.2,?_⟩⟩
  refine leaves_marks (B:=B) Ds _ (List.nodup_cons.1 hn).2 (fun E hE=>?_) fun w' hq=>h w' ?_
  ·have hne:E≠D:=fun e=>(List.nodup_cons.1 hn).1 (by rw [← e];exact hE)
   have:=hD E (by simp [hE])
   exact ⟨this.1,(World.putObj_heap_other hne).trans this.2⟩
  ·refine (Lq.put h0.1 h0.2 rfl).trans hq fun b o hb ho=>?_
   by_cases hbD:b=D
   ·subst hbD
    exact ⟨_,World.putObj_heap_same (Array.getElem?_eq_some_iff.1 h0.2).1,rfl⟩
   ·exact ⟨o,(World.putObj_heap_other hbD).trans hb,ho⟩
end
end Go.Proofs.YtjdhnoffoknlnaaGreatDoor
namespace Go.Proofs.YtjdhnoffoknlnaaGreatDoor
open Go.RowKit
section
variable {P:Program} {γ:Glob} {κ:Ctx} {fr:Fr} {L:Ls} {w:World}
theorem calleeS_ok {A:Nat→Prop} {s:SV} {v:Value} {f:Nat} {ps bs:List SV} (h:calleeS s=some (f,ps,bs)) (hs:SR A L w s v):∃ fs us:Array Value,v=.func (.func f) fs us∧ps.length=fs.size∧bs.length=us.size∧(∀ (j:Nat) (x:SV) (u:Value),ps[j]?=some x→fs[j]?=some u→SR A L w x u)∧∀ (j:Nat) (x:SV) (u:Value),bs[j]?=some x→us[j]?=some u→SR A L w x u:=by
 have key:∀ {cs:List SV} {fs us:Array Value},(fs++us).size=cs.length→(∀ (j:Nat) (x:SV) (u:Value),cs[j]?=some x→(fs++us)[j]?=some u→SR A L w x u)→(cs.take fs.size).length=fs.size∧(cs.drop fs.size).length=us.size∧(∀ (j:Nat) (x:SV) (u:Value),(cs.take fs.size)[j]?=some x→fs[j]?=some u→SR A L w x u)∧∀ (j:Nat) (x:SV) (u:Value),(cs.drop fs.size)[j]?=some x→us[j]?=some u→SR A L w x u:=fun {cs fs us} hl hr=>by
  rw [Array.size_append] at hl
  refine ⟨by rw [List.length_take];omega,by rw [List.length_drop];omega,fun j x u hx hu=>?_,fun j x u hx hu=>?_⟩
  ·have hj:=(Array.getElem?_eq_some_iff.1 hu).1
   rw [List.getElem?_take,if_pos hj] at hx
   exact hr j x u hx (by rw [Array.getElem?_append_left hj];exact hu)
  ·rw [List.getElem?_drop] at hx
   exact hr _ x u hx (by rw [Array.getElem?_append_right (by omega),Nat.add_sub_cancel_left];exact hu)
 unfold calleeS at h
 split at h
 ·rename_i f' nf cs
  cases h
  cases hs with
  | t _ _ hs=>
   cases hs with
   | fn _ _ fs us hl hr=>
    have hl':(fs++us).size=(cs.map SV.t).length:=by rw [List.length_map];exact hl
    have:=key (cs:=cs.map .t) (fs:=fs) (us:=us) hl' fun j x u hx hu=>by
     rw [List.getElem?_map] at hx
     cases hc:cs[j]? with
     | none=>rw [hc] at hx;cases hx
     | some c=>rw [hc] at hx;cases hx;exact .t _ _ (hr j c u hc hu)
    rw [← List.map_take,← List.map_drop] at this
    exact ⟨fs,us,rfl,this⟩
 ·rename_i f' nf cs
  cases h
  cases hs with
  | fn _ _ fs us hl hr=>exact ⟨fs,us,rfl,key hl hr⟩
 ·cases h
theorem call_ok {g:Cfg} {C:CallF} {dr:Bool} {env:Env} {dst:Option Tmp} {ty:TypeId} {pos:String} {after:Array Edge} {gd:Option (Nat×Bool)} {c:Operand} {args:Array Operand} {tys:Array TypeId} {x:SV} {fr':Fr} {ks:List Nat} (hS:CallSnd g.P γ C) (h:callE g C dr env fr c args.toList=some (x,fr',ks)) :
  OpOk g.P γ env fr ⟨dst,.call ⟨.value c,args,tys⟩,ty,pos,after,gd⟩ x fr' ks:=fun κ L a w hC hop=>by
 unfold callE at h
 split at h
 ·cases h
 ·rename_i f ps bs hcal
  obtain ⟨fs,us,hv,hal,hbl,har,hbr⟩:=calleeS_ok hcal (rd_ok (hop c (by simp [Op.operands,Call.operands])))
  have hargs:∀ (j:Nat) (s:SV) (u:Value),(args.toList.map (rd env))[j]?=some s→(args.toList.map a.eval)[j]?=some u→SR (MA κ.M fr L) L w s u:=fun j s u hs hu=>by
   rw [List.getElem?_map] at hs hu
   cases hy:args.toList[j]? with
   | none=>rw [hy] at hs;cases hs
   | some y=>
    rw [hy] at hs hu;cases hs;cases hu
    exact rd_ok (hop y (by simp [Op.operands,Call.operands];exact .inr (by simpa using List.mem_of_getElem? hy)))
  obtain ⟨hk,hcall⟩:=callS_ok hS h hC (fs.toList++args.toList.map a.eval++us.toList) (by simp [hal,hbl]) fun j s u hs hu=>by
   rcases Nat.lt_or_ge j (ps++args.toList.map (rd env)).length with h1|h1
   ·rw [List.getElem?_append_left h1] at hs
    rw [List.getElem?_append_left (by simp at h1 ⊢;omega)] at hu
    rcases Nat.lt_or_ge j ps.length with h2|h2
    ·rw [List.getElem?_append_left h2] at hs
     rw [List.getElem?_append_left (by simp;omega),Array.getElem?_toList] at hu
     exact har j s u hs hu
    ·rw [List.getElem?_append_right h2] at hs
     rw [List.getElem?_append_right (by simp;omega),Array.length_toList,← hal] at hu
     exact hargs _ s u hs hu
   ·rw [List.getElem?_append_right h1] at hs
    have e:(fs.toList++args.toList.map a.eval).length=(ps++args.toList.map (rd env)).length:=by simp [hal]
    rw [List.getElem?_append_right (by omega),e,Array.getElem?_toList] at hu
    exact hbr _ s u hs hu
  refine .enter (f:=f) (args:=(fs.toList++args.toList.map a.eval++us.toList).toArray) ?_ (hcall.mono ?_)
  ·have e:(execOp a.eval ⟨dst,.call ⟨.value c,args,tys⟩,ty,pos,after,gd⟩).run g.P w=(callFunc f ((fs++args.map a.eval)++us)).run g.P w:=by
    simp [execOp,resolve,Deferred.ofValue,hv,invoke,Sem.run_bind,pure,Sem.run]
   rw [e,run_callFunc hk]
   congr 2
   apply Array.ext'
   simp
  ·rintro e w' ⟨v,rfl,L',h1,h2,h3⟩
   exact ⟨v,rfl,L',h1,h2,h3⟩
theorem evW_ok {g:Cfg} {C:CallF} {dr:Bool} {env:Env} {o:Oper} {x:SV} {fr':Fr} {ks:List Nat} (hS:CallSnd g.P γ C) (h:evW g C dr env fr o.op=some (x,fr',ks)):OpOk g.P γ env fr o x fr' ks:=by
 obtain ⟨dst,op,ty,pos,after,gd⟩:=o
 simp only at h
 unfold evW at h
 split at h
 ·split at h
  ·rename_i hz;cases h;exact alloc_ok hz
  ·cases h
 ·split at h
  ·rename_i hz;cases h;exact box_ok hz
  ·cases h
 ·exact store_ok h
 ·split at h
  ·exact makeT_ok h
  ·exact make_ok h
 ·cases h;exact makeMap_ok
 ·exact insertE_ok (.inl rfl) h
 ·exact insertE_ok (.inr rfl) h
 ·rename_i t len parts
  split at h
  ·rename_i hp
   split at h
   ·rename_i ht;cases h;exact lit0_ok ht hp
   ·cases h
  ·cases h
 ·exact call_ok hS h
 ·split at h
  ·rename_i s y t u hargs htys
   split at h
   ·rename_i htu
    obtain rfl:t=u:=by simpa using htu
    exact append_ok hargs htys h
   ·cases h
  ·cases h
 ·split at h
  ·rename_i x y t u hargs htys
   exact copy_ok hargs htys h
  ·cases h
 ·cases h
theorem withFr_ok {o:Option SV} {fr:Fr} {x:SV} {fr':Fr} {ks:List Nat} (h:withFr fr o=some (x,fr',ks)):o=some x∧fr'=fr∧ks=[]:=by
 unfold withFr at h
 split at h
 ·cases h;exact ⟨rfl,rfl,rfl⟩
 ·cases h
theorem upd_same (e:Env) (d:Nat) (v:SV):upd e d v d=v:=by unfold upd;simp
theorem upd_ne {e:Env} {d t:Nat} {v:SV} (h:t≠d):upd e d v t=e t:=by
 unfold upd
 have:Nat.beq t d=false:=by rw [← Bool.not_eq_true,Nat.beq_eq];exact h
 rw [this]
theorem tmpsL_mem:∀ (l:List Operand) (t:Nat),t∈tmpsL l→Operand.tmp t∈l
 | [],t,h=>by unfold tmpsL at h;simp at h
 | y::l,t,h=>by
  unfold tmpsL at h
  split at h
  ·rename_i e;cases e
  ·rename_i u r e
   cases e
   rcases List.mem_cons.1 h with rfl|h
   ·exact List.mem_cons_self
   ·exact List.mem_cons_of_mem _ (tmpsL_mem _ t h)
  ·rename_i r _ e
   cases e
   exact List.mem_cons_of_mem _ (tmpsL_mem _ t h)
theorem treeEnv_ok {A:Nat→Prop} {L:Ls} {w:World} {env:Env} {val:Nat→Value} {t:Nat} (hb:SR A L w (env t) (val t)):∀ (ts:List Nat) (xs:List AV),(∀ (j u:Nat) (x:AV),ts[j]?=some u→xs[j]?=some x→VR A w x (val u))→SR A L w (treeEnv env ts xs t) (val t)
 | [],xs,_=>by unfold treeEnv;exact hb
 | u::ts,[],_=>by unfold treeEnv;exact hb
 | u::ts,x::xs,h=>by
  unfold treeEnv
  by_cases e:t=u
  ·subst e;rw [upd_same];exact .t _ _ (h 0 t x rfl rfl)
  ·rw [upd_ne e];exact treeEnv_ok hb ts xs fun j v y h1 h2=>h (j+1) v y h1 h2
theorem evF_ok {P:Program} {env:Env} {o:Oper} {x:SV} {fr':Fr} {ks:List Nat} (h:evF P env fr o.op=some (x,fr',ks)):OpOk P γ env fr o x fr' ks:=fun κ L a w hC hop=>by
 obtain ⟨dst,op,ty,pos,after,gd⟩:=o
 simp only at h hop
 unfold evF at h
 split at h
 ·rename_i t len parts
  split at h
  ·cases h
  ·rename_i xs hxs
   unfold withFr at h
   split at h
   ·rename_i y hy
    cases h
    obtain ⟨hC1,hT1,hM1⟩:=hC.frz (rchs fr ((tmpsL (parts.toList.map (·.2))).map fun t=>un (env t)))
    obtain ⟨x1,x2⟩:=toAVs_ok hC hM1 _ _ hxs (frz_free hC)
    have hmem:∀ y,y∈parts.toList.map (·.2)→y∈(Op.buildSlice t len parts).operands:=fun y hy=>by
     obtain ⟨p,hp,rfl⟩:=List.mem_map.1 hy
     simp [Op.operands]
     exact ⟨p.1,by simpa using hp⟩
    have key:∀ (j u:Nat) (x:AV),(tmpsL (parts.toList.map (·.2)))[j]?=some u→xs[j]?=some x→VR (MA κ.M (freeze fr (rchs fr ((tmpsL (parts.toList.map (·.2))).map fun t=>un (env t)))) L) w x (a.eval (.tmp u)):=fun j u x hu hx=>
     x2 j _ x _ (by rw [List.getElem?_map,hu];rfl) hx (un_ok (hop _ (hmem _ (tmpsL_mem _ _ (List.mem_of_getElem? hu)))))
    have:=evP_ok (γ:=γ) (o:=⟨dst,.buildSlice t len parts,ty,pos,after,gd⟩) hy κ L a w hC1 fun y hy=>by
     have h1:=hT1.sr (hop y hy)
     cases y with
     | tmp u=>exact treeEnv_ok (val:=fun u=>a.eval (.tmp u)) h1 _ _ key
     | _=>exact h1
    exact this.mono fun v w' ⟨hb,hv⟩=>⟨L,hT1.trans (Tr.below hb),hC1.later hb,hv⟩
   ·cases h
 ·cases h
theorem evT_ok {g:Cfg} {C:CallF} {env:Env} {o:Oper} {x:SV} {fr':Fr} {ks:List Nat} (hS:CallSnd g.P γ C) (h:evT g C env fr o.op=some (x,fr',ks)):OpOk g.P γ env fr o x fr' ks:=by
 unfold evT at h
 split at h
 ·exact evW_ok hS h
 ·split at h
  ·rename_i h1;cases h;exact (evP_ok h1).ok
  ·exact evF_ok h
theorem evD_ok {g:Cfg} {C:CallF} {env:Env} {o:Oper} {x:SV} {fr':Fr} {ks:List Nat} (hS:CallSnd g.P γ C) (h:evD g C env fr o.op=some (x,fr',ks)):OpOk g.P γ env fr o x fr' ks:=by
 unfold evD at h
 split at h
 ·exact evW_ok hS h
 ·obtain ⟨h1,rfl,rfl⟩:=withFr_ok h
  exact (evP_ok h1).ok
theorem step_ok {g:Cfg} {C:CallF} {d:Option (List Nat)} {i:Nat} {env:Env} {o:Oper} {x:SV} {fr':Fr} {ks:List Nat} (hS:CallSnd g.P γ C) (h:step g C d i env fr o.op=some (x,fr',ks)):OpOk g.P γ env fr o x fr' ks:=by
 unfold step at h
 split at h
 ·exact evT_ok hS h
 ·split at h
  ·exact evT_ok hS h
  ·exact evD_ok hS h
end
theorem updO_off {e:Env} {d:Option Nat} {t:Nat} {x:SV} (h:d≠some t):updO e d x t=e t:=by
 cases d with
 | none=>rfl
 | some k=>exact upd_ne fun e=>h (by rw [e])
theorem put_at {a:Act} {d:Nat} {v:Value} (h:d < a.tmps.size):(a.put (some d) v).tmps.getD d undef=v:=by
 show (a.tmps.setIfInBounds d v).getD d undef=v
 rw [Array.getD_eq_getD_getElem?,Array.getElem?_setIfInBounds_self_of_lt h];rfl
theorem put_off {a:Act} {d:Option Nat} {t:Nat} {v:Value} (h:d≠some t):(a.put d v).tmps.getD t undef=a.tmps.getD t undef:=by
 cases d with
 | none=>rfl
 | some k=>
  show (a.tmps.setIfInBounds k v).getD t undef=_
  have hkt:k≠t:=fun e=>h (by rw [e])
  rw [Array.getD_eq_getD_getElem?,Array.getElem?_setIfInBounds_ne hkt,← Array.getD_eq_getD_getElem?]
theorem put_size (a:Act) (d:Option Nat) (v:Value):(a.put d v).tmps.size=a.tmps.size:=by cases d <;> simp [Act.put]
theorem put_defers (a:Act) (d:Option Nat) (v:Value):(a.put d v).defers=a.defers:=by cases d <;> rfl
section
variable {A A':Nat→Prop} {L L':Ls} {w w':World}
theorem put_rel {env:Env} {a:Act} {d:Option Nat} {x:SV} {v:Value} (h:∀ t,SR A L w (env t) (a.tmps.getD t undef)) (hx:SR A L w x v) (hd:∀ k,d=some k→k < a.tmps.size) :
  ∀ t,SR A L w (updO env d x t) ((a.put d v).tmps.getD t undef):=by
 intro t
 cases d with
 | none=>exact h t
 | some k=>
  by_cases ht:t=k
  ·subst ht
   rw [put_at (hd t rfl)]
   show SR A L w (upd env t x t) v
   rw [upd_same]
   exact hx
  ·rw [put_off (by intro e;cases e;exact ht rfl)]
   show SR A L w (upd env k x t) _
   rw [upd_ne ht]
   exact h t
def yv:Option Value→Option Bool
 | some (.bool b)=>some b
 | _=>none
theorem gSlot_ok {x:SV} {v:Value} {want W:Bool} (h:SR A L w x v) (hW:gSlot want x=some W):(yv (some v) == some want)=W:=by
 unfold gSlot at hW
 split at hW
 ·obtain rfl:=inv_bool h
  cases hW
  rename_i b
  cases b <;> cases want <;> rfl
 ·cases h with
  | yes _ _ h=>
   obtain rfl:=inv_bool h
   cases hW
   rename_i b
   cases b <;> cases want <;> rfl
 ·cases h
  cases hW
  rfl
 ·cases hW
theorem wanted_of {ops:Array Oper} {env:Env} {tmps:Array Value} {o:Oper} {j:Nat} {want W:Bool} (hg:o.guard=some (j,want)) (hW:gOf ops env j want=some W)
  (h:∀ d,(ops[j]?).bind (·.dst)=some d→SR A L w (env d) (tmps.getD d undef)∧d < tmps.size):Region.wanted o (yielded ops tmps)=W:=by
 unfold gOf at hW
 cases hd:(ops[j]?).bind (·.dst) with
 | none=>rw [hd] at hW;cases hW
 | some d=>
  rw [hd] at hW
  obtain ⟨hv,hlt⟩:=h d hd
  have hy:tmps[d]?=some (tmps.getD d undef):=by
   rw [Array.getD_eq_getD_getElem?,Array.getElem?_eq_getElem hlt];rfl
  have h2:yielded ops tmps j=yv (some (tmps.getD d undef)):=by
   show yv (((ops[j]?).bind (·.dst)).bind (tmps[·]?))=_
   rw [hd,Option.bind_some,hy]
  unfold Region.wanted
  rw [hg]
  show (yielded ops tmps j == some want)=W
  rw [h2]
  exact gSlot_ok hv hW
end
def dstOk (n:Nat) (l:List Oper):Bool:=l.all fun o=>match o.dst with|some d=>Nat.blt d n|none=>true
theorem dst_lt {n:Nat} {l:List Oper} (h:dstOk n l=true) {o:Oper} (ho:o∈l) {d:Nat} (hd:o.dst=some d):d < n:=by
 have:=List.all_eq_true.1 h o ho
 rw [hd] at this
 simpa [Nat.blt_eq] using this
theorem ops_text {rd:Option Nat} {dn:Nat} {g:Cfg} {γ:Glob} {C:CallF} (hS:CallSnd g.P γ C) {ops:Array Oper} {n:Nat} {κ:Ctx} {Q:Exit→Act→World→Prop} {env':Env} {fr':Fr} (hops:dstOk n ops.toList=true)
  (hK:∀ L a w,Marks κ w a.defers→a.tmps.size=n→Core γ κ fr' L w→(∀ t,SR (MA κ.M fr' L) L w (env' t) (a.tmps.getD t undef))→Q .normal a w) :
  ∀ (l:List Oper) (i:Nat) (env:Env) (fr:Fr) (L:Ls) (a:Act) (w:World),(∀ o∈l,o∈ops.toList)→evOps g C none ops i l env fr=some (env',fr')→Marks κ w a.defers→a.tmps.size=n→Core γ κ fr L w→(∀ t,SR (MA κ.M fr L) L w (env t) (a.tmps.getD t undef))→wpListIn (Fw rd) dn g.P ops Q l a w:=by
 intro l
 induction l with
 | nil=>intro i env fr L a w _ h hd hn hC hV;cases h;exact hK L a w hd hn hC hV
 | cons o r ih=>
  intro i env fr L a w hm h hd hn hC hV
  have hdo:∀ k,o.dst=some k→k < a.tmps.size:=fun k hk=>by rw [hn];exact dst_lt hops (hm o (by simp)) hk
  have hm':∀ o'∈r,o'∈ops.toList:=fun o' ho'=>hm o' (by simp [ho'])
  unfold evOps at h
  unfold wpListIn
  split at h
  ·rename_i hg
   rw [if_pos (by simp [Region.wanted,hg])]
   split at h
   ·rename_i x fr2 ks hst
    refine (step_ok hS hst κ L a w hC (fun y _=>evE_ok hV y)).wpIn fun v w' ⟨L',hT,hC',hv⟩=>?_
    exact ih _ _ _ L' _ _ hm' h (by rw [put_defers];exact hd.tr hC hT) (by rw [put_size,hn]) hC' (put_rel (fun t=>hT.env (hV t)) hv hdo)
   ·cases h
  ·rename_i j want hg
   have hwt:∀ W,gOf ops env j want=some W→Region.wanted o (yielded ops a.tmps)=W:=fun W hW=>wanted_of hg hW fun d hdd=>by
    refine ⟨hV d,?_⟩
    rw [hn]
    cases hoj:ops[j]? with
    | none=>rw [hoj] at hdd;cases hdd
    | some oj=>
     rw [hoj] at hdd
     exact dst_lt hops (Array.mem_toList_iff.2 (Array.mem_of_getElem? hoj)) hdd
   split at h
   ·cases h
   ·rename_i hW
    rw [hwt _ hW,if_pos rfl]
    split at h
    ·rename_i x fr2 ks hst
     refine (step_ok hS hst κ L a w hC (fun y _=>evE_ok hV y)).wpIn fun v w' ⟨L',hT,hC',hv⟩=>?_
     exact ih _ _ _ L' _ _ hm' h (by rw [put_defers];exact hd.tr hC hT) (by rw [put_size,hn]) hC' (put_rel (fun t=>hT.env (hV t)) (.yes _ _ hv) hdo)
    ·cases h
   ·rename_i hW
    rw [hwt _ hW,if_neg (by simp)]
    refine ⟨fun _ _=>trivial,ih _ _ _ L _ _ hm' h (by rw [put_defers];exact hd) (by rw [put_size,hn]) hC ?_⟩
    exact put_rel hV .no hdo
theorem ops_pre {rd:Option Nat} {dn:Nat} {g:Cfg} {γ:Glob} {C:CallF} (hS:CallSnd g.P γ C) {ops:Array Oper} {n:Nat} {κ:Ctx} {Q:Exit→Act→World→Prop} {env':Env} {fr':Fr} {l2:List Oper} (hops:dstOk n ops.toList=true)
  (hK:∀ L a w,Marks κ w a.defers→a.tmps.size=n→Core γ κ fr' L w→(∀ t,SR (MA κ.M fr' L) L w (env' t) (a.tmps.getD t undef))→wpListIn (Fw rd) dn g.P ops Q l2 a w) :
  ∀ (l:List Oper) (i:Nat) (env:Env) (fr:Fr) (L:Ls) (a:Act) (w:World),(∀ o∈l,o∈ops.toList)→evOps g C none ops i l env fr=some (env',fr')→Marks κ w a.defers→a.tmps.size=n→Core γ κ fr L w→(∀ t,SR (MA κ.M fr L) L w (env t) (a.tmps.getD t undef))→wpListIn (Fw rd) dn g.P ops Q (l++l2) a w:=by
 intro l
 induction l with
 | nil=>intro i env fr L a w _ h hd hn hC hV;cases h;exact hK L a w hd hn hC hV
 | cons o r ih=>
  intro i env fr L a w hm h hd hn hC hV
  have hdo:∀ k,o.dst=some k→k < a.tmps.size:=fun k hk=>by rw [hn];exact dst_lt hops (hm o (by simp)) hk
  have hm':∀ o'∈r,o'∈ops.toList:=fun o' ho'=>hm o' (by simp [ho'])
  unfold evOps at h
  rw [List.cons_append]
  unfold wpListIn
  split at h
  ·rename_i hg
   rw [if_pos (by simp [Region.wanted,hg])]
   split at h
   ·rename_i x fr2 ks hst
    refine (step_ok hS hst κ L a w hC (fun y _=>evE_ok hV y)).wpIn fun v w' ⟨L',hT,hC',hv⟩=>?_
    exact ih _ _ _ L' _ _ hm' h (by rw [put_defers];exact hd.tr hC hT) (by rw [put_size,hn]) hC' (put_rel (fun t=>hT.env (hV t)) hv hdo)
   ·cases h
  ·rename_i j want hg
   have hwt:∀ W,gOf ops env j want=some W→Region.wanted o (yielded ops a.tmps)=W:=fun W hW=>wanted_of hg hW fun d hdd=>by
    refine ⟨hV d,?_⟩
    rw [hn]
    cases hoj:ops[j]? with
    | none=>rw [hoj] at hdd;cases hdd
    | some oj=>
     rw [hoj] at hdd
     exact dst_lt hops (Array.mem_toList_iff.2 (Array.mem_of_getElem? hoj)) hdd
   split at h
   ·cases h
   ·rename_i hW
    rw [hwt _ hW,if_pos rfl]
    split at h
    ·rename_i x fr2 ks hst
     refine (step_ok hS hst κ L a w hC (fun y _=>evE_ok hV y)).wpIn fun v w' ⟨L',hT,hC',hv⟩=>?_
     exact ih _ _ _ L' _ _ hm' h (by rw [put_defers];exact hd.tr hC hT) (by rw [put_size,hn]) hC' (put_rel (fun t=>hT.env (hV t)) (.yes _ _ hv) hdo)
    ·cases h
   ·rename_i hW
    rw [hwt _ hW,if_neg (by simp)]
    refine ⟨fun _ _=>trivial,ih _ _ _ L _ _ hm' h (by rw [put_defers];exact hd) (by rw [put_size,hn]) hC ?_⟩
    exact put_rel hV .no hdo
end Go.Proofs.YtjdhnoffoknlnaaGreatDoor
namespace Go.Proofs.YtjdhnoffoknlnaaGreatDoor
open Go.RowKit
def tmpsOf (o:Oper):List Nat:=o.op.operands.toList.filterMap fun|.tmp t=>some t|_=>none
def hasEdge (o:Oper) (k:Nat):Bool:=o.after.any fun e=>Region.binds .any e && Nat.beq e.on k
def drawOp (ops:Array Oper) (i:Nat) (o:Oper):Bool:=
 (o.after.all fun e=>!Region.binds .any e || Nat.blt e.on i) &&
 (match o.guard with|some (j,_)=>hasEdge o j|none=>true) &&
 (List.range ops.size).all fun k=>match ops[k]? with
  | none=>true
  | some ok=>Nat.beq k i || match ok.dst with
   | none=>true
   | some d=>(match o.dst with|some d'=>!Nat.beq d d'|none=>true) && ((tmpsOf o).all fun t=>!Nat.beq t d || hasEdge o k || hasEdge ok i)
def effOk (ops:Array Oper) (effs:List Nat):Bool:=match effs with
 | []=>true
 | _=>effs.all fun i=>(List.range ops.size).all fun k=>Nat.beq k i || (match Nat.blt k i with|true=>((Region.before ops).getD i 0).testBit k|false=>((Region.before ops).getD k 0).testBit i)
def drawOkF (ops:Array Oper) (effs:List Nat):Bool:=((List.range ops.size).all fun i=>match ops[i]? with|none=>true|some o=>drawOp ops i o) && effs.all fun i=>effs.all fun k=>!Nat.blt k i || (Nat.ble ops.size i || ((Region.before ops).getD i 0).testBit k)
def drawOk (ops:Array Oper) (effs:List Nat):Bool:=((List.range ops.size).all fun i=>match ops[i]? with|none=>true|some o=>drawOp ops i o) && effOk ops effs
def twoOk (ops:Array Oper) (N m k:Nat):Bool:=match ops[N+k]?,ops[N+m+k]? with
 | some oa,some os=>match oa.dst,oa.op,os.op with
  | some d,.alloc _,.store _ (.tmp d') x=>Nat.beq d d' && oa.guard.isNone && os.guard.isNone && os.dst.isNone && hasEdge os (N+k) && (match x with|.tmp t=>!Nat.beq t d|_=>true) && (List.range ops.size).all fun j=>match ops[j]? with
   | some o=>Nat.beq j (N+m+k) || !hasN (tmpsOf o) d
   | none=>true
  | _,_,_=>false
 | _,_=>false
def drawOkD (ops:Array Oper) (effs:List Nat):Bool:=match effs with
 | []=>false
 | N::r=>((List.range ops.size).all fun i=>match ops[i]? with|none=>true|some o=>drawOp ops i o) && Nat.beq ops.size (N+(N::r).length) && Nat.beq (N::r).length ((N::r).length / 2+(N::r).length / 2) && (N::r) == (List.range (N::r).length).map (N+·) && (List.range ((N::r).length / 2)).all (twoOk ops N ((N::r).length / 2))
theorem hasEdge_iff {o:Oper} {k:Nat} (h:hasEdge o k=true):∃ e∈o.after,Region.binds .any e=true∧e.on=k:=by
 unfold hasEdge at h
 rw [Array.any_eq_true] at h
 obtain ⟨i,hi,h⟩:=h
 rw [Bool.and_eq_true] at h
 exact ⟨o.after[i],Array.getElem_mem hi,h.1,by simpa using h.2⟩
inductive Anc (ops:Array Oper):Nat→Nat→Prop where
 | one (i:Nat) (o:Oper) (e:Edge):ops[i]?=some o→e∈o.after→Region.binds .any e=true→Anc ops i e.on
 | more (i k:Nat) (o:Oper) (e:Edge):ops[i]?=some o→e∈o.after→Region.binds .any e=true→Anc ops e.on k→Anc ops i k
def ancStep (acc:Array Nat) (o:Oper):Nat:=o.after.foldl (fun s e=>if Region.binds .any e then s ||| 2 ^ e.on ||| acc.getD e.on 0 else s) 0
theorem ancStep_bit {acc:Array Nat} {o:Oper} {k:Nat} (h:(ancStep acc o).testBit k=true):∃ e∈o.after,Region.binds .any e=true∧(e.on=k∨(acc.getD e.on 0).testBit k=true):=by
 unfold ancStep at h
 rw [← Array.foldl_toList] at h
 have key:∀ (l:List Edge) (s:Nat),(l.foldl (fun s e=>if Region.binds .any e then s ||| 2 ^ e.on ||| acc.getD e.on 0 else s) s).testBit k=true→s.testBit k=true∨∃ e∈l,Region.binds .any e=true∧(e.on=k∨(acc.getD e.on 0).testBit k=true):=fun l=>by
  induction l with
  | nil=>intro s h;exact .inl h
  | cons e l ih=>
   intro s h
   rw [List.foldl_cons] at h
   rcases ih _ h with h|⟨e',he,h1,h2⟩
   ·split at h
    ·rename_i hb
     rw [Nat.testBit_or,Nat.testBit_or,Bool.or_eq_true,Bool.or_eq_true] at h
     rcases h with (h|h)|h
     ·exact .inl h
     ·rw [Nat.testBit_two_pow,decide_eq_true_iff] at h
      exact .inr ⟨e,by simp,hb,.inl h⟩
     ·exact .inr ⟨e,by simp,hb,.inr h⟩
    ·exact .inl h
   ·exact .inr ⟨e',by simp [he],h1,h2⟩
 rcases key _ _ h with h|⟨e,he,h⟩
 ·simp at h
 ·exact ⟨e,Array.mem_toList_iff.1 he,h⟩
theorem before_anc {ops:Array Oper} {i k:Nat} (h:((Region.before ops).getD i 0).testBit k=true):Anc ops i k:=by
 have key:∀ (l:List Oper) (acc:Array Nat),(∀ (q:Nat) (o:Oper),l[q]?=some o→ops[acc.size+q]?=some o)→(∀ i k,(acc.getD i 0).testBit k=true→Anc ops i k)→∀ i k,((l.foldl (fun acc o=>acc.push (ancStep acc o)) acc).getD i 0).testBit k=true→Anc ops i k:=fun l=>by
  induction l with
  | nil=>intro acc _ h2 i k h;exact h2 i k h
  | cons o l ih=>
   intro acc h1 h2 i k h
   rw [List.foldl_cons] at h
   refine ih _ (fun q o' hq=>?_) (fun i k h=>?_) i k h
   ·have:=h1 (q+1) o' (by simpa using hq)
    rw [Array.size_push,Nat.add_assoc,Nat.add_comm 1 q];exact this
   ·rw [Array.getD_eq_getD_getElem?,Array.getElem?_push] at h
    split at h
    ·rename_i hi
     subst hi
     obtain ⟨e,he,hb,h3⟩:=ancStep_bit h
     have ho:ops[acc.size]?=some o:=by have:=h1 0 o rfl;rwa [Nat.add_zero] at this
     rcases h3 with h3|h3
     ·subst h3;exact .one _ o e ho he hb
     ·exact .more _ k o e ho he hb (h2 _ _ h3)
    ·rw [← Array.getD_eq_getD_getElem?] at h;exact h2 i k h
 refine key ops.toList #[] (fun q o hq=>by simpa using hq) (fun i k h=>by simp at h) i k ?_
 have e:Region.before ops=ops.toList.foldl (fun acc o=>acc.push (ancStep acc o)) #[]:=by
  unfold Region.before
  rw [← Array.foldl_toList]
  rfl
 rw [← e];exact h
structure DrawOk (ops:Array Oper) (effs:List Nat):Prop where
 back:∀ (i:Nat) (o:Oper),ops[i]?=some o→∀ e∈o.after,Region.binds .any e=true→e.on < i
 guard:∀ (i:Nat) (o:Oper) (j:Nat) (want:Bool),ops[i]?=some o→o.guard=some (j,want)→hasEdge o j=true
 dst:∀ (i:Nat) (o:Oper) (k:Nat) (ok:Oper) (d:Nat),ops[i]?=some o→ops[k]?=some ok→k≠i→ok.dst=some d→o.dst≠some d
 use:∀ (i:Nat) (o:Oper) (k:Nat) (ok:Oper) (d:Nat),ops[i]?=some o→ops[k]?=some ok→k≠i→ok.dst=some d→.tmp d∈o.op.operands→hasEdge o k=true∨hasEdge ok i=true
 eff:∀ i∈effs,∀ k,k < ops.size→(k < i→Anc ops i k)∧(i < k→Anc ops k i)
structure DrawB (ops:Array Oper):Prop where
 back:∀ (i:Nat) (o:Oper),ops[i]?=some o→∀ e∈o.after,Region.binds .any e=true→e.on < i
 guard:∀ (i:Nat) (o:Oper) (j:Nat) (want:Bool),ops[i]?=some o→o.guard=some (j,want)→hasEdge o j=true
 dst:∀ (i:Nat) (o:Oper) (k:Nat) (ok:Oper) (d:Nat),ops[i]?=some o→ops[k]?=some ok→k≠i→ok.dst=some d→o.dst≠some d
 use:∀ (i:Nat) (o:Oper) (k:Nat) (ok:Oper) (d:Nat),ops[i]?=some o→ops[k]?=some ok→k≠i→ok.dst=some d→.tmp d∈o.op.operands→hasEdge o k=true∨hasEdge ok i=true
theorem drawB_spec {ops:Array Oper} (h:((List.range ops.size).all fun i=>match ops[i]? with|none=>true|some o=>drawOp ops i o)=true):DrawB ops:=by
 have hi:∀ i o,ops[i]?=some o→drawOp ops i o=true:=fun i o ho=>by
  have hlt:i < ops.size:=(Array.getElem?_eq_some_iff.1 ho).1
  have:=List.all_eq_true.1 h i (List.mem_range.2 hlt)
  simpa [ho] using this
 have hk:∀ i o k ok,ops[i]?=some o→ops[k]?=some ok→k≠i→∀ d,ok.dst=some d→(∀ d',o.dst=some d'→d≠d')∧∀ t∈tmpsOf o,t=d→(hasEdge o k=true∨hasEdge ok i=true):=fun i o k ok ho hok hne d hd=>by
  have h1:=hi i o ho
  unfold drawOp at h1
  rw [Bool.and_eq_true] at h1
  have hlt:k < ops.size:=(Array.getElem?_eq_some_iff.1 hok).1
  have h2:=List.all_eq_true.1 h1.2 k (List.mem_range.2 hlt)
  simp only [hok,hd] at h2
  have h3:Nat.beq k i=false:=by rw [← Bool.not_eq_true,Nat.beq_eq];exact hne
  rw [h3,Bool.false_or,Bool.and_eq_true] at h2
  refine ⟨fun d' hd'=>?_,fun t ht htd=>?_⟩
  ·have:=h2.1
   rw [hd'] at this
   intro e
   subst e
   simp at this
  ·have h4:=List.all_eq_true.1 h2.2 t ht
   subst htd
   simpa using h4
 refine ⟨fun i o ho e he hb=>?_,fun i o j want ho hg=>?_,fun i o k ok d ho hok hne hd hd'=>(hk i o k ok ho hok hne d hd).1 d hd' rfl,fun i o k ok d ho hok hne hd hm=>(hk i o k ok ho hok hne d hd).2 d ?_ rfl⟩
 ·have h1:=hi i o ho
  unfold drawOp at h1
  rw [Bool.and_eq_true,Bool.and_eq_true] at h1
  have h2:=(Array.all_eq_true_iff_forall_mem.1 h1.1.1) e he
  rw [hb] at h2
  simpa [Nat.blt_eq] using h2
 ·have h1:=hi i o ho
  unfold drawOp at h1
  rw [Bool.and_eq_true,Bool.and_eq_true] at h1
  have h2:=h1.1.2
  rw [hg] at h2
  exact h2
 ·unfold tmpsOf
  rw [List.mem_filterMap]
  exact ⟨.tmp d,Array.mem_toList_iff.2 hm,rfl⟩
theorem drawOk_spec {ops:Array Oper} {effs:List Nat} (h:drawOk ops effs=true):DrawOk ops effs:=by
 unfold drawOk at h
 rw [Bool.and_eq_true] at h
 obtain ⟨h,he⟩:=h
 have hB:=drawB_spec h
 refine ⟨hB.back,hB.guard,hB.dst,hB.use,fun i hie k hks=>?_⟩
 unfold effOk at he
 split at he
 ·cases hie
 ·have h1:=List.all_eq_true.1 (List.all_eq_true.1 he i hie) k (List.mem_range.2 hks)
  refine ⟨fun hlt=>?_,fun hlt=>?_⟩
  ·have e1:Nat.beq k i=false:=by rw [← Bool.not_eq_true,Nat.beq_eq];omega
   have e2:Nat.blt k i=true:=by rw [Nat.blt_eq];exact hlt
   rw [e1,e2,Bool.false_or] at h1
   exact before_anc h1
  ·have e1:Nat.beq k i=false:=by rw [← Bool.not_eq_true,Nat.beq_eq];omega
   have e2:Nat.blt k i=false:=by rw [← Bool.not_eq_true,Nat.blt_eq];omega
   rw [e1,e2,Bool.false_or] at h1
   exact before_anc h1
structure DrawOkF (ops:Array Oper) (effs:List Nat):Prop extends DrawB ops where
 eff:∀ i∈effs,∀ k∈effs,i < ops.size→k < i→Anc ops i k
theorem drawOkF_spec {ops:Array Oper} {effs:List Nat} (h:drawOkF ops effs=true):DrawOkF ops effs:=by
 unfold drawOkF at h
 rw [Bool.and_eq_true] at h
 obtain ⟨h,he⟩:=h
 refine { drawB_spec h with eff:=fun i hi k hk hs hlt=>?_ }
 have h1:=List.all_eq_true.1 (List.all_eq_true.1 he i hi) k hk
 have e1:Nat.blt k i=true:=by rw [Nat.blt_eq];exact hlt
 have e2:Nat.ble ops.size i=false:=by rw [← Bool.not_eq_true,Nat.ble_eq];omega
 rw [e1,e2] at h1
 exact before_anc (by simpa using h1)
def un' (listed:Array Bool) (n:Nat):Nat:=(List.range n).countP fun i=>!listed.getD i true
theorem un_set {listed:Array Bool} {i:Nat} (hi:listed.getD i true=false):∀ n,un' (listed.setIfInBounds i true) n+(if i < n then 1 else 0)=un' listed n
 | 0=>by simp [un']
 | n+1=>by
  have ih:=un_set hi n
  have hlt:i < listed.size:=by
   rcases Nat.lt_or_ge i listed.size with h|h
   ·exact h
   ·rw [Array.getD_eq_getD_getElem?,Array.getElem?_eq_none h] at hi;cases hi
  unfold un' at ih ⊢
  rw [List.range_succ,List.countP_append,List.countP_append]
  by_cases hin:i=n
  ·subst hin
   have h1:(listed.setIfInBounds i true).getD i true=true:=by
    rw [Array.getD_eq_getD_getElem?,Array.getElem?_setIfInBounds_self_of_lt hlt];rfl
   simp only [List.countP_cons,List.countP_nil,h1,hi] at ih ⊢
   simp at ih ⊢
   omega
  ·have h1:(listed.setIfInBounds i true).getD n true=listed.getD n true:=by
    rw [Array.getD_eq_getD_getElem?,Array.getElem?_setIfInBounds_ne hin,← Array.getD_eq_getD_getElem?]
   simp only [List.countP_cons,List.countP_nil,h1] at ih ⊢
   have e1:(if i < n+1 then 1 else 0)=(if i < n then 1 else 0):=by
    by_cases h2:i < n
    ·rw [if_pos h2,if_pos (by omega)]
    ·rw [if_neg h2,if_neg (by omega)]
   rw [e1]
   generalize (if i < n then 1 else 0)=z at *
   omega
theorem getD_false {listed:Array Bool} {k:Nat} (h:listed.getD k false=true):listed.getD k true=true:=by
 rw [Array.getD_eq_getD_getElem?] at h ⊢
 cases hk:listed[k]? with
 | none=>rfl
 | some b=>rw [hk] at h;exact h
theorem getD_true {listed:Array Bool} {k:Nat} (hk:k < listed.size) (h:listed.getD k true=true):listed.getD k false=true:=by
 rw [Array.getD_eq_getD_getElem?,Array.getElem?_eq_getElem hk] at h ⊢
 exact h
theorem un_zero {listed:Array Bool}:∀ n,un' listed n=0→∀ k,k < n→listed.getD k true=true:=by
 intro n h k hk
 unfold un' at h
 rw [List.countP_eq_zero] at h
 have:=h k (List.mem_range.2 hk)
 simpa using this
end Go.Proofs.YtjdhnoffoknlnaaGreatDoor
