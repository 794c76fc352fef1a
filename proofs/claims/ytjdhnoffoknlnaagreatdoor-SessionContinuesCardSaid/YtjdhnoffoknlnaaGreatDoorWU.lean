/- Law 52: sessions. No condition. -/
import Derived.Test.YtjdhnoffoknlnaaGreatDoorTW
import Derived.Test.YtjdhnoffoknlnaaGreatDoorWI
set_option linter.unusedSimpArgs false
set_option linter.unusedVariables false
set_option linter.unusedSectionVars false
namespace Go.Proofs.YtjdhnoffoknlnaaGreatDoor
open Go.RowKit
set_option maxRecDepth 100000
set_option maxHeartbeats 4000000
abbrev sesB (c:List Int):Lb:=.box false 66 [.t (intsA c)]
def contB' (a b:List Int):Bool:=alikeB [a,b] && insideB b a
theorem containsB_c {a b:List Int} (ha:a.length≤1000) (hb:b.length≤1000):Cl cfg 34 [.t (intsA a),.t (intsA b)] [] (.t (.bool (contB' a b))) []:=contains_c (by omega) (by omega)
def fitsB (x:List Int) (n:Int):Bool:=decide ((x.length:Int)=n) && validB x
theorem fitsB_c {a:List Int} {n:Int} (ha:a.length≤1000):Cl cfg 35 [.t (intsA a),.t (.int .i64 n)] [] (.t (.bool (fitsB a n))) []:=fits_c (by omega)
theorem formB_ok {e:Ev} (h:formB e=true):validB e.past=true∧0≤e.r∧e.r < e.past.length∧1≤e.n∧e.n≤1024:=by
 simp [formB,headOk,betB] at h
 obtain ⟨⟨hv,⟨h0,h1⟩,hn,hm,_⟩,_⟩:=h
 obtain ⟨x,hx⟩:=get_of_lt (xs:=e.past) (k:=e.r.toNat) (by omega)
 have:=ok1_at hv hx
 rw [hx] at hn
 simp at hn
 refine ⟨hv,h0,by omega,by omega,hm⟩
theorem valid_set {xs:List Int} (h:validB xs=true) (k:Nat) {n:Int} (h0:0≤n) (h1:n≤1024):validB (xs.set k n)=true:=by
 simp only [validB,Bool.and_eq_true,List.all_eq_true,List.length_set] at h ⊢
 refine ⟨⟨fun y hy=>?_,h.1.2⟩,h.2⟩
 rcases List.mem_or_eq_of_mem_set hy with hy|rfl
 ·exact h.1.1 y hy
 ·simp [ok1];omega
section
variable {c x:List Int} (hc:c.length≤1000) (hx:x.length≤1000)
include hc
theorem ready_c (hx:x.length≤1000):Cl cfg 13 [.lp 0 0,.t (intsA x)] [sesB c] (.t (.bool (contB' x c))) [sesB c]:=by
 refine Cl.of_body rfl Tryz.func13 rfl rfl rfl ?_
 repeat' (first
|(with_reducible apply EvK.seq)
|((with_reducible apply EvK.text);(try case hm=>exact rfl))
|(with_reducible first|apply EvK.ret|apply EvO.nilT)
|((with_reducible apply EvO.u0);(case hx=>first
|(exact oqF (containsB_c hx hc))
|exact opq))
|fail)
 exact ⟨.inr rfl,rfl⟩
def readS (c x:List Int):Int×List Int:=if fitsB x c.length then (if contB' x c then (0,List.zipWith max c x) else (9,c)) else (1,c)
theorem read_c (hx:x.length≤1000) (hv:validB c=true):Cl cfg 14 [.lp 0 0,.t (intsA x)] [sesB c] (.t (.int .i64 (readS c x).1)) [sesB (readS c x).2]:=by
 refine Cl.of_body rfl Tryz.func14 rfl rfl rfl ?_
 cases h1:fitsB x c.length with
 | false=>
  have hs:readS c x=(1,c):=by simp [readS,h1]
  have hf:=fitsB_c (n:=c.length) hx
  rw [h1] at hf
  rw [hs]
  repeat' (first
|(with_reducible first|apply EvK.seq|apply EvK.block)
|((with_reducible apply EvK.text);(try case hm=>exact rfl))
|(with_reducible first|apply EvK.ret|apply thenK_r|apply blockK_r)
|((with_reducible apply EvK.cond_t);(case hc=>exact rfl))
|(with_reducible apply EvO.nilT)
|((with_reducible apply EvO.u0);(case hx=>first
|(exact oqF hf)
|exact opq))
|fail)
  exact ⟨.inr rfl,rfl⟩
 | true=>
  have hf:=fitsB_c (n:=c.length) hx
  rw [h1] at hf
  have hr:=ready_c hc hx
  cases h2:contB' x c with
  | false=>
   have hs:readS c x=(9,c):=by simp [readS,h1,h2]
   rw [h2] at hr
   rw [hs]
   repeat' (first
|(with_reducible first|apply EvK.seq|apply EvK.block)
|((with_reducible apply EvK.text);(try case hm=>exact rfl))
|(with_reducible first|apply EvK.ret|apply thenK_r|apply blockK_r)
|((with_reducible apply EvK.cond_t);(case hc=>exact rfl))
|((with_reducible apply EvK.cond_f);(case hc=>exact rfl))
|(with_reducible apply EvO.nilT)
|((with_reducible apply EvO.u0);(case hx=>first
|(exact oqF hf)
|(exact oqP [0] hr)
|exact opq))
|fail)
   exact ⟨.inr rfl,rfl⟩
  | true=>
   have hs:readS c x=(0,List.zipWith max c x):=by simp [readS,h1,h2]
   rw [h2] at hr
   rw [hs]
   have hab:alikeB [c,x]=true:=by
    simp [fitsB] at h1
    simp [alikeB,al1,hv,h1];omega
   repeat' (first
|(with_reducible first|apply EvK.seq|apply EvK.block)
|((with_reducible apply EvK.text);(try case hm=>exact rfl))
|(with_reducible first|apply EvK.skip|apply EvK.ret|apply thenK_n|apply blockK_n)
|((with_reducible apply EvK.cond_f);(case hc=>exact rfl))
|(with_reducible apply EvO.nilT)
|((with_reducible apply EvO.u0);(case hx=>first
|(exact oqF hf)
|(exact oqX (join_c hab hc))
|(exact oqP [0] hr)
|exact opq))
|fail)
   exact ⟨.inr rfl,rfl⟩
def wrtB (c:List Int) (e:Ev):Bool:=formB e && decide ((e.past.length:Int)=c.length)
def ackS (c:List Int) (e:Ev):Int×List Int:=if wrtB c e then (0,List.zipWith max c (e.past.set e.r.toNat e.n)) else (1,c)
theorem ack_c (e:Ev) (hp:e.past.length≤1000) (hv:validB c=true):Cl cfg 25 [.lp 0 0,.t (evA e)] [sesB c] (.t (.int .i64 (ackS c e).1)) [sesB (ackS c e).2]:=by
 refine Cl.of_body rfl Tryz.func25 rfl rfl rfl ?_
 have hw:Cl cfg 33 [.t (evA e),.t (.int .i64 c.length)] [] (.t (.bool (wrtB c e))) []:=write_c e c.length (by omega)
 cases h1:wrtB c e with
 | false=>
  have hs:ackS c e=(1,c):=by simp [ackS,h1]
  rw [h1] at hw
  rw [hs]
  repeat' (first
|(with_reducible apply EvK.seq)
|((with_reducible apply EvK.text);(try case hm=>exact rfl))
|((with_reducible apply EvK.drawn);(case hm=>exact rfl))
|(with_reducible first|apply EvK.ret|apply thenK_r)
|((with_reducible apply EvK.cond_t);(case hc=>exact rfl))
|(with_reducible apply EvO.nilT)
|((with_reducible apply EvO.u0);(case hx=>first
|(exact oqF hw)
|exact opq))
|fail)
  exact ⟨.inr rfl,rfl⟩
 | true=>
  have hs:ackS c e=(0,List.zipWith max c (e.past.set e.r.toNat e.n)):=by simp [ackS,h1]
  rw [h1] at hw
  rw [hs]
  simp only [wrtB,Bool.and_eq_true,decide_eq_true_eq] at h1
  obtain ⟨h2,h3,h4,h5,h6⟩:=formB_ok h1.1
  have h0:e.past≠[]:=by rintro h;rw [h] at h4;simp at h4;omega
  obtain ⟨x,hx⟩:=get_of_lt (xs:=e.past) (k:=e.r.toNat) (by omega)
  have hk:=intsE_get hx
  have hkl:=lt_of_get hk
  have hst:=intsE_set e.past e.r.toNat e.n
  have hab:alikeB [c,e.past.set e.r.toNat e.n]=true:=by
   have:=valid_set h2 e.r.toNat (n:=e.n) (by omega) h6
   simp [alikeB,al1,hv,this];omega
  repeat' (first
|(with_reducible apply EvK.seq)
|((with_reducible apply EvK.text);(try case hm=>exact rfl))
|((with_reducible apply EvK.drawn);(case hm=>exact rfl))
|(with_reducible first|apply EvK.skip|apply EvK.ret|apply thenK_n)
|((with_reducible apply EvK.cond_f);(case hc=>exact rfl))
|(with_reducible apply EvO.nilT)
|((with_reducible apply EvO.u0);(case hx=>first
|((with_reducible apply OpR.sti);(case hs=>exact fun _=>rfl);(case ha|hy|ht|hone=>exact rfl);(case hn=>kernel_rfl);(case hb=>exact rfl);(case hk=>exact hk);(case hj=>exact rfl);(case hv=>exact hst);(case hf=>exact leq))
|((with_reducible apply OpR.bsf (x:=.tc (clksE [c,e.past.set e.r.toNat e.n])));(case hs=>exact fun _=>rfl);(case hw=>exact rfl);(case h0=>kernel_rfl);(case ht|hx=>exact rfl);(case hf=>exact leq);(case hp=>kernel_rfl))
|(exact oqF hw)
|((with_reducible apply OpR.callX);(case hcal|hav|hx|hh|hm=>exact rfl);(case hcl=>exact clone_c h0 (by omega));(case hr|hd=>exact rfl);(case hq=>kernel_rfl);(case hn=>exact lnx);(case hv=>(conv=>lhs;whnf);try exact rfl);(case he=>exact xfr);(case hf=>exact leq))
|(exact oqX (join_c hab hc))
|exact opq))
|fail)
  exact ⟨.inr rfl,rfl⟩
def wroteS (c:List Int) (e:Ev):Int×List Int:=if wrtB c e then (if contB' e.past c then ackS c e else (9,c)) else (1,c)
theorem wrote_c (e:Ev) (hp:e.past.length≤1000) (hv:validB c=true):Cl cfg 12 [.lp 0 0,.t (evA e)] [sesB c] (.t (.int .i64 (wroteS c e).1)) [sesB (wroteS c e).2]:=by
 refine Cl.of_body rfl Tryz.func12 rfl rfl rfl ?_
 have hw:Cl cfg 33 [.t (evA e),.t (.int .i64 c.length)] [] (.t (.bool (wrtB c e))) []:=write_c e c.length (by omega)
 have hk:=containsB_c hp hc
 have ha:=ack_c hc e hp hv
 cases h1:wrtB c e with
 | false=>
  have hs:wroteS c e=(1,c):=by simp [wroteS,h1]
  rw [h1] at hw
  rw [hs]
  repeat' (first
|(with_reducible first|apply EvK.seq|apply EvK.block)
|((with_reducible apply EvK.text);(try case hm=>exact rfl))
|((with_reducible apply EvK.drawn);(case hm=>exact rfl))
|(with_reducible first|apply EvK.ret|apply thenK_r|apply blockK_r)
|((with_reducible apply EvK.cond_t);(case hc=>exact rfl))
|(with_reducible apply EvO.nilT)
|((with_reducible apply EvO.u0);(case hx=>first
|(exact oqF hw)
|exact opq))
|fail)
  exact ⟨.inr rfl,rfl⟩
 | true=>
  rw [h1] at hw
  cases h2:contB' e.past c with
  | false=>
   have hs:wroteS c e=(9,c):=by simp [wroteS,h1,h2]
   rw [h2] at hk
   rw [hs]
   repeat' (first
|(with_reducible first|apply EvK.seq|apply EvK.block)
|((with_reducible apply EvK.text);(try case hm=>exact rfl))
|((with_reducible apply EvK.drawn);(case hm=>exact rfl))
|(with_reducible first|apply EvK.ret|apply thenK_r|apply blockK_r)
|((with_reducible apply EvK.cond_t);(case hc=>exact rfl))
|((with_reducible apply EvK.cond_f);(case hc=>exact rfl))
|(with_reducible apply EvO.nilT)
|((with_reducible apply EvO.u0);(case hx=>first
|(exact oqF hw)
|(exact oqF hk)
|exact opq))
|fail)
   exact ⟨.inr rfl,rfl⟩
  | true=>
   have hs:wroteS c e=ackS c e:=by simp [wroteS,h1,h2]
   rw [h2] at hk
   rw [hs]
   repeat' (first
|(with_reducible first|apply EvK.seq|apply EvK.block)
|((with_reducible apply EvK.text);(try case hm=>exact rfl))
|((with_reducible apply EvK.drawn);(case hm=>exact rfl))
|(with_reducible first|apply EvK.skip|apply EvK.ret|apply thenK_n|apply blockK_n)
|((with_reducible apply EvK.cond_f);(case hc=>exact rfl))
|(with_reducible apply EvO.nilT)
|((with_reducible apply EvO.u0);(case hx=>first
|(exact oqF hw)
|(exact oqF hk)
|(exact oqP [0] ha)
|exact opq))
|fail)
   exact ⟨.inr rfl,rfl⟩
end
end Go.Proofs.YtjdhnoffoknlnaaGreatDoor
