/- Law 52: clocks compared;sessions' clocks. No condition. -/
import Derived.Test.YtjdhnoffoknlnaaGreatDoorWA
import Derived.Test.YtjdhnoffoknlnaaGreatDoorTS
set_option linter.unusedSimpArgs false
set_option linter.unusedVariables false
set_option linter.unusedSectionVars false
namespace Go.Proofs.YtjdhnoffoknlnaaGreatDoor
open Go.RowKit
set_option maxRecDepth 100000
theorem al1_head {l:List (List Int)} {c0:List Int} (h0:l[0]?=some c0):(l.headD []).length=c0.length:=by rw [headD_of h0]
theorem alike_c {l:List (List Int)} (hl:l.length≤140737488351232) (hc:∀ c∈l,c.length≤140737488351232):Cl cfg 58 [.t (clksA l)] [] (.t (.bool (alikeB l))) []:=by
 refine Cl.of_body rfl Tryz.func58 rfl rfl rfl ?_
 repeat' (first
|(with_reducible first|apply EvK.seq|apply EvK.block)
|((with_reducible apply EvK.text);(try case hm=>exact rfl))
|(with_reducible apply EvO.nilT)
|((with_reducible apply EvO.u0);(case hx=>exact opq))
|fail)
 apply EvK.loopV
 case ho=>exact rfl
 case hp=>exact rfl
 case hl=>exact rfl
 case hs=>exact slt
 refine EvL.ind (fun q:Nat=>[(7,.t (.int .i64 (q:Int)))]) (fun q=>q≤l.length∧(l.take q).all (al1 (l.headD []).length)=true) (fun q=>l.length - q) 0 rfl (by simp) (fun q hq=>?_)
 obtain ⟨h1,h2⟩:=hq
 rcases Nat.lt_or_ge q l.length with h3|h3
 ·
  obtain ⟨c,hn⟩:=get_of_lt h3
  obtain ⟨c0,hn0⟩:=get_of_lt (xs:=l) (k:=0) (by omega)
  have hg:=clksE_get hn
  have hg0:=clksE_get hn0
  have hlc:=hc c (List.mem_of_getElem? hn)
  have hd:=al1_head hn0
  repeat' (first
|(with_reducible first|apply EvK.seq|apply EvK.block)
|((with_reducible apply EvK.text);(try case hm=>exact rfl))
|(with_reducible first|apply EvK.skip|apply EvK.ret|apply thenK_n|apply thenK_r|apply blockK_n|apply blockK_r)
|((with_reducible apply EvK.cond_t);(case hc=>exact rfl))
|((with_reducible apply EvK.cond_f);(case hc=>exact rfl))
|((with_reducible apply EvO.spd_t);(case hp=>exact fao))
|((with_reducible apply EvO.spb (b:=validB _)) <;> intro hq)
|((with_reducible apply EvO.spn_y) <;> intro hq)
|(with_reducible apply EvO.nilT)
|((with_reducible apply EvO.gf);(case hW=>exact rfl))
|((with_reducible apply EvO.gt0);(case hW=>exact rfl);(case hx=>exact opq))
|((with_reducible apply EvO.u0);(case hx=>first
|(exact oqF (valid_c hlc))
|exact opq))
|fail)
  all_goals first
   | (refine fin_b (.inr rfl) rfl ?_)
   | (refine ⟨q+1,rfl,rfl,⟨by omega,all_more h2 hn ?_⟩,by omega⟩)
  all_goals first
   | (rw [alikeB,all_bad hn (by rw [al1,hd];simp [*];try omega)];rfl)
   | (rw [al1,hd];simp [*];omega)
 ·
  have h4:=all_end h2 h3
  repeat' (first
|(with_reducible apply EvK.seq)
|((with_reducible apply EvK.text);(try case hm=>exact rfl))
|(with_reducible first|apply EvK.exit|apply EvK.ret|apply thenK_n|apply thenK_e|apply blockK_h)
|((with_reducible apply EvK.cond_f);(case hc=>exact rfl))
|((with_reducible apply EvO.spd_f);(case hp=>exact fao))
|((with_reducible apply EvO.spd) <;> intro hq)
|(with_reducible apply EvO.nilT)
|((with_reducible apply EvO.u0);(case hx=>exact opq))
|fail)
  all_goals (refine fin_b (.inr rfl) rfl ?_;rw [alikeB,h4];simp;first|done|omega|(rw [← List.length_eq_zero_iff];omega))
theorem compare_c {a b:List Int} (ha:a.length≤140737488351232) (hb:b.length≤140737488351232):Cl cfg 55 [.t (intsA a),.t (intsA b)] [] (.tup [.t (.int .i64 (compareS a b).1),.t (.int .i64 (compareS a b).2)]) []:=by
 refine Cl.of_body rfl Tryz.func55 rfl rfl rfl ?_
 have h2:=alike_c (l:=[a,b]) (by simp) (by simp;omega)
 cases hab:alikeB [a,b] with
 | false=>
  rw [hab] at h2
  repeat' (first
|(with_reducible apply EvK.seq)
|((with_reducible apply EvK.text);(try case hm=>exact rfl))
|(with_reducible first|apply EvK.ret|apply thenK_r)
|((with_reducible apply EvK.cond_t);(case hc=>exact rfl))
|(with_reducible apply EvO.nilT)
|((with_reducible apply EvO.u0);(case hx=>first
|(exact oqF h2)
|exact opq))
|fail)
  all_goals (refine fin_ii (.inr rfl) rfl ?_;simp [compareS,hab])
 | true=>
  rw [hab] at h2
  have hlen:=alike_len hab
  repeat' (first
|(with_reducible first|apply EvK.seq|apply EvK.block)
|((with_reducible apply EvK.text);(try case hm=>exact rfl))
|(with_reducible first|apply EvK.skip|apply EvK.ret|apply thenK_n|apply thenK_r|apply blockK_n|apply blockK_r)
|((with_reducible apply EvK.cond_t);(case hc=>exact rfl))
|((with_reducible apply EvK.cond_f);(case hc=>exact rfl))
|((with_reducible apply EvO.spb (b:=insideB _ _)) <;> intro hq)
|(with_reducible apply EvO.nilT)
|((with_reducible apply EvO.gf);(case hW=>exact rfl))
|((with_reducible apply EvO.gt0);(case hW=>exact rfl);(case hx=>exact opq))
|((with_reducible apply EvO.u0);(case hx=>first
|(exact oqF h2)
|(exact oqF (inside_c ha hlen))
|(exact oqF (inside_c hb hlen.symm))
|exact opq))
|fail)
  all_goals (refine fin_ii (.inr rfl) rfl ?_;simp [compareS, *])
theorem contains_c {a b:List Int} (ha:a.length≤140737488351232) (hb:b.length≤140737488351232):Cl cfg 34 [.t (intsA a),.t (intsA b)] [] (.t (.bool (alikeB [a,b] && insideB b a))) []:=by
 have hc:=compare_c ha hb
 cases h1:alikeB [a,b] <;> cases h2:insideB a b <;> cases h3:insideB b a <;> simp only [compareS,h1,h2,h3,if_true,if_false,Bool.false_eq_true] at hc
 all_goals refine Cl.of_body rfl Tryz.func34 rfl rfl rfl ?_
 repeat' (first
|(with_reducible apply EvK.seq)
|((with_reducible apply EvK.text);(try case hm=>exact rfl))
|(with_reducible apply EvK.ret)
|((with_reducible apply EvO.spd_t);(case hp=>exact fao))
|((with_reducible apply EvO.spd_f);(case hp=>exact fao))
|((with_reducible apply EvO.spd_yt);(case hp=>exact fao))
|((with_reducible apply EvO.spd_yf);(case hp=>exact fao))
|(with_reducible apply EvO.nilT)
|((with_reducible apply EvO.gf);(case hW=>exact rfl))
|((with_reducible apply EvO.gt0);(case hW=>exact rfl);(case hx=>exact opq))
|((with_reducible apply EvO.u0);(case hx=>first
|(exact oqF hc)
|exact opq))
|fail)
 all_goals (refine fin_b (.inr rfl) rfl rfl)
theorem fits_c {a:List Int} {n:Int} (ha:a.length≤140737488351232):Cl cfg 35 [.t (intsA a),.t (.int .i64 n)] [] (.t (.bool (decide ((a.length:Int)=n) && validB a))) []:=by
 refine Cl.of_body rfl Tryz.func35 rfl rfl rfl ?_
 repeat' (first
|(with_reducible apply EvK.seq)
|((with_reducible apply EvK.text);(try case hm=>exact rfl))
|(with_reducible apply EvK.ret)
|((with_reducible apply EvO.spd) <;> intro hq)
|((with_reducible apply EvO.spb_y (b:=validB _)) <;> intro hq)
|(with_reducible apply EvO.nilT)
|((with_reducible apply EvO.gf);(case hW=>exact rfl))
|((with_reducible apply EvO.gt0);(case hW=>exact rfl);(case hx=>first
|(exact oqF (valid_c ha))
|exact opq))
|((with_reducible apply EvO.u0);(case hx=>exact opq))
|fail)
 all_goals (refine fin_b (.inr rfl) rfl ?_;simp_all)
end Go.Proofs.YtjdhnoffoknlnaaGreatDoor
namespace Go.Proofs.YtjdhnoffoknlnaaGreatDoor
open Go.RowKit
set_option maxRecDepth 100000
def evCs (e:Ev):List AV:=[.int .i64 e.r,.int .i64 e.n,.int .i64 e.t,intsA e.past,.int .i64 e.k,.int .i64 e.a,.int .i64 e.gk,.int .i64 e.gi,.int .i64 e.ge,.int .i64 e.ga,.int .i64 e.to,.int .i64 e.pl,.int .i64 e.se]
def evA (e:Ev):AV:=.agg (evCs e)
def actCs (a:SAct):List AV:=.bool a.wr::intsA a.cl::evCs a.ev
def actsE (l:List SAct):List (List AV):=l.map actCs
def actsA (l:List SAct):AV:=.arr (actsE l)
theorem actsE_get {l:List SAct} {k:Nat} {a:SAct} (h:l[k]?=some a):(actsE l)[k]?=some (actCs a):=by simp [actsE,h]
theorem drop_at {α:Type} {xs:List α} {k:Nat} {x:α} (h:xs[k]?=some x):xs.drop k=x::xs.drop (k+1):=by
 obtain ⟨h1,rfl⟩:=List.getElem?_eq_some_iff.1 h
 exact List.drop_eq_getElem_cons h1
theorem equalint_c {xs ys:List Int} (hl:xs.length≤140737488351232) (hm:ys.length≤140737488351232):Cl cfg 98 [.t (intsA xs),.t (intsA ys)] [] (.t (.bool (xs == ys))) []:=by
 refine Cl.of_body rfl Tryz.func98 rfl rfl rfl ?_
 by_cases hlen:xs.length=ys.length
 ·
  repeat' (first
|(with_reducible first|apply EvK.seq|apply EvK.block)
|((with_reducible apply EvK.text);(try case hm=>exact rfl))
|(with_reducible first|apply EvK.skip|apply thenK_n)
|((with_reducible apply EvK.cond_f);(case hc=>exact rfl))
|((with_reducible apply EvO.spn_f);(case hp=>exact fao))
|(with_reducible apply EvO.nilT)
|((with_reducible apply EvO.u0);(case hx=>exact opq))
|fail)
  apply EvK.loopV
  case ho=>exact rfl
  case hp=>exact rfl
  case hl=>exact rfl
  case hs=>exact slt
  refine EvL.ind (fun q:Nat=>[(13,.t (.int .i64 (q:Int)))]) (fun q=>q≤xs.length∧xs.take q=ys.take q) (fun q=>xs.length - q) 0 rfl (by simp) (fun q hq=>?_)
  obtain ⟨h1,h2⟩:=hq
  rcases Nat.lt_or_ge q xs.length with h3|h3
  ·
   obtain ⟨n,hn⟩:=get_of_lt h3
   obtain ⟨m,hm'⟩:=get_of_lt (xs:=ys) (k:=q) (by omega)
   have hc:=intsE_get hn
   have hd:=intsE_get hm'
   repeat' (first
|(with_reducible first|apply EvK.seq|apply EvK.block)
|((with_reducible apply EvK.text);(try case hm=>exact rfl))
|((with_reducible apply EvK.drawn);(case hm=>exact rfl))
|(with_reducible first|apply EvK.skip|apply EvK.ret|apply thenK_n|apply thenK_r|apply blockK_n|apply blockK_r)
|((with_reducible apply EvK.cond_t);(case hc=>exact rfl))
|((with_reducible apply EvK.cond_f);(case hc=>exact rfl))
|((with_reducible apply EvO.spd_t);(case hp=>exact fao))
|((with_reducible apply EvO.spn) <;> intro hq)
|(with_reducible apply EvO.nilT)
|((with_reducible apply EvO.u0);(case hx=>exact opq))
|fail)
   all_goals first
    | (refine fin_b (.inr rfl) rfl ?_)
    | (refine ⟨q+1,rfl,rfl,⟨by omega,?_⟩,by omega⟩)
   all_goals first
    | (rw [List.take_add_one,List.take_add_one,h2,hn,hm'];simp_all;done)
    | (symm;rw [beq_eq_false_iff_ne];rintro rfl;rw [hn] at hm';cases hm';omega)
  ·
   rw [List.take_of_length_le h3,List.take_of_length_le (by omega)] at h2
   repeat' (first
|(with_reducible apply EvK.seq)
|((with_reducible apply EvK.text);(try case hm=>exact rfl))
|(with_reducible first|apply EvK.exit|apply EvK.ret|apply thenK_n|apply thenK_e|apply blockK_h)
|((with_reducible apply EvK.cond_f);(case hc=>exact rfl))
|((with_reducible apply EvO.spd_f);(case hp=>exact fao))
|(with_reducible apply EvO.nilT)
|((with_reducible apply EvO.u0);(case hx=>exact opq))
|fail)
   all_goals (refine fin_b (.inr rfl) rfl ?_;rw [h2];simp)
 ·
  repeat' (first
|(with_reducible apply EvK.seq)
|((with_reducible apply EvK.text);(try case hm=>exact rfl))
|(with_reducible first|apply EvK.ret|apply thenK_r)
|((with_reducible apply EvK.cond_t);(case hc=>exact rfl))
|((with_reducible apply EvO.spn_t);(case hp=>exact fao))
|(with_reducible apply EvO.nilT)
|((with_reducible apply EvO.u0);(case hx=>exact opq))
|fail)
  all_goals (refine fin_b (.inr rfl) rfl ?_;symm;rw [beq_eq_false_iff_ne];rintro rfl;exact hlen rfl)
end Go.Proofs.YtjdhnoffoknlnaaGreatDoor
namespace Go.Proofs.YtjdhnoffoknlnaaGreatDoor
open Go.RowKit
set_option maxRecDepth 100000
theorem need_g:cfg.P.eqGuardType cfg.P.depth 33=false:=by kernel_rfl
end Go.Proofs.YtjdhnoffoknlnaaGreatDoor
namespace Go.Proofs.YtjdhnoffoknlnaaGreatDoor
open Go.RowKit
set_option maxRecDepth 100000
set_option maxHeartbeats 4000000
theorem forms_c (e:Ev):Cl cfg 77 [.t (evA e)] [] (.lm 0) [.map false [.int .i64 0,.int .i64 1,.int .i64 2] [.fn (.func 95) 0 [.lp 1 0],.fn (.func 96) 0 [.lp 1 0],.fn (.func 97) 0 [.lp 1 0]],.box false 35 ((evCs e).map .t)]:=⟨3,by kernel_rfl⟩
theorem betB_c (n l h:Int):Cl cfg 76 [.t (.int .i64 n),.t (.int .i64 l),.t (.int .i64 h)] [] (.t (.bool (betB n l h))) []:=between_c n l h
def bodyCs (a gk gi ge ga to pl se:Int):List SV:=[.t (.int .i64 0),.t (.int .i64 0),.t (.int .i64 0),.nil,.t (.int .i64 0),.t (.int .i64 a),.t (.int .i64 gk),.t (.int .i64 gi),.t (.int .i64 ge),.t (.int .i64 ga),.t (.int .i64 to),.t (.int .i64 pl),.t (.int .i64 se)]
section
variable (e:Ev) (a gk gi ge ga to pl se:Int)
theorem form1_c:Cl cfg 95 [.lp 0 0,.t (.tp (evCs e))] [.box false 35 (bodyCs a gk gi ge ga to pl se)] (.t (.bool (actF e))) [.box false 35 (bodyCs 0 gk gi ge ga to 0 0)]:=by
 refine Cl.of_body rfl Tryz.func95 rfl rfl rfl ?_
 repeat' (first
|(with_reducible apply EvK.seq)
|((with_reducible apply EvK.text);(try case hm=>exact rfl))
|(with_reducible apply EvK.ret)
|((with_reducible apply EvO.spb (b:=betB _ _ _)) <;> intro hq)
|((with_reducible apply EvO.spb_y (b:=betB _ _ _)) <;> intro hq)
|(with_reducible apply EvO.nilT)
|((with_reducible apply EvO.gf);(case hW=>exact rfl))
|((with_reducible apply EvO.gt0);(case hW=>exact rfl);(case hx=>first
|(exact oqF (betB_c _ _ _))
|exact opq))
|((with_reducible apply EvO.u0);(case hx=>first
|(exact oqF (betB_c _ _ _))
|exact opq))
|fail)
 all_goals (refine fin_b (.inr rfl) rfl ?_;simp [actF, *])
theorem form3_c:Cl cfg 97 [.lp 0 0,.t (.tp (evCs e))] [.box false 35 (bodyCs a gk gi ge ga to pl se)] (.t (.bool (noteF e))) [.box false 35 (bodyCs a gk gi ge ga to 0 0)]:=by
 refine Cl.of_body rfl Tryz.func97 rfl rfl rfl ?_
 repeat' (first
|(with_reducible apply EvK.seq)
|((with_reducible apply EvK.text);(try case hm=>exact rfl))
|(with_reducible apply EvK.ret)
|((with_reducible apply EvO.spb (b:=betB _ _ _)) <;> intro hq)
|((with_reducible apply EvO.spb_y (b:=betB _ _ _)) <;> intro hq)
|(with_reducible apply EvO.nilT)
|((with_reducible apply EvO.gf);(case hW=>exact rfl))
|((with_reducible apply EvO.gt0);(case hW=>exact rfl);(case hx=>first
|(exact oqF (betB_c _ _ _))
|exact opq))
|((with_reducible apply EvO.u0);(case hx=>first
|(exact oqF (betB_c _ _ _))
|exact opq))
|fail)
 all_goals (refine fin_b (.inr rfl) rfl ?_;simp [noteF, *])
theorem form2_c (hl:e.past.length≤140737488351232):Cl cfg 96 [.lp 0 0,.t (.tp (evCs e))] [.box false 35 (bodyCs a gk gi ge ga to pl se)] (.t (.bool (giveF e))) [.box false 35 (bodyCs a 0 0 0 0 0 pl se)]:=by
 refine Cl.of_body rfl Tryz.func96 rfl rfl rfl ?_
 repeat' (first
|(with_reducible apply EvK.seq)
|((with_reducible apply EvK.text);(try case hm=>exact rfl))
|(with_reducible first|apply EvK.skip|apply EvK.ret|apply thenK_n)
|((with_reducible apply EvK.cond_t);(case hc=>exact rfl))
|((with_reducible apply EvK.cond_f);(case hc=>exact rfl))
|((with_reducible apply EvO.spd) <;> intro hq)
|((with_reducible apply EvO.spb (b:=betB _ _ _)) <;> intro hq)
|((with_reducible apply EvO.spn_y) <;> intro hq)
|((with_reducible apply EvO.spb_y (b:=betB _ _ _)) <;> intro hq)
|(with_reducible apply EvO.nilT)
|((with_reducible apply EvO.gf);(case hW=>exact rfl))
|((with_reducible apply EvO.gt0);(case hW=>exact rfl);(case hx=>first
|(exact oqF (betB_c _ _ _))
|exact opq))
|((with_reducible apply EvO.u0);(case hx=>first
|(exact oqF (betB_c _ _ _))
|exact opq))
|fail)
 all_goals (refine fin_b (.inr rfl) rfl ?_;simp_all [giveF])
end
def evEq (e f:Ev):Bool:=decide (e.r=f.r) && (decide (e.n=f.n) && (decide (e.t=f.t) && ((e.past == f.past) && (decide (e.k=f.k) && (decide (e.a=f.a) && ((decide (e.gk=f.gk) && (decide (e.gi=f.gi) && (decide (e.ge=f.ge) && decide (e.ga=f.ga)))) && (decide (e.to=f.to) && (decide (e.pl=f.pl) && decide (e.se=f.se)))))))))
theorem need_eq2 (a b c d a' b' c' d':Int):eqC cfg.P 20 33 [.int .i64 a,.int .i64 b,.int .i64 c,.int .i64 d] [.int .i64 a',.int .i64 b',.int .i64 c',.int .i64 d']=some ((decide (a=a') && (decide (b=b') && (decide (c=c') && true))) && (decide (d=d') && true)):=by kernel_rfl
theorem equal_c (e f:Ev) (he:e.past.length≤140737488351232) (hf:f.past.length≤140737488351232):Cl cfg 78 [.t (evA e),.t (evA f)] [] (.t (.bool (evEq e f))) []:=by
 refine Cl.of_body rfl Tryz.func78 rfl rfl rfl ?_
 repeat' (first
|(with_reducible apply EvK.seq)
|((with_reducible apply EvK.text);(try case hm=>exact rfl))
|(with_reducible first|apply EvO.apc|apply EvO.apn|apply EvK.ret)
|((with_reducible apply EvO.spd) <;> intro hq)
|((with_reducible apply EvO.spd_y) <;> intro hq)
|((with_reducible apply EvO.spb_y (b:=_ == _)) <;> intro hq)
|((with_reducible apply EvO.spb_y (b:=_ && _)) <;> intro hq)
|(with_reducible apply EvO.nilT)
|((with_reducible apply EvO.gf);(case hW=>exact rfl))
|((with_reducible apply EvO.gt0);(case hW=>exact rfl);(case hx=>first
|((with_reducible apply OpR.eqs);(case hx|hy=>exact rfl);(case hg=>exact need_g);(case ht=>exact rfl);(case hr=>exact need_eq2 _ _ _ _ _ _ _ _))
|(exact oqF (equalint_c he hf))
|exact opq))
|((with_reducible apply EvO.u0);(case hx=>exact opq))
|fail)
 all_goals (refine fin_b (.inr rfl) rfl ?_;simp_all [evEq])
end Go.Proofs.YtjdhnoffoknlnaaGreatDoor
namespace Go.Proofs.YtjdhnoffoknlnaaGreatDoor
open Go.RowKit
set_option maxRecDepth 100000
set_option maxHeartbeats 2000000
abbrev evZ:Ev:=⟨0,0,0,[],0,0,0,0,0,0,0,0,0⟩
theorem evEq0 (e:Ev):evEq ⟨0,0,0,[],0,0,e.gk,e.gi,e.ge,e.ga,e.to,0,0⟩ evZ=giveZ e:=by
 rw [Bool.eq_iff_iff];simp [evEq,giveZ,and_assoc]
theorem evEq1 (e:Ev):evEq ⟨0,0,0,[],0,e.a,0,0,0,0,0,e.pl,e.se⟩ evZ=(decide (e.a=0) && (decide (e.pl=0) && decide (e.se=0))):=by
 rw [Bool.eq_iff_iff];simp [evEq]
theorem evEq2 (e:Ev):evEq ⟨0,0,0,[],0,e.a,e.gk,e.gi,e.ge,e.ga,e.to,0,0⟩ evZ=(decide (e.a=0) && giveZ e):=by
 rw [Bool.eq_iff_iff];simp [evEq,giveZ,and_assoc]
def findK (k:Int):Option (Option Nat):=findA (.int .i64) (.int .i64 k) [.int .i64 0,.int .i64 1,.int .i64 2] 0
theorem findK_0 {k:Int} (h:k=0):findK k=some (some 0):=by subst h;rfl
theorem findK_1 {k:Int} (h:k=1):findK k=some (some 1):=by subst h;rfl
theorem findK_2 {k:Int} (h:k=2):findK k=some (some 2):=by subst h;rfl
theorem findK_n {k:Int} (h0:k≠0) (h1:k≠1) (h2:k≠2):findK k=some none:=by simp [findK,findA,eqLeaf,h0,h1,h2]
theorem formed_c (e:Ev) (hl:e.past.length≤140737488351232):Cl cfg 54 [.t (evA e)] [] (.t (.bool (formB e))) []:=by
 refine Cl.of_body rfl Tryz.func54 rfl rfl rfl ?_
 have hvc:=valid_c hl
 cases hv:validB e.past with
 | false=>
  rw [hv] at hvc
  repeat' (first
|(with_reducible apply EvK.seq)
|((with_reducible apply EvK.text);(try case hm=>exact rfl))
|((with_reducible apply EvK.drawn);(case hm=>exact rfl))
|(with_reducible first|apply EvK.ret|apply thenK_r)
|((with_reducible apply EvK.cond_t);(case hc=>exact rfl))
|(with_reducible apply EvO.nilT)
|((with_reducible apply EvO.gf);(case hW=>exact rfl))
|((with_reducible apply EvO.u0);(case hx=>first
|(exact oqF hvc)
|exact opq))
|fail)
  all_goals (refine fin_b (.inr rfl) rfl ?_;simp [formB,headOk,hv])
 | true=>
  rw [hv] at hvc
  cases hb:betB e.r 0 ((e.past.length:Int) - 1) with
  | false=>
   have hbc:=betB_c e.r 0 ((e.past.length:Int) - 1)
   rw [hb] at hbc
   repeat' (first
|(with_reducible apply EvK.seq)
|((with_reducible apply EvK.text);(try case hm=>exact rfl))
|((with_reducible apply EvK.drawn);(case hm=>exact rfl))
|(with_reducible first|apply EvK.ret|apply thenK_r)
|((with_reducible apply EvK.cond_t);(case hc=>exact rfl))
|(with_reducible apply EvO.nilT)
|((with_reducible apply EvO.gf);(case hW=>exact rfl))
|((with_reducible apply EvO.gt0);(case hW=>exact rfl);(case hx=>first
|(exact oqF hbc)
|exact opq))
|((with_reducible apply EvO.u0);(case hx=>first
|(exact oqF hvc)
|exact opq))
|fail)
   all_goals (refine fin_b (.inr rfl) rfl ?_;simp [formB,headOk,hv,hb])
  | true=>
   have hbc:=betB_c e.r 0 ((e.past.length:Int) - 1)
   rw [hb] at hbc
   have hr:0≤e.r∧e.r < e.past.length:=by simp [betB] at hb;omega
   obtain ⟨h0,h1⟩:=hr
   obtain ⟨x,hx⟩:=get_of_lt (xs:=e.past) (k:=e.r.toNat) (by omega)
   have hc:=intsE_get hx
   have hd:=getD_get hx
   have hx2:=ok1_at hv hx
   repeat' (first
|(with_reducible apply EvK.seq)
|((with_reducible apply EvK.text);(try case hm=>exact rfl))
|((with_reducible apply EvK.drawn);(case hm=>exact rfl))
|(with_reducible first|apply EvK.skip|apply EvK.ret|apply thenK_n|apply thenK_r)
|((with_reducible apply EvK.cond_t);(case hc=>exact rfl))
|((with_reducible apply EvK.cond_f);(case hc=>exact rfl))
|((with_reducible apply EvO.spd_y) <;> intro hq)
|((with_reducible apply EvO.spn_y) <;> intro hq)
|((with_reducible apply EvO.spb_y (b:=betB _ _ _)) <;> intro hq)
|(with_reducible apply EvO.nilT)
|((with_reducible apply EvO.gf);(case hW=>exact rfl))
|((with_reducible apply EvO.gt0);(case hW=>exact rfl);(case hx=>first
|(exact oqF hbc)
|(exact oqF (betB_c _ _ _))
|exact opq))
|((with_reducible apply EvO.u0);(case hx=>first
|(exact oqF hvc)
|(exact oqC (forms_c e))
|exact opq))
|fail)
   all_goals first
    | (refine fin_b (.inr rfl) rfl ?_;rw [formB,headOk,hd];simp [*];first|done|omega)
    | skip
   have hH:headOk e=true:=by rw [headOk,hd];simp [*];omega
   by_cases k0:e.k=0
   ·
    repeat' (first
|(with_reducible apply EvK.seq)
|((with_reducible apply EvK.text);(try case hm=>exact rfl))
|(with_reducible first|apply EvK.skip|apply EvK.ret|apply thenK_n)
|((with_reducible apply EvK.cond_f);(case hc=>exact rfl))
|((with_reducible apply EvO.spb (b:=actF _)) <;> intro hq)
|((with_reducible apply EvO.spb_y (b:=evEq _ _)) <;> intro hq)
|(with_reducible apply EvO.nilT)
|((with_reducible apply EvO.gf);(case hW=>exact rfl))
|((with_reducible apply EvO.gt0);(case hW=>exact rfl);(case hx=>first
|((with_reducible apply OpR.bld (parts:=#[]) (cs:=[.t (.int .i64 0),.t (.int .i64 0),.t (.int .i64 0),.nil,.t (.int .i64 0),.t (.int .i64 0),.t (.int .i64 0),.t (.int .i64 0),.t (.int .i64 0),.t (.int .i64 0),.t (.int .i64 0),.t (.int .i64 0),.t (.int .i64 0)]) (v:=.agg [.t (.int .i64 0),.t (.int .i64 0),.t (.int .i64 0),.nil,.t (.int .i64 0),.t (.int .i64 0),.t (.int .i64 0),.t (.int .i64 0),.t (.int .i64 0),.t (.int .i64 0),.t (.int .i64 0),.t (.int .i64 0),.t (.int .i64 0)]));(case ho=>kernel_rfl);(case h=>kernel_rfl);(case hv=>kernel_rfl))
|((with_reducible apply OpR.callF);(case hcal|hav|hx|hh|hm=>exact rfl);(case hcl=>exact equal_c ⟨0,0,0,[],0,0,e.gk,e.gi,e.ge,e.ga,e.to,0,0⟩ evZ (by simp) (by simp [evZ]));(case hr=>exact rfl))
|exact opq))
|((with_reducible apply EvO.u0);(case hx=>first
|((with_reducible apply OpR.lki);(case hm|hk|ho=>exact rfl);(case hf=>exact findK_0 k0);(case hz=>exact rfl))
|((with_reducible apply OpR.bld (cs:=[.t (.int .i64 0),.t (.int .i64 0),.t (.int .i64 0),.nil,.t (.int .i64 0),.t (.int .i64 e.a),.t (.int .i64 e.gk),.t (.int .i64 e.gi),.t (.int .i64 e.ge),.t (.int .i64 e.ga),.t (.int .i64 e.to),.t (.int .i64 e.pl),.t (.int .i64 e.se)]) (v:=.agg [.t (.int .i64 0),.t (.int .i64 0),.t (.int .i64 0),.nil,.t (.int .i64 0),.t (.int .i64 e.a),.t (.int .i64 e.gk),.t (.int .i64 e.gi),.t (.int .i64 e.ge),.t (.int .i64 e.ga),.t (.int .i64 e.to),.t (.int .i64 e.pl),.t (.int .i64 e.se)]));(case ho=>kernel_rfl);(case h=>kernel_rfl);(case hv=>kernel_rfl))
|(exact oqP [1] (form1_c e _ _ _ _ _ _ _ _))
|exact opq))
|fail)
    all_goals (refine fin_b (.inr rfl) rfl ?_;clear hvc hbc;(try simp only [evEq0,evEq1,evEq2] at *);rw [formB,hH];simp only [*];simp)
   by_cases k1:e.k=1
   ·
    repeat' (first
|(with_reducible apply EvK.seq)
|((with_reducible apply EvK.text);(try case hm=>exact rfl))
|(with_reducible first|apply EvK.skip|apply EvK.ret|apply thenK_n)
|((with_reducible apply EvK.cond_f);(case hc=>exact rfl))
|((with_reducible apply EvO.spb (b:=giveF _)) <;> intro hq)
|((with_reducible apply EvO.spb_y (b:=evEq _ _)) <;> intro hq)
|(with_reducible apply EvO.nilT)
|((with_reducible apply EvO.gf);(case hW=>exact rfl))
|((with_reducible apply EvO.gt0);(case hW=>exact rfl);(case hx=>first
|((with_reducible apply OpR.bld (parts:=#[]) (cs:=[.t (.int .i64 0),.t (.int .i64 0),.t (.int .i64 0),.nil,.t (.int .i64 0),.t (.int .i64 0),.t (.int .i64 0),.t (.int .i64 0),.t (.int .i64 0),.t (.int .i64 0),.t (.int .i64 0),.t (.int .i64 0),.t (.int .i64 0)]) (v:=.agg [.t (.int .i64 0),.t (.int .i64 0),.t (.int .i64 0),.nil,.t (.int .i64 0),.t (.int .i64 0),.t (.int .i64 0),.t (.int .i64 0),.t (.int .i64 0),.t (.int .i64 0),.t (.int .i64 0),.t (.int .i64 0),.t (.int .i64 0)]));(case ho=>kernel_rfl);(case h=>kernel_rfl);(case hv=>kernel_rfl))
|((with_reducible apply OpR.callF);(case hcal|hav|hx|hh|hm=>exact rfl);(case hcl=>exact equal_c ⟨0,0,0,[],0,e.a,0,0,0,0,0,e.pl,e.se⟩ evZ (by simp) (by simp [evZ]));(case hr=>exact rfl))
|exact opq))
|((with_reducible apply EvO.u0);(case hx=>first
|((with_reducible apply OpR.lki);(case hm|hk|ho=>exact rfl);(case hf=>exact findK_1 k1);(case hz=>exact rfl))
|((with_reducible apply OpR.bld (cs:=[.t (.int .i64 0),.t (.int .i64 0),.t (.int .i64 0),.nil,.t (.int .i64 0),.t (.int .i64 e.a),.t (.int .i64 e.gk),.t (.int .i64 e.gi),.t (.int .i64 e.ge),.t (.int .i64 e.ga),.t (.int .i64 e.to),.t (.int .i64 e.pl),.t (.int .i64 e.se)]) (v:=.agg [.t (.int .i64 0),.t (.int .i64 0),.t (.int .i64 0),.nil,.t (.int .i64 0),.t (.int .i64 e.a),.t (.int .i64 e.gk),.t (.int .i64 e.gi),.t (.int .i64 e.ge),.t (.int .i64 e.ga),.t (.int .i64 e.to),.t (.int .i64 e.pl),.t (.int .i64 e.se)]));(case ho=>kernel_rfl);(case h=>kernel_rfl);(case hv=>kernel_rfl))
|(exact oqP [1] (form2_c e _ _ _ _ _ _ _ _ hl))
|exact opq))
|fail)
    all_goals (refine fin_b (.inr rfl) rfl ?_;clear hvc hbc;(try simp only [evEq0,evEq1,evEq2] at *);rw [formB,hH];simp only [*];simp)
   by_cases k2:e.k=2
   ·
    repeat' (first
|(with_reducible apply EvK.seq)
|((with_reducible apply EvK.text);(try case hm=>exact rfl))
|(with_reducible first|apply EvK.skip|apply EvK.ret|apply thenK_n)
|((with_reducible apply EvK.cond_f);(case hc=>exact rfl))
|((with_reducible apply EvO.spb (b:=noteF _)) <;> intro hq)
|((with_reducible apply EvO.spb_y (b:=evEq _ _)) <;> intro hq)
|(with_reducible apply EvO.nilT)
|((with_reducible apply EvO.gf);(case hW=>exact rfl))
|((with_reducible apply EvO.gt0);(case hW=>exact rfl);(case hx=>first
|((with_reducible apply OpR.bld (parts:=#[]) (cs:=[.t (.int .i64 0),.t (.int .i64 0),.t (.int .i64 0),.nil,.t (.int .i64 0),.t (.int .i64 0),.t (.int .i64 0),.t (.int .i64 0),.t (.int .i64 0),.t (.int .i64 0),.t (.int .i64 0),.t (.int .i64 0),.t (.int .i64 0)]) (v:=.agg [.t (.int .i64 0),.t (.int .i64 0),.t (.int .i64 0),.nil,.t (.int .i64 0),.t (.int .i64 0),.t (.int .i64 0),.t (.int .i64 0),.t (.int .i64 0),.t (.int .i64 0),.t (.int .i64 0),.t (.int .i64 0),.t (.int .i64 0)]));(case ho=>kernel_rfl);(case h=>kernel_rfl);(case hv=>kernel_rfl))
|((with_reducible apply OpR.callF);(case hcal|hav|hx|hh|hm=>exact rfl);(case hcl=>exact equal_c ⟨0,0,0,[],0,e.a,e.gk,e.gi,e.ge,e.ga,e.to,0,0⟩ evZ (by simp) (by simp [evZ]));(case hr=>exact rfl))
|exact opq))
|((with_reducible apply EvO.u0);(case hx=>first
|((with_reducible apply OpR.lki);(case hm|hk|ho=>exact rfl);(case hf=>exact findK_2 k2);(case hz=>exact rfl))
|((with_reducible apply OpR.bld (cs:=[.t (.int .i64 0),.t (.int .i64 0),.t (.int .i64 0),.nil,.t (.int .i64 0),.t (.int .i64 e.a),.t (.int .i64 e.gk),.t (.int .i64 e.gi),.t (.int .i64 e.ge),.t (.int .i64 e.ga),.t (.int .i64 e.to),.t (.int .i64 e.pl),.t (.int .i64 e.se)]) (v:=.agg [.t (.int .i64 0),.t (.int .i64 0),.t (.int .i64 0),.nil,.t (.int .i64 0),.t (.int .i64 e.a),.t (.int .i64 e.gk),.t (.int .i64 e.gi),.t (.int .i64 e.ge),.t (.int .i64 e.ga),.t (.int .i64 e.to),.t (.int .i64 e.pl),.t (.int .i64 e.se)]));(case ho=>kernel_rfl);(case h=>kernel_rfl);(case hv=>kernel_rfl))
|(exact oqP [1] (form3_c e _ _ _ _ _ _ _ _))
|exact opq))
|fail)
    all_goals (refine fin_b (.inr rfl) rfl ?_;clear hvc hbc;(try simp only [evEq0,evEq1,evEq2] at *);rw [formB,hH];simp only [*];simp)
   repeat' (first
|(with_reducible apply EvK.seq)
|((with_reducible apply EvK.text);(try case hm=>exact rfl))
|(with_reducible first|apply EvK.ret|apply thenK_r)
|((with_reducible apply EvK.cond_t);(case hc=>exact rfl))
|(with_reducible apply EvO.nilT)
|((with_reducible apply EvO.u0);(case hx=>first
|((with_reducible apply OpR.lk);(case hm|hk|ho=>exact rfl);(case hf=>exact findK_n k0 k1 k2);(case hz=>exact rfl))
|exact opq))
|fail)
   all_goals (refine fin_b (.inr rfl) rfl ?_;clear hvc hbc;simp_all [formB])
end Go.Proofs.YtjdhnoffoknlnaaGreatDoor
namespace Go.Proofs.YtjdhnoffoknlnaaGreatDoor
open Go.RowKit
set_option maxRecDepth 100000
set_option maxHeartbeats 4000000
end Go.Proofs.YtjdhnoffoknlnaaGreatDoor
namespace Go.Proofs.YtjdhnoffoknlnaaGreatDoor
open Go.RowKit
set_option maxRecDepth 100000
set_option maxHeartbeats 4000000
end Go.Proofs.YtjdhnoffoknlnaaGreatDoor
namespace Go.Proofs.YtjdhnoffoknlnaaGreatDoor
open Go.RowKit
set_option maxRecDepth 100000
set_option maxHeartbeats 4000000
theorem newsI (xs:List Int):newsOk 1 (intsE xs)=true:=by simp [newsOk,intsE,oneA]
theorem intsE_set (xs:List Int) (q:Nat) (n:Int):(intsE xs).set q [.int .i64 n]=intsE (xs.set q n):=by simp [intsE,List.map_set]
theorem clone_c {xs:List Int} (h0:xs≠[]) (hl:xs.length≤1000000):Cl cfg 38 [.t (intsA xs)] [] (.ls 0) [.row false false 1 (intsE xs)]:=by
 cases xs with
 | nil=>exact absurd rfl h0
 | cons x l=>
  refine Cl.of_body rfl Tryz.func38 rfl rfl rfl ?_
  repeat' (first
|(with_reducible apply EvK.seq)
|((with_reducible apply EvK.text);(try case hm=>exact rfl))
|(with_reducible first|apply EvK.skip|apply EvK.ret|apply thenK_n)
|((with_reducible apply EvK.cond_f);(case hc=>exact rfl))
|(with_reducible apply EvO.nilT)
|((with_reducible apply EvO.u);(case hx=>((with_reducible apply OpR.apr);(case hs=>exact fun _=>rfl);(case ha|ht=>exact rfl);(case hr=>first|(with_reducible exact rw0)|(with_reducible exact rw1)|(with_reducible exact rw2)|(with_reducible exact rw3)|(with_reducible exact rw4)|exact rfl);(case hx|hy|hn|hb=>exact rfl);(case hok=>exact newsI (x::l));(case hlen=>exact lenI (by rw [List.length_nil,intsE_len];omega));(case hv=>exact List.nil_append _);(case hk=>exact kfr);(case hf=>exact leq))))
|((with_reducible apply EvO.u0);(case hx=>exact opq))
|fail)
  exact ⟨.inr rfl,rfl⟩
theorem max_c (x y:Int):Cl cfg 57 [.t (.int .i64 x),.t (.int .i64 y)] [] (.t (.int .i64 (max x y))) []:=⟨3,by kernel_rfl⟩
def joinAt (a b:List Int) (q:Nat):List Int:=(List.zipWith max a b).take q++a.drop q
theorem joinAt_0 (a b:List Int):joinAt a b 0=a:=by simp [joinAt]
theorem joinAt_end {a b:List Int} (h:a.length=b.length) {q:Nat} (hq:a.length≤q):joinAt a b q=List.zipWith max a b:=by
 unfold joinAt
 rw [List.drop_of_length_le hq,List.take_of_length_le (by simp;omega)]
 simp
theorem joinAt_get {a b:List Int} (h:a.length=b.length) {q:Nat} {n:Int} (hn:a[q]?=some n):(joinAt a b q)[q]?=some n:=by
 have hq:=lt_of_get hn
 unfold joinAt
 rw [List.getElem?_append_right (by simp;omega),List.getElem?_drop]
 have e:q+(q - (List.take q (List.zipWith max a b)).length)=q:=by simp;omega
 rw [e,hn]
theorem joinAt_set {a b:List Int} {q:Nat} {n m:Int} (hn:a[q]?=some n) (hm:b[q]?=some m):(joinAt a b q).set q (max n m)=joinAt a b (q+1):=by
 have hq:=lt_of_get hn
 have hq':=lt_of_get hm
 have hz:(List.zipWith max a b)[q]?=some (max n m):=by rw [List.getElem?_zipWith,hn,hm]
 have hl:(List.take q (List.zipWith max a b)).length=q:=by simp;omega
 unfold joinAt
 rw [List.set_append_right q _ (by omega),hl,Nat.sub_self,drop_at hn,List.take_add_one,hz]
 simp
theorem sjoin_c {a b:List Int} (hab:alikeB [a,b]=true) (ha:a.length≤1000):Cl cfg 56 [.t (.fn (.func 57) 0 []),.t (clksA [a,b])] [] (.ls 0) [.row false false 1 (intsE (List.zipWith max a b))]:=by
 have hlen:=alike_len hab
 have h0:a≠[]:=by rintro rfl;simp [alikeB,al1,validB] at hab
 have hal:=alike_c (l:=[a,b]) (by simp) (by simp;omega)
 rw [hab] at hal
 refine Cl.of_body rfl Tryz.func56 rfl rfl rfl ?_
 have hg0:(clksE [a,b])[0]?=some [intsA a]:=rfl
 repeat' (first
|(with_reducible first|apply EvK.seq|apply EvK.block)
|((with_reducible apply EvK.text);(try case hm=>exact rfl))
|(with_reducible first|apply EvK.skip|apply thenK_n)
|((with_reducible apply EvK.cond_f);(case hc=>exact rfl))
|(with_reducible apply EvO.nilT)
|((with_reducible apply EvO.u0);(case hx=>first
|((with_reducible apply OpR.sll);(case he|hx|hi=>exact rfl);(case hn=>simp [clksE]);(case hz|hv=>exact rfl))
|(exact oqF hal)
|((with_reducible apply OpR.callX);(case hcal|hav|hx|hh|hm=>exact rfl);(case hcl=>exact clone_c h0 (by omega));(case hr|hd=>exact rfl);(case hq=>kernel_rfl);(case hn=>exact lnx);(case hv=>(conv=>lhs;whnf);try exact rfl);(case he=>exact xfr);(case hf=>exact leq))
|exact opq))
|fail)
 apply EvK.loopV
 case ho=>exact rfl
 case hp=>exact rfl
 case hl=>exact rfl
 case hs=>exact slt
 refine EvL.indF (fun s:Nat×List Int=>[(20,.t (.int .i64 (s.1:Int)))]) (fun s=>[.row false false 1 (intsE s.2)]) (fun s=>s.1≤1∧s.2=(if s.1=0 then a else List.zipWith max a b)) (fun s=>1 - s.1) (0,a) rfl rfl ⟨by simp,rfl⟩ (fun s hs=>?_)
 obtain ⟨i,xs⟩:=s
 obtain ⟨h1,h2⟩:=hs
 simp only at h1 h2
 have hb1:[b].length=1:=rfl
 rcases Nat.lt_or_ge i 1 with h3|h3
 ·
  obtain rfl:i=0:=by omega
  rw [if_pos rfl] at h2
  subst h2
  have hg1:(clksE [b])[0]?=some [intsA b]:=rfl
  dsimp only
  repeat' (first
|(with_reducible first|apply EvK.seq|apply EvK.block)
|((with_reducible apply EvK.text);(try case hm=>exact rfl))
|(with_reducible first|apply EvK.skip|apply thenK_n)
|((with_reducible apply EvK.cond_t);(case hc=>exact rfl))
|((with_reducible apply EvO.spd_t);(case hp=>exact fao))
|(with_reducible apply EvO.nilT)
|((with_reducible apply EvO.u0);(case hx=>exact opq))
|fail)
  apply EvK.loopV
  case ho=>exact rfl
  case hp=>exact rfl
  case hl=>exact rfl
  case hs=>exact slt
  refine EvL.indF (fun q:Nat=>[(26,.t (.int .i64 (q:Int)))]) (fun q=>[.row false false 1 (intsE (joinAt xs b q))]) (fun q=>q≤b.length) (fun q=>b.length - q) 0 rfl (by rw [joinAt_0]) (by omega) (fun q hq=>?_)
  rcases Nat.lt_or_ge q b.length with h5|h5
  ·
   obtain ⟨n,hn⟩:=get_of_lt (xs:=xs) (k:=q) (by omega)
   obtain ⟨m,hm⟩:=get_of_lt h5
   have hd:=intsE_get hm
   have hk:=intsE_get (joinAt_get hlen hn)
   have hl:=lt_of_get hk
   have hs:(intsE (joinAt xs b q)).set q [.int .i64 (max n m)]=intsE (joinAt xs b (q+1)):=by rw [intsE_set,joinAt_set hn hm]
   repeat' (first
|(with_reducible first|apply EvK.seq|apply EvK.block)
|((with_reducible apply EvK.text);(try case hm=>exact rfl))
|(with_reducible first|apply EvK.skip|apply thenK_n)
|((with_reducible apply EvK.cond_t);(case hc=>exact rfl))
|((with_reducible apply EvO.spd_t);(case hp=>exact fao))
|(with_reducible first|apply EvO.nilT|apply EvO.nilB)
|((with_reducible apply EvO.u0);(case hx=>first
|((with_reducible apply OpR.sti);(case hs=>exact fun _=>rfl);(case ha|hy|ht|hone=>exact rfl);(case hn=>kernel_rfl);(case hb=>exact rfl);(case hk=>exact hk);(case hj=>exact rfl);(case hv=>exact hs);(case hf=>exact leq))
|(exact oqF (max_c n m))
|exact opq))
|fail)
   refine ⟨q+1,rfl,rfl,by omega,by omega⟩
  ·
   have hj:=joinAt_end hlen (q:=q) (by omega)
   repeat' (first
|(with_reducible apply EvK.seq)
|((with_reducible apply EvK.text);(try case hm=>exact rfl))
|(with_reducible first|apply EvK.exit|apply thenK_n|apply thenK_e|apply blockK_n|apply blockK_h)
|((with_reducible apply EvK.cond_f);(case hc=>exact rfl))
|((with_reducible apply EvO.spd_f);(case hp=>exact fao))
|(with_reducible apply EvO.nilT)
|((with_reducible apply EvO.u0);(case hx=>exact opq))
|fail)
   refine ⟨(1,joinAt xs b q),rfl,rfl,⟨Nat.le_refl _,hj⟩,Nat.zero_lt_one⟩
 ·
  obtain rfl:i=1:=by omega
  rw [if_neg (by omega)] at h2
  dsimp only
  repeat' (first
|(with_reducible apply EvK.seq)
|((with_reducible apply EvK.text);(try case hm=>exact rfl))
|(with_reducible first|apply EvK.exit|apply EvK.ret|apply thenK_n|apply thenK_e|apply blockK_h)
|((with_reducible apply EvK.cond_f);(case hc=>exact rfl))
|((with_reducible apply EvO.spd_f);(case hp=>exact fao))
|(with_reducible apply EvO.nilT)
|((with_reducible apply EvO.u0);(case hx=>exact opq))
|fail)
  exact ⟨.inr rfl,by rw [h2];rfl⟩
end Go.Proofs.YtjdhnoffoknlnaaGreatDoor
namespace Go.Proofs.YtjdhnoffoknlnaaGreatDoor
open Go.RowKit
set_option maxRecDepth 100000
set_option maxHeartbeats 4000000
end Go.Proofs.YtjdhnoffoknlnaaGreatDoor
namespace Go.Proofs.YtjdhnoffoknlnaaGreatDoor
open Go.RowKit
set_option maxRecDepth 100000
set_option maxHeartbeats 4000000
theorem join_c {a b:List Int} (hab:alikeB [a,b]=true) (ha:a.length≤1000):Cl cfg 36 [.t (clksA [a,b])] [] (.ls 0) [.row false false 1 (intsE (List.zipWith max a b))]:=by
 refine Cl.of_body rfl Tryz.func36 rfl rfl rfl ?_
 repeat' (first
|(with_reducible apply EvK.seq)
|((with_reducible apply EvK.text);(try case hm=>exact rfl))
|(with_reducible first|apply EvK.ret|apply EvO.nilT)
|((with_reducible apply EvO.u0);(case hx=>first
|(exact oqX (sjoin_c hab ha))
|exact opq))
|fail)
 exact ⟨.inr rfl,rfl⟩
end Go.Proofs.YtjdhnoffoknlnaaGreatDoor
