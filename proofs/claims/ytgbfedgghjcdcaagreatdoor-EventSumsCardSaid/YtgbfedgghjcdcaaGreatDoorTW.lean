/- Law 52: clocks compared;sessions' clocks. No condition. -/
import Derived.Test.YtgbfedgghjcdcaaGreatDoorWA
import Derived.Test.YtgbfedgghjcdcaaGreatDoorTS
set_option linter.unusedSimpArgs false
set_option linter.unusedVariables false
set_option linter.unusedSectionVars false
namespace Go.Proofs.YtgbfedgghjcdcaaGreatDoor
open Go.RowKit
set_option maxRecDepth 100000
theorem al1_head {l:List (List Int)} {c0:List Int} (h0:l[0]?=some c0):(l.headD []).length=c0.length:=by rw [headD_of h0]
theorem alike_c {l:List (List Int)} (hl:l.length≤140737488351232) (hc:∀ c∈l,c.length≤140737488351232):Cl cfg 138 [.t (clksA l)] [] (.t (.bool (alikeB l))) []:=by
 refine Cl.of_body rfl Tryz.func138 rfl rfl rfl ?_
 repeat' (first
|(with_reducible first|apply EvK.seq|apply EvK.block)
|((with_reducible apply EvK.text);(try case hm=>exact rfl))
|(with_reducible apply EvO.nilT)
|((with_reducible apply EvO.u0);(case hx=>exact opq))
|fail)
 apply EvK.loopV
 case ho=>exact rfl
 case hp=>exact rfl
 case hl=>exact rfl
 case hs=>exact slt
 refine EvL.ind (fun q:Nat=>[(7,.t (.int .i64 (q:Int)))]) (fun q=>q≤l.length∧(l.take q).all (al1 (l.headD []).length)=true) (fun q=>l.length - q) 0 rfl (by simp) (fun q hq=>?_)
 obtain ⟨h1,h2⟩:=hq
 rcases Nat.lt_or_ge q l.length with h3|h3
 ·
  obtain ⟨c,hn⟩:=get_of_lt h3
  obtain ⟨c0,hn0⟩:=get_of_lt (xs:=l) (k:=0) (by omega)
  have hg:=clksE_get hn
  have hg0:=clksE_get hn0
  have hlc:=hc c (List.mem_of_getElem? hn)
  have hd:=al1_head hn0
  repeat' (first
|(with_reducible first|apply EvK.seq|apply EvK.block)
|((with_reducible apply EvK.text);(try case hm=>exact rfl))
|(with_reducible first|apply EvK.skip|apply EvK.ret|apply thenK_n|apply thenK_r|apply blockK_n|apply blockK_r)
|((with_reducible apply EvK.cond_t);(case hc=>exact rfl))
|((with_reducible apply EvK.cond_f);(case hc=>exact rfl))
|((with_reducible apply EvO.spd_t);(case hp=>exact fao))
|((with_reducible apply EvO.spb (b:=validB _)) <;> intro hq)
|((with_reducible apply EvO.spn_y) <;> intro hq)
|(with_reducible apply EvO.nilT)
|((with_reducible apply EvO.gf);(case hW=>exact rfl))
|((with_reducible apply EvO.gt0);(case hW=>exact rfl);(case hx=>exact opq))
|((with_reducible apply EvO.u0);(case hx=>first
|(exact oqF (valid_c hlc))
|exact opq))
|fail)
  all_goals first
   | (refine fin_b (.inr rfl) rfl ?_)
   | (refine ⟨q+1,rfl,rfl,⟨by omega,all_more h2 hn ?_⟩,by omega⟩)
  all_goals first
   | (rw [alikeB,all_bad hn (by rw [al1,hd];simp [*];try omega)];rfl)
   | (rw [al1,hd];simp [*];omega)
 ·
  have h4:=all_end h2 h3
  repeat' (first
|(with_reducible apply EvK.seq)
|((with_reducible apply EvK.text);(try case hm=>exact rfl))
|(with_reducible first|apply EvK.exit|apply EvK.ret|apply thenK_n|apply thenK_e|apply blockK_h)
|((with_reducible apply EvK.cond_f);(case hc=>exact rfl))
|((with_reducible apply EvO.spd_f);(case hp=>exact fao))
|((with_reducible apply EvO.spd) <;> intro hq)
|(with_reducible apply EvO.nilT)
|((with_reducible apply EvO.u0);(case hx=>exact opq))
|fail)
  all_goals (refine fin_b (.inr rfl) rfl ?_;rw [alikeB,h4];simp;first|done|omega|(rw [← List.length_eq_zero_iff];omega))
theorem compare_c {a b:List Int} (ha:a.length≤140737488351232) (hb:b.length≤140737488351232):Cl cfg 135 [.t (intsA a),.t (intsA b)] [] (.tup [.t (.int .i64 (compareS a b).1),.t (.int .i64 (compareS a b).2)]) []:=by
 refine Cl.of_body rfl Tryz.func135 rfl rfl rfl ?_
 have h2:=alike_c (l:=[a,b]) (by simp) (by simp;omega)
 cases hab:alikeB [a,b] with
 | false=>
  rw [hab] at h2
  repeat' (first
|(with_reducible apply EvK.seq)
|((with_reducible apply EvK.text);(try case hm=>exact rfl))
|(with_reducible first|apply EvK.ret|apply thenK_r)
|((with_reducible apply EvK.cond_t);(case hc=>exact rfl))
|(with_reducible apply EvO.nilT)
|((with_reducible apply EvO.u0);(case hx=>first
|(exact oqF h2)
|exact opq))
|fail)
  all_goals (refine fin_ii (.inr rfl) rfl ?_;simp [compareS,hab])
 | true=>
  rw [hab] at h2
  have hlen:=alike_len hab
  repeat' (first
|(with_reducible first|apply EvK.seq|apply EvK.block)
|((with_reducible apply EvK.text);(try case hm=>exact rfl))
|(with_reducible first|apply EvK.skip|apply EvK.ret|apply thenK_n|apply thenK_r|apply blockK_n|apply blockK_r)
|((with_reducible apply EvK.cond_t);(case hc=>exact rfl))
|((with_reducible apply EvK.cond_f);(case hc=>exact rfl))
|((with_reducible apply EvO.spb (b:=insideB _ _)) <;> intro hq)
|(with_reducible apply EvO.nilT)
|((with_reducible apply EvO.gf);(case hW=>exact rfl))
|((with_reducible apply EvO.gt0);(case hW=>exact rfl);(case hx=>exact opq))
|((with_reducible apply EvO.u0);(case hx=>first
|(exact oqF h2)
|(exact oqF (inside_c ha hlen))
|(exact oqF (inside_c hb hlen.symm))
|exact opq))
|fail)
  all_goals (refine fin_ii (.inr rfl) rfl ?_;simp [compareS, *])
theorem has_c {a:List Int} {r n:Int} (ha:a.length≤140737488351232):Cl cfg 92 [.t (intsA a),.t (.agg [.int .i64 r,.int .i64 n])] [] (.t (.bool (hasS a r n))) []:=by
 refine Cl.of_body rfl Tryz.func92 rfl rfl rfl ?_
 by_cases hr:0≤r∧r < a.length
 ·
  obtain ⟨x,hx⟩:=get_of_lt (xs:=a) (k:=r.toNat) (by omega)
  have hc:=intsE_get hx
  have hd:=getD_get hx
  obtain ⟨h0,h1⟩:=hr
  repeat' (first
|(with_reducible apply EvK.seq)
|((with_reducible apply EvK.text);(try case hm=>exact rfl))
|((with_reducible apply EvK.drawn);(case hm=>exact rfl))
|(with_reducible apply EvK.ret)
|((with_reducible apply EvO.spb (b:=validB _)) <;> intro hq)
|((with_reducible apply EvO.spd_yt);(case hp=>exact fao))
|((with_reducible apply EvO.spd_y) <;> intro hq)
|(with_reducible apply EvO.nilT)
|((with_reducible apply EvO.gf);(case hW=>exact rfl))
|((with_reducible apply EvO.gt0);(case hW=>exact rfl);(case hx=>exact opq))
|((with_reducible apply EvO.u0);(case hx=>first
|(exact oqF (valid_c ha))
|exact opq))
|fail)
  all_goals (refine fin_b (.inr rfl) rfl ?_;rw [hasS,hd];simp [*];try omega)
 ·
  repeat' (first
|(with_reducible apply EvK.seq)
|((with_reducible apply EvK.text);(try case hm=>exact rfl))
|((with_reducible apply EvK.drawn);(case hm=>exact rfl))
|(with_reducible apply EvK.ret)
|((with_reducible apply EvO.spb (b:=validB _)) <;> intro hq)
|((with_reducible apply EvO.spd_yf);(case hp=>exact fao))
|((with_reducible apply EvO.spd_y) <;> intro hq)
|(with_reducible apply EvO.nilT)
|((with_reducible apply EvO.gf);(case hW=>exact rfl))
|((with_reducible apply EvO.gt0);(case hW=>exact rfl);(case hx=>exact opq))
|((with_reducible apply EvO.u0);(case hx=>first
|(exact oqF (valid_c ha))
|exact opq))
|fail)
  all_goals (refine fin_b (.inr rfl) rfl ?_;simp [hasS, *];try omega)
end Go.Proofs.YtgbfedgghjcdcaaGreatDoor
namespace Go.Proofs.YtgbfedgghjcdcaaGreatDoor
open Go.RowKit
set_option maxRecDepth 100000
def evCs (e:Ev):List AV:=[.int .i64 e.r,.int .i64 e.n,.int .i64 e.t,intsA e.past,.int .i64 e.k,.int .i64 e.a,.int .i64 e.gk,.int .i64 e.gi,.int .i64 e.ge,.int .i64 e.ga,.int .i64 e.to,.int .i64 e.pl,.int .i64 e.se]
def evA (e:Ev):AV:=.agg (evCs e)
def idxS {α:Type} (p:α→Bool):List α→Int→Int
 | [],_ => -1
 | x::xs,i=>if p x then i else idxS p xs (i+1)
theorem idxS_cons {α:Type} (p:α→Bool) (x:α) (xs:List α) (i:Int):idxS p (x::xs) i=if p x then i else idxS p xs (i+1):=rfl
theorem drop_at {α:Type} {xs:List α} {k:Nat} {x:α} (h:xs[k]?=some x):xs.drop k=x::xs.drop (k+1):=by
 obtain ⟨h1,rfl⟩:=List.getElem?_eq_some_iff.1 h
 exact List.drop_eq_getElem_cons h1
theorem idxS_any {α:Type} (p:α→Bool):∀ (xs:List α) (i:Int),0≤i→decide (0≤idxS p xs i)=xs.any p
 | [],i,_=>rfl
 | x::xs,i,h=>by
  unfold idxS
  cases hp:p x with
  | true=>simp [hp,h]
  | false=>simp only [List.any_cons,hp,Bool.false_or];exact idxS_any p xs (i+1) (by omega)
theorem equalint_c {xs ys:List Int} (hl:xs.length≤140737488351232) (hm:ys.length≤140737488351232):Cl cfg 36 [.t (intsA xs),.t (intsA ys)] [] (.t (.bool (xs == ys))) []:=by
 refine Cl.of_body rfl Tryz.func36 rfl rfl rfl ?_
 by_cases hlen:xs.length=ys.length
 ·
  repeat' (first
|(with_reducible first|apply EvK.seq|apply EvK.block)
|((with_reducible apply EvK.text);(try case hm=>exact rfl))
|(with_reducible first|apply EvK.skip|apply thenK_n)
|((with_reducible apply EvK.cond_f);(case hc=>exact rfl))
|((with_reducible apply EvO.spn_f);(case hp=>exact fao))
|(with_reducible apply EvO.nilT)
|((with_reducible apply EvO.u0);(case hx=>exact opq))
|fail)
  apply EvK.loopV
  case ho=>exact rfl
  case hp=>exact rfl
  case hl=>exact rfl
  case hs=>exact slt
  refine EvL.ind (fun q:Nat=>[(13,.t (.int .i64 (q:Int)))]) (fun q=>q≤xs.length∧xs.take q=ys.take q) (fun q=>xs.length - q) 0 rfl (by simp) (fun q hq=>?_)
  obtain ⟨h1,h2⟩:=hq
  rcases Nat.lt_or_ge q xs.length with h3|h3
  ·
   obtain ⟨n,hn⟩:=get_of_lt h3
   obtain ⟨m,hm'⟩:=get_of_lt (xs:=ys) (k:=q) (by omega)
   have hc:=intsE_get hn
   have hd:=intsE_get hm'
   repeat' (first
|(with_reducible first|apply EvK.seq|apply EvK.block)
|((with_reducible apply EvK.text);(try case hm=>exact rfl))
|((with_reducible apply EvK.drawn);(case hm=>exact rfl))
|(with_reducible first|apply EvK.skip|apply EvK.ret|apply thenK_n|apply thenK_r|apply blockK_n|apply blockK_r)
|((with_reducible apply EvK.cond_t);(case hc=>exact rfl))
|((with_reducible apply EvK.cond_f);(case hc=>exact rfl))
|((with_reducible apply EvO.spd_t);(case hp=>exact fao))
|((with_reducible apply EvO.spn) <;> intro hq)
|(with_reducible apply EvO.nilT)
|((with_reducible apply EvO.u0);(case hx=>exact opq))
|fail)
   all_goals first
    | (refine fin_b (.inr rfl) rfl ?_)
    | (refine ⟨q+1,rfl,rfl,⟨by omega,?_⟩,by omega⟩)
   all_goals first
    | (rw [List.take_add_one,List.take_add_one,h2,hn,hm'];simp_all;done)
    | (symm;rw [beq_eq_false_iff_ne];rintro rfl;rw [hn] at hm';cases hm';omega)
  ·
   rw [List.take_of_length_le h3,List.take_of_length_le (by omega)] at h2
   repeat' (first
|(with_reducible apply EvK.seq)
|((with_reducible apply EvK.text);(try case hm=>exact rfl))
|(with_reducible first|apply EvK.exit|apply EvK.ret|apply thenK_n|apply thenK_e|apply blockK_h)
|((with_reducible apply EvK.cond_f);(case hc=>exact rfl))
|((with_reducible apply EvO.spd_f);(case hp=>exact fao))
|(with_reducible apply EvO.nilT)
|((with_reducible apply EvO.u0);(case hx=>exact opq))
|fail)
   all_goals (refine fin_b (.inr rfl) rfl ?_;rw [h2];simp)
 ·
  repeat' (first
|(with_reducible apply EvK.seq)
|((with_reducible apply EvK.text);(try case hm=>exact rfl))
|(with_reducible first|apply EvK.ret|apply thenK_r)
|((with_reducible apply EvK.cond_t);(case hc=>exact rfl))
|((with_reducible apply EvO.spn_t);(case hp=>exact fao))
|(with_reducible apply EvO.nilT)
|((with_reducible apply EvO.u0);(case hx=>exact opq))
|fail)
  all_goals (refine fin_b (.inr rfl) rfl ?_;symm;rw [beq_eq_false_iff_ne];rintro rfl;exact hlen rfl)
end Go.Proofs.YtgbfedgghjcdcaaGreatDoor
namespace Go.Proofs.YtgbfedgghjcdcaaGreatDoor
open Go.RowKit
set_option maxRecDepth 100000
theorem need_g:cfg.P.eqGuardType cfg.P.depth 34=false:=by kernel_rfl
end Go.Proofs.YtgbfedgghjcdcaaGreatDoor
namespace Go.Proofs.YtgbfedgghjcdcaaGreatDoor
open Go.RowKit
set_option maxRecDepth 100000
set_option maxHeartbeats 4000000
theorem forms_c (e:Ev):Cl cfg 53 [.t (evA e)] [] (.lm 0) [.map false [.int .i64 0,.int .i64 1,.int .i64 2] [.fn (.func 102) 0 [.lp 1 0],.fn (.func 103) 0 [.lp 1 0],.fn (.func 104) 0 [.lp 1 0]],.box false 36 ((evCs e).map .t)]:=⟨3,by kernel_rfl⟩
theorem betB_c (n l h:Int):Cl cfg 52 [.t (.int .i64 n),.t (.int .i64 l),.t (.int .i64 h)] [] (.t (.bool (betB n l h))) []:=between_c n l h
def bodyCs (a gk gi ge ga to pl se:Int):List SV:=[.t (.int .i64 0),.t (.int .i64 0),.t (.int .i64 0),.nil,.t (.int .i64 0),.t (.int .i64 a),.t (.int .i64 gk),.t (.int .i64 gi),.t (.int .i64 ge),.t (.int .i64 ga),.t (.int .i64 to),.t (.int .i64 pl),.t (.int .i64 se)]
section
variable (e:Ev) (a gk gi ge ga to pl se:Int)
theorem form1_c:Cl cfg 102 [.lp 0 0,.t (.tp (evCs e))] [.box false 36 (bodyCs a gk gi ge ga to pl se)] (.t (.bool (actF e))) [.box false 36 (bodyCs 0 gk gi ge ga to 0 0)]:=by
 refine Cl.of_body rfl Tryz.func102 rfl rfl rfl ?_
 repeat' (first
|(with_reducible apply EvK.seq)
|((with_reducible apply EvK.text);(try case hm=>exact rfl))
|(with_reducible apply EvK.ret)
|((with_reducible apply EvO.spb (b:=betB _ _ _)) <;> intro hq)
|((with_reducible apply EvO.spb_y (b:=betB _ _ _)) <;> intro hq)
|(with_reducible apply EvO.nilT)
|((with_reducible apply EvO.gf);(case hW=>exact rfl))
|((with_reducible apply EvO.gt0);(case hW=>exact rfl);(case hx=>first
|(exact oqF (betB_c _ _ _))
|exact opq))
|((with_reducible apply EvO.u0);(case hx=>first
|(exact oqF (betB_c _ _ _))
|exact opq))
|fail)
 all_goals (refine fin_b (.inr rfl) rfl ?_;simp [actF, *])
theorem form3_c:Cl cfg 104 [.lp 0 0,.t (.tp (evCs e))] [.box false 36 (bodyCs a gk gi ge ga to pl se)] (.t (.bool (noteF e))) [.box false 36 (bodyCs a gk gi ge ga to 0 0)]:=by
 refine Cl.of_body rfl Tryz.func104 rfl rfl rfl ?_
 repeat' (first
|(with_reducible apply EvK.seq)
|((with_reducible apply EvK.text);(try case hm=>exact rfl))
|(with_reducible apply EvK.ret)
|((with_reducible apply EvO.spb (b:=betB _ _ _)) <;> intro hq)
|((with_reducible apply EvO.spb_y (b:=betB _ _ _)) <;> intro hq)
|(with_reducible apply EvO.nilT)
|((with_reducible apply EvO.gf);(case hW=>exact rfl))
|((with_reducible apply EvO.gt0);(case hW=>exact rfl);(case hx=>first
|(exact oqF (betB_c _ _ _))
|exact opq))
|((with_reducible apply EvO.u0);(case hx=>first
|(exact oqF (betB_c _ _ _))
|exact opq))
|fail)
 all_goals (refine fin_b (.inr rfl) rfl ?_;simp [noteF, *])
theorem form2_c (hl:e.past.length≤140737488351232):Cl cfg 103 [.lp 0 0,.t (.tp (evCs e))] [.box false 36 (bodyCs a gk gi ge ga to pl se)] (.t (.bool (giveF e))) [.box false 36 (bodyCs a 0 0 0 0 0 pl se)]:=by
 refine Cl.of_body rfl Tryz.func103 rfl rfl rfl ?_
 repeat' (first
|(with_reducible apply EvK.seq)
|((with_reducible apply EvK.text);(try case hm=>exact rfl))
|(with_reducible first|apply EvK.skip|apply EvK.ret|apply thenK_n)
|((with_reducible apply EvK.cond_t);(case hc=>exact rfl))
|((with_reducible apply EvK.cond_f);(case hc=>exact rfl))
|((with_reducible apply EvO.spd) <;> intro hq)
|((with_reducible apply EvO.spb (b:=betB _ _ _)) <;> intro hq)
|((with_reducible apply EvO.spn_y) <;> intro hq)
|((with_reducible apply EvO.spb_y (b:=betB _ _ _)) <;> intro hq)
|(with_reducible apply EvO.nilT)
|((with_reducible apply EvO.gf);(case hW=>exact rfl))
|((with_reducible apply EvO.gt0);(case hW=>exact rfl);(case hx=>first
|(exact oqF (betB_c _ _ _))
|exact opq))
|((with_reducible apply EvO.u0);(case hx=>first
|(exact oqF (betB_c _ _ _))
|exact opq))
|fail)
 all_goals (refine fin_b (.inr rfl) rfl ?_;simp_all [giveF])
end
def evEq (e f:Ev):Bool:=decide (e.r=f.r) && (decide (e.n=f.n) && (decide (e.t=f.t) && ((e.past == f.past) && (decide (e.k=f.k) && (decide (e.a=f.a) && ((decide (e.gk=f.gk) && (decide (e.gi=f.gi) && (decide (e.ge=f.ge) && decide (e.ga=f.ga)))) && (decide (e.to=f.to) && (decide (e.pl=f.pl) && decide (e.se=f.se)))))))))
theorem need_eq2 (a b c d a' b' c' d':Int):eqC cfg.P 20 34 [.int .i64 a,.int .i64 b,.int .i64 c,.int .i64 d] [.int .i64 a',.int .i64 b',.int .i64 c',.int .i64 d']=some ((decide (a=a') && (decide (b=b') && (decide (c=c') && true))) && (decide (d=d') && true)):=by kernel_rfl
theorem equal_c (e f:Ev) (he:e.past.length≤140737488351232) (hf:f.past.length≤140737488351232):Cl cfg 54 [.t (evA e),.t (evA f)] [] (.t (.bool (evEq e f))) []:=by
 refine Cl.of_body rfl Tryz.func54 rfl rfl rfl ?_
 repeat' (first
|(with_reducible apply EvK.seq)
|((with_reducible apply EvK.text);(try case hm=>exact rfl))
|(with_reducible first|apply EvO.apc|apply EvO.apn|apply EvK.ret)
|((with_reducible apply EvO.spd) <;> intro hq)
|((with_reducible apply EvO.spd_y) <;> intro hq)
|((with_reducible apply EvO.spb_y (b:=_ == _)) <;> intro hq)
|((with_reducible apply EvO.spb_y (b:=_ && _)) <;> intro hq)
|(with_reducible apply EvO.nilT)
|((with_reducible apply EvO.gf);(case hW=>exact rfl))
|((with_reducible apply EvO.gt0);(case hW=>exact rfl);(case hx=>first
|((with_reducible apply OpR.eqs);(case hx|hy=>exact rfl);(case hg=>exact need_g);(case ht=>exact rfl);(case hr=>exact need_eq2 _ _ _ _ _ _ _ _))
|(exact oqF (equalint_c he hf))
|exact opq))
|((with_reducible apply EvO.u0);(case hx=>exact opq))
|fail)
 all_goals (refine fin_b (.inr rfl) rfl ?_;simp_all [evEq])
end Go.Proofs.YtgbfedgghjcdcaaGreatDoor
namespace Go.Proofs.YtgbfedgghjcdcaaGreatDoor
open Go.RowKit
set_option maxRecDepth 100000
set_option maxHeartbeats 2000000
abbrev evZ:Ev:=⟨0,0,0,[],0,0,0,0,0,0,0,0,0⟩
theorem evEq0 (e:Ev):evEq ⟨0,0,0,[],0,0,e.gk,e.gi,e.ge,e.ga,e.to,0,0⟩ evZ=giveZ e:=by
 rw [Bool.eq_iff_iff];simp [evEq,giveZ,and_assoc]
theorem evEq1 (e:Ev):evEq ⟨0,0,0,[],0,e.a,0,0,0,0,0,e.pl,e.se⟩ evZ=(decide (e.a=0) && (decide (e.pl=0) && decide (e.se=0))):=by
 rw [Bool.eq_iff_iff];simp [evEq]
theorem evEq2 (e:Ev):evEq ⟨0,0,0,[],0,e.a,e.gk,e.gi,e.ge,e.ga,e.to,0,0⟩ evZ=(decide (e.a=0) && giveZ e):=by
 rw [Bool.eq_iff_iff];simp [evEq,giveZ,and_assoc]
def findK (k:Int):Option (Option Nat):=findA (.int .i64) (.int .i64 k) [.int .i64 0,.int .i64 1,.int .i64 2] 0
theorem findK_0 {k:Int} (h:k=0):findK k=some (some 0):=by subst h;rfl
theorem findK_1 {k:Int} (h:k=1):findK k=some (some 1):=by subst h;rfl
theorem findK_2 {k:Int} (h:k=2):findK k=some (some 2):=by subst h;rfl
theorem findK_n {k:Int} (h0:k≠0) (h1:k≠1) (h2:k≠2):findK k=some none:=by simp [findK,findA,eqLeaf,h0,h1,h2]
theorem formed_c (e:Ev) (hl:e.past.length≤140737488351232):Cl cfg 12 [.t (evA e)] [] (.t (.bool (formB e))) []:=by
 refine Cl.of_body rfl Tryz.func12 rfl rfl rfl ?_
 have hvc:=valid_c hl
 cases hv:validB e.past with
 | false=>
  rw [hv] at hvc
  repeat' (first
|(with_reducible apply EvK.seq)
|((with_reducible apply EvK.text);(try case hm=>exact rfl))
|((with_reducible apply EvK.drawn);(case hm=>exact rfl))
|(with_reducible first|apply EvK.ret|apply thenK_r)
|((with_reducible apply EvK.cond_t);(case hc=>exact rfl))
|(with_reducible apply EvO.nilT)
|((with_reducible apply EvO.gf);(case hW=>exact rfl))
|((with_reducible apply EvO.u0);(case hx=>first
|(exact oqF hvc)
|exact opq))
|fail)
  all_goals (refine fin_b (.inr rfl) rfl ?_;simp [formB,headOk,hv])
 | true=>
  rw [hv] at hvc
  cases hb:betB e.r 0 ((e.past.length:Int) - 1) with
  | false=>
   have hbc:=betB_c e.r 0 ((e.past.length:Int) - 1)
   rw [hb] at hbc
   repeat' (first
|(with_reducible apply EvK.seq)
|((with_reducible apply EvK.text);(try case hm=>exact rfl))
|((with_reducible apply EvK.drawn);(case hm=>exact rfl))
|(with_reducible first|apply EvK.ret|apply thenK_r)
|((with_reducible apply EvK.cond_t);(case hc=>exact rfl))
|(with_reducible apply EvO.nilT)
|((with_reducible apply EvO.gf);(case hW=>exact rfl))
|((with_reducible apply EvO.gt0);(case hW=>exact rfl);(case hx=>first
|(exact oqF hbc)
|exact opq))
|((with_reducible apply EvO.u0);(case hx=>first
|(exact oqF hvc)
|exact opq))
|fail)
   all_goals (refine fin_b (.inr rfl) rfl ?_;simp [formB,headOk,hv,hb])
  | true=>
   have hbc:=betB_c e.r 0 ((e.past.length:Int) - 1)
   rw [hb] at hbc
   have hr:0≤e.r∧e.r < e.past.length:=by simp [betB] at hb;omega
   obtain ⟨h0,h1⟩:=hr
   obtain ⟨x,hx⟩:=get_of_lt (xs:=e.past) (k:=e.r.toNat) (by omega)
   have hc:=intsE_get hx
   have hd:=getD_get hx
   have hx2:=ok1_at hv hx
   repeat' (first
|(with_reducible apply EvK.seq)
|((with_reducible apply EvK.text);(try case hm=>exact rfl))
|((with_reducible apply EvK.drawn);(case hm=>exact rfl))
|(with_reducible first|apply EvK.skip|apply EvK.ret|apply thenK_n|apply thenK_r)
|((with_reducible apply EvK.cond_t);(case hc=>exact rfl))
|((with_reducible apply EvK.cond_f);(case hc=>exact rfl))
|((with_reducible apply EvO.spd_y) <;> intro hq)
|((with_reducible apply EvO.spn_y) <;> intro hq)
|((with_reducible apply EvO.spb_y (b:=betB _ _ _)) <;> intro hq)
|(with_reducible apply EvO.nilT)
|((with_reducible apply EvO.gf);(case hW=>exact rfl))
|((with_reducible apply EvO.gt0);(case hW=>exact rfl);(case hx=>first
|(exact oqF hbc)
|(exact oqF (betB_c _ _ _))
|exact opq))
|((with_reducible apply EvO.u0);(case hx=>first
|(exact oqF hvc)
|(exact oqC (forms_c e))
|exact opq))
|fail)
   all_goals first
    | (refine fin_b (.inr rfl) rfl ?_;rw [formB,headOk,hd];simp [*];first|done|omega)
    | skip
   have hH:headOk e=true:=by rw [headOk,hd];simp [*];omega
   by_cases k0:e.k=0
   ·
    repeat' (first
|(with_reducible apply EvK.seq)
|((with_reducible apply EvK.text);(try case hm=>exact rfl))
|(with_reducible first|apply EvK.skip|apply EvK.ret|apply thenK_n)
|((with_reducible apply EvK.cond_f);(case hc=>exact rfl))
|((with_reducible apply EvO.spb (b:=actF _)) <;> intro hq)
|((with_reducible apply EvO.spb_y (b:=evEq _ _)) <;> intro hq)
|(with_reducible apply EvO.nilT)
|((with_reducible apply EvO.gf);(case hW=>exact rfl))
|((with_reducible apply EvO.gt0);(case hW=>exact rfl);(case hx=>first
|((with_reducible apply OpR.bld (parts:=#[]) (cs:=[.t (.int .i64 0),.t (.int .i64 0),.t (.int .i64 0),.nil,.t (.int .i64 0),.t (.int .i64 0),.t (.int .i64 0),.t (.int .i64 0),.t (.int .i64 0),.t (.int .i64 0),.t (.int .i64 0),.t (.int .i64 0),.t (.int .i64 0)]) (v:=.agg [.t (.int .i64 0),.t (.int .i64 0),.t (.int .i64 0),.nil,.t (.int .i64 0),.t (.int .i64 0),.t (.int .i64 0),.t (.int .i64 0),.t (.int .i64 0),.t (.int .i64 0),.t (.int .i64 0),.t (.int .i64 0),.t (.int .i64 0)]));(case ho=>kernel_rfl);(case h=>kernel_rfl);(case hv=>kernel_rfl))
|((with_reducible apply OpR.callF);(case hcal|hav|hx|hh|hm=>exact rfl);(case hcl=>exact equal_c ⟨0,0,0,[],0,0,e.gk,e.gi,e.ge,e.ga,e.to,0,0⟩ evZ (by simp) (by simp [evZ]));(case hr=>exact rfl))
|exact opq))
|((with_reducible apply EvO.u0);(case hx=>first
|((with_reducible apply OpR.lki);(case hm|hk|ho=>exact rfl);(case hf=>exact findK_0 k0);(case hz=>exact rfl))
|((with_reducible apply OpR.bld (cs:=[.t (.int .i64 0),.t (.int .i64 0),.t (.int .i64 0),.nil,.t (.int .i64 0),.t (.int .i64 e.a),.t (.int .i64 e.gk),.t (.int .i64 e.gi),.t (.int .i64 e.ge),.t (.int .i64 e.ga),.t (.int .i64 e.to),.t (.int .i64 e.pl),.t (.int .i64 e.se)]) (v:=.agg [.t (.int .i64 0),.t (.int .i64 0),.t (.int .i64 0),.nil,.t (.int .i64 0),.t (.int .i64 e.a),.t (.int .i64 e.gk),.t (.int .i64 e.gi),.t (.int .i64 e.ge),.t (.int .i64 e.ga),.t (.int .i64 e.to),.t (.int .i64 e.pl),.t (.int .i64 e.se)]));(case ho=>kernel_rfl);(case h=>kernel_rfl);(case hv=>kernel_rfl))
|(exact oqP [1] (form1_c e _ _ _ _ _ _ _ _))
|exact opq))
|fail)
    all_goals (refine fin_b (.inr rfl) rfl ?_;clear hvc hbc;(try simp only [evEq0,evEq1,evEq2] at *);rw [formB,hH];simp only [*];simp)
   by_cases k1:e.k=1
   ·
    repeat' (first
|(with_reducible apply EvK.seq)
|((with_reducible apply EvK.text);(try case hm=>exact rfl))
|(with_reducible first|apply EvK.skip|apply EvK.ret|apply thenK_n)
|((with_reducible apply EvK.cond_f);(case hc=>exact rfl))
|((with_reducible apply EvO.spb (b:=giveF _)) <;> intro hq)
|((with_reducible apply EvO.spb_y (b:=evEq _ _)) <;> intro hq)
|(with_reducible apply EvO.nilT)
|((with_reducible apply EvO.gf);(case hW=>exact rfl))
|((with_reducible apply EvO.gt0);(case hW=>exact rfl);(case hx=>first
|((with_reducible apply OpR.bld (parts:=#[]) (cs:=[.t (.int .i64 0),.t (.int .i64 0),.t (.int .i64 0),.nil,.t (.int .i64 0),.t (.int .i64 0),.t (.int .i64 0),.t (.int .i64 0),.t (.int .i64 0),.t (.int .i64 0),.t (.int .i64 0),.t (.int .i64 0),.t (.int .i64 0)]) (v:=.agg [.t (.int .i64 0),.t (.int .i64 0),.t (.int .i64 0),.nil,.t (.int .i64 0),.t (.int .i64 0),.t (.int .i64 0),.t (.int .i64 0),.t (.int .i64 0),.t (.int .i64 0),.t (.int .i64 0),.t (.int .i64 0),.t (.int .i64 0)]));(case ho=>kernel_rfl);(case h=>kernel_rfl);(case hv=>kernel_rfl))
|((with_reducible apply OpR.callF);(case hcal|hav|hx|hh|hm=>exact rfl);(case hcl=>exact equal_c ⟨0,0,0,[],0,e.a,0,0,0,0,0,e.pl,e.se⟩ evZ (by simp) (by simp [evZ]));(case hr=>exact rfl))
|exact opq))
|((with_reducible apply EvO.u0);(case hx=>first
|((with_reducible apply OpR.lki);(case hm|hk|ho=>exact rfl);(case hf=>exact findK_1 k1);(case hz=>exact rfl))
|((with_reducible apply OpR.bld (cs:=[.t (.int .i64 0),.t (.int .i64 0),.t (.int .i64 0),.nil,.t (.int .i64 0),.t (.int .i64 e.a),.t (.int .i64 e.gk),.t (.int .i64 e.gi),.t (.int .i64 e.ge),.t (.int .i64 e.ga),.t (.int .i64 e.to),.t (.int .i64 e.pl),.t (.int .i64 e.se)]) (v:=.agg [.t (.int .i64 0),.t (.int .i64 0),.t (.int .i64 0),.nil,.t (.int .i64 0),.t (.int .i64 e.a),.t (.int .i64 e.gk),.t (.int .i64 e.gi),.t (.int .i64 e.ge),.t (.int .i64 e.ga),.t (.int .i64 e.to),.t (.int .i64 e.pl),.t (.int .i64 e.se)]));(case ho=>kernel_rfl);(case h=>kernel_rfl);(case hv=>kernel_rfl))
|(exact oqP [1] (form2_c e _ _ _ _ _ _ _ _ hl))
|exact opq))
|fail)
    all_goals (refine fin_b (.inr rfl) rfl ?_;clear hvc hbc;(try simp only [evEq0,evEq1,evEq2] at *);rw [formB,hH];simp only [*];simp)
   by_cases k2:e.k=2
   ·
    repeat' (first
|(with_reducible apply EvK.seq)
|((with_reducible apply EvK.text);(try case hm=>exact rfl))
|(with_reducible first|apply EvK.skip|apply EvK.ret|apply thenK_n)
|((with_reducible apply EvK.cond_f);(case hc=>exact rfl))
|((with_reducible apply EvO.spb (b:=noteF _)) <;> intro hq)
|((with_reducible apply EvO.spb_y (b:=evEq _ _)) <;> intro hq)
|(with_reducible apply EvO.nilT)
|((with_reducible apply EvO.gf);(case hW=>exact rfl))
|((with_reducible apply EvO.gt0);(case hW=>exact rfl);(case hx=>first
|((with_reducible apply OpR.bld (parts:=#[]) (cs:=[.t (.int .i64 0),.t (.int .i64 0),.t (.int .i64 0),.nil,.t (.int .i64 0),.t (.int .i64 0),.t (.int .i64 0),.t (.int .i64 0),.t (.int .i64 0),.t (.int .i64 0),.t (.int .i64 0),.t (.int .i64 0),.t (.int .i64 0)]) (v:=.agg [.t (.int .i64 0),.t (.int .i64 0),.t (.int .i64 0),.nil,.t (.int .i64 0),.t (.int .i64 0),.t (.int .i64 0),.t (.int .i64 0),.t (.int .i64 0),.t (.int .i64 0),.t (.int .i64 0),.t (.int .i64 0),.t (.int .i64 0)]));(case ho=>kernel_rfl);(case h=>kernel_rfl);(case hv=>kernel_rfl))
|((with_reducible apply OpR.callF);(case hcal|hav|hx|hh|hm=>exact rfl);(case hcl=>exact equal_c ⟨0,0,0,[],0,e.a,e.gk,e.gi,e.ge,e.ga,e.to,0,0⟩ evZ (by simp) (by simp [evZ]));(case hr=>exact rfl))
|exact opq))
|((with_reducible apply EvO.u0);(case hx=>first
|((with_reducible apply OpR.lki);(case hm|hk|ho=>exact rfl);(case hf=>exact findK_2 k2);(case hz=>exact rfl))
|((with_reducible apply OpR.bld (cs:=[.t (.int .i64 0),.t (.int .i64 0),.t (.int .i64 0),.nil,.t (.int .i64 0),.t (.int .i64 e.a),.t (.int .i64 e.gk),.t (.int .i64 e.gi),.t (.int .i64 e.ge),.t (.int .i64 e.ga),.t (.int .i64 e.to),.t (.int .i64 e.pl),.t (.int .i64 e.se)]) (v:=.agg [.t (.int .i64 0),.t (.int .i64 0),.t (.int .i64 0),.nil,.t (.int .i64 0),.t (.int .i64 e.a),.t (.int .i64 e.gk),.t (.int .i64 e.gi),.t (.int .i64 e.ge),.t (.int .i64 e.ga),.t (.int .i64 e.to),.t (.int .i64 e.pl),.t (.int .i64 e.se)]));(case ho=>kernel_rfl);(case h=>kernel_rfl);(case hv=>kernel_rfl))
|(exact oqP [1] (form3_c e _ _ _ _ _ _ _ _))
|exact opq))
|fail)
    all_goals (refine fin_b (.inr rfl) rfl ?_;clear hvc hbc;(try simp only [evEq0,evEq1,evEq2] at *);rw [formB,hH];simp only [*];simp)
   repeat' (first
|(with_reducible apply EvK.seq)
|((with_reducible apply EvK.text);(try case hm=>exact rfl))
|(with_reducible first|apply EvK.ret|apply thenK_r)
|((with_reducible apply EvK.cond_t);(case hc=>exact rfl))
|(with_reducible apply EvO.nilT)
|((with_reducible apply EvO.u0);(case hx=>first
|((with_reducible apply OpR.lk);(case hm|hk|ho=>exact rfl);(case hf=>exact findK_n k0 k1 k2);(case hz=>exact rfl))
|exact opq))
|fail)
   all_goals (refine fin_b (.inr rfl) rfl ?_;clear hvc hbc;simp_all [formB])
end Go.Proofs.YtgbfedgghjcdcaaGreatDoor
namespace Go.Proofs.YtgbfedgghjcdcaaGreatDoor
open Go.RowKit
set_option maxRecDepth 100000
set_option maxHeartbeats 4000000
end Go.Proofs.YtgbfedgghjcdcaaGreatDoor
namespace Go.Proofs.YtgbfedgghjcdcaaGreatDoor
open Go.RowKit
set_option maxRecDepth 100000
set_option maxHeartbeats 4000000
end Go.Proofs.YtgbfedgghjcdcaaGreatDoor
namespace Go.Proofs.YtgbfedgghjcdcaaGreatDoor
open Go.RowKit
set_option maxRecDepth 100000
set_option maxHeartbeats 4000000
theorem newsI (xs:List Int):newsOk 1 (intsE xs)=true:=by simp [newsOk,intsE,oneA]
theorem clone_c {xs:List Int} (h0:xs≠[]) (hl:xs.length≤1000000):Cl cfg 82 [.t (intsA xs)] [] (.ls 0) [.row false false 1 (intsE xs)]:=by
 cases xs with
 | nil=>exact absurd rfl h0
 | cons x l=>
  refine Cl.ext (xs:=[.arr (intsE (x::l))]) (by kernel_rfl) rfl ?_
  have h2:Nat.ble (intsE l).length 999999=true:=by
   rw [intsE_len,Nat.ble_eq]
   simp at hl
   omega
  have h3:newsOk 1 ([.int .i64 x]::intsE l)=true:=newsI (x::l)
  have hx:cloneG 1 ([.int .i64 x]::intsE l)=some (.ls 0,[.row false false 1 (intsE (x::l))]):=by
   show (match newsOk 1 ([.int .i64 x]::intsE l) && Nat.ble (intsE l).length 999999 with|true=>some (SV.ls 0,[Lb.row false false 1 ([.int .i64 x]::intsE l)])|false=>none)=_
   rw [h3,h2];rfl
  show extA 82 [.arr ([.int .i64 x]::intsE l)]=_
  have hP:extP 82 [.arr ([.int .i64 x]::intsE l)]=cloneG 1 ([.int .i64 x]::intsE l):=rfl
  have hT:extT 82 [.arr ([.int .i64 x]::intsE l)]=none:=rfl
  unfold extA
  rw [hT]
  show extP _ _=_
  rw [hP,hx]
theorem clksE_len (l:List (List Int)):(clksE l).length=l.length:=by simp [clksE]
end Go.Proofs.YtgbfedgghjcdcaaGreatDoor
namespace Go.Proofs.YtgbfedgghjcdcaaGreatDoor
open Go.RowKit
set_option maxRecDepth 100000
set_option maxHeartbeats 4000000
theorem rints_c {a b:List Int} (ha:a.length≤140737488351232) (hb:b.length≤140737488351232):Cl cfg 31 [.t (intsA a),.t (intsA b)] [] (.t (.bool (a == b))) []:=by
 refine Cl.of_body rfl Tryz.func31 rfl rfl rfl ?_
 by_cases hlen:a.length=b.length
 ·
  repeat' (first
|(with_reducible first|apply EvK.seq|apply EvK.block)
|((with_reducible apply EvK.text);(try case hm=>exact rfl))
|(with_reducible first|apply EvK.skip|apply thenK_n)
|((with_reducible apply EvK.cond_f);(case hc=>exact rfl))
|((with_reducible apply EvO.spn_f);(case hp=>exact fao))
|(with_reducible apply EvO.nilT)
|((with_reducible apply EvO.u0);(case hx=>exact opq))
|fail)
  apply EvK.loopV
  case ho=>exact rfl
  case hp=>exact rfl
  case hl=>exact rfl
  case hs=>exact slt
  refine EvL.ind (fun q:Nat=>[(5,.t (.int .i64 (q:Int)))]) (fun q=>q≤a.length∧a.take q=b.take q) (fun q=>a.length - q) 0 rfl (by simp) (fun q hq=>?_)
  obtain ⟨h1,h2⟩:=hq
  rcases Nat.lt_or_ge q a.length with h3|h3
  ·
   obtain ⟨n,hn⟩:=get_of_lt h3
   obtain ⟨m,hm'⟩:=get_of_lt (xs:=b) (k:=q) (by omega)
   have hc:=intsE_get hn
   have hd:=intsE_get hm'
   repeat' (first
|(with_reducible first|apply EvK.seq|apply EvK.block)
|((with_reducible apply EvK.text);(try case hm=>exact rfl))
|((with_reducible apply EvK.drawn);(case hm=>exact rfl))
|(with_reducible first|apply EvK.skip|apply EvK.ret|apply thenK_n|apply thenK_r|apply blockK_n|apply blockK_r)
|((with_reducible apply EvK.cond_t);(case hc=>exact rfl))
|((with_reducible apply EvK.cond_f);(case hc=>exact rfl))
|((with_reducible apply EvO.spd_t);(case hp=>exact fao))
|((with_reducible apply EvO.spn) <;> intro hq)
|(with_reducible apply EvO.nilT)
|((with_reducible apply EvO.u0);(case hx=>exact opq))
|fail)
   all_goals first
    | (refine fin_b (.inr rfl) rfl ?_)
    | (refine ⟨q+1,rfl,rfl,⟨by omega,?_⟩,by omega⟩)
   all_goals first
    | (rw [List.take_add_one,List.take_add_one,h2,hn,hm'];simp_all;done)
    | (symm;rw [beq_eq_false_iff_ne];rintro rfl;rw [hn] at hm';cases hm';omega)
  ·
   rw [List.take_of_length_le h3,List.take_of_length_le (by omega)] at h2
   repeat' (first
|(with_reducible apply EvK.seq)
|((with_reducible apply EvK.text);(try case hm=>exact rfl))
|(with_reducible first|apply EvK.exit|apply EvK.ret|apply thenK_n|apply thenK_e|apply blockK_h)
|((with_reducible apply EvK.cond_f);(case hc=>exact rfl))
|((with_reducible apply EvO.spd_f);(case hp=>exact fao))
|(with_reducible apply EvO.nilT)
|((with_reducible apply EvO.u0);(case hx=>exact opq))
|fail)
   all_goals (refine fin_b (.inr rfl) rfl ?_;rw [h2];simp)
 ·
  repeat' (first
|(with_reducible apply EvK.seq)
|((with_reducible apply EvK.text);(try case hm=>exact rfl))
|(with_reducible first|apply EvK.ret|apply thenK_r)
|((with_reducible apply EvK.cond_t);(case hc=>exact rfl))
|((with_reducible apply EvO.spn_t);(case hp=>exact fao))
|(with_reducible apply EvO.nilT)
|((with_reducible apply EvO.u0);(case hx=>exact opq))
|fail)
  all_goals (refine fin_b (.inr rfl) rfl ?_;symm;rw [beq_eq_false_iff_ne];rintro rfl;exact hlen rfl)
end Go.Proofs.YtgbfedgghjcdcaaGreatDoor
namespace Go.Proofs.YtgbfedgghjcdcaaGreatDoor
open Go.RowKit
set_option maxRecDepth 100000
set_option maxHeartbeats 4000000
end Go.Proofs.YtgbfedgghjcdcaaGreatDoor
