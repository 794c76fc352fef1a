/- The reference's models,part by part,as contracts: rows,names,graphs. No condition. -/
import Derived.Test.YtgbfedgghjcdcaaGreatDoorMC
set_option linter.unusedSimpArgs false
set_option linter.unusedVariables false
set_option linter.unusedSectionVars false
namespace Go.Proofs.YtgbfedgghjcdcaaGreatDoor
open Go.RowKit
set_option maxRecDepth 100000
set_option maxHeartbeats 16000000
section
variable {g:Cfg} {d:Option (List Nat)} {env:Env} {fr:Fr} {i:Nat}
theorem OpR.negr {t:TypeId} {x:Operand} {m:Int} (hx:rd env x=.t (.int .i64 m)) (h : -9223372036854775808≤0 - m∧0 - m≤9223372036854775807):OpR g d i env fr (.unOp .neg t x) (.t (.int .i64 (0 - m))) fr []:=.p rfl rfl (by
 unfold evP
 simp only [hx,unS,IntWalk.i64_in _ h])
theorem OpR.subw {xt yt:TypeId} {x y:Operand} {m n:Int} (hx:rd env x=.t (.int .i64 m)) (hy:rd env y=.t (.int .i64 n)):OpR g d i env fr (.binOp .sub xt x y yt) (.t (.int .i64 (IntKind.wrap .i64 (m - n)))) fr []:=
 .bin hx hy (by unfold binS;simp only [if_true,intS])
end
theorem term_g:cfg.P.eqGuardType cfg.P.depth 178=false:=by kernel_rfl
theorem term_eq (a b a' b':Int):eqC cfg.P 20 178 [.int .i64 a,.int .i64 b] [.int .i64 a',.int .i64 b']=some (decide (a=a') && (decide (b=b') && true)):=by kernel_rfl
theorem rterms_c {A B:List Tm} (hA:A.length≤140737488351232) (hB:B.length≤140737488351232):Cl cfg 173 [.t (.arr (tmE A)),.t (.arr (tmE B))] [] (.t (.bool (decide (A=B)))) []:=by
 refine Cl.of_body rfl Tryz.func173 rfl rfl rfl ?_
 have hlA:=tmE_len A
 have hlB:=tmE_len B
 by_cases hl:A.length=B.length
 ·
  have e0:decide (A=B)=decide (A.drop 0=B.drop 0):=rfl
  repeat' (first
|(with_reducible first|apply EvK.seq|apply EvK.block)
|((with_reducible apply EvK.text);(try case hm=>exact rfl))
|(with_reducible first|apply EvK.skip|apply thenK_n)
|((with_reducible apply EvK.cond_f);(case hc=>exact rfl))
|((with_reducible apply EvO.spn_f);(case hp=>exact fao))
|(with_reducible apply EvO.nilT)
|((with_reducible apply EvO.u0);(case hx=>exact opq))
|fail)
  apply EvK.loopV
  case ho=>exact rfl
  case hp=>exact rfl
  case hl=>exact rfl
  case hs=>exact slt
  refine EvL.ind (fun q:Nat=>[(5,.t (.int .i64 (q:Int)))]) (fun q=>q≤A.length∧decide (A=B)=decide (A.drop q=B.drop q)) (fun q=>A.length - q) 0 rfl ⟨by omega,rfl⟩ (fun q hq=>?_)
  obtain ⟨h1,h2⟩:=hq
  rw [h2]
  rcases Nat.lt_or_ge q A.length with h3|h3
  ·
   obtain ⟨x,hx⟩:=get_of_lt h3
   obtain ⟨y,hy⟩:=get_of_lt (xs:=B) (k:=q) (by omega)
   have hc:=tmE_get hx
   have hd:=tmE_get hy
   by_cases he:x=y
   ·
    have ha:decide (A.drop q=B.drop q)=decide (A.drop (q+1)=B.drop (q+1)):=by rw [drop_get hx,drop_get hy,he];simp
    have hte:eqC cfg.P 20 178 [.int .i64 x.cell,.int .i64 x.factor] [.int .i64 y.cell,.int .i64 y.factor]=some true:=by rw [term_eq,he];simp
    repeat' (first
|(with_reducible first|apply EvK.seq|apply EvK.block)
|((with_reducible apply EvK.text);(try case hm=>exact rfl))
|((with_reducible apply EvK.drawn);(case hm=>exact rfl))
|(with_reducible first|apply EvK.skip|apply thenK_n|apply blockK_n)
|((with_reducible apply EvK.cond_t);(case hc=>exact rfl))
|((with_reducible apply EvK.cond_f);(case hc=>exact rfl))
|((with_reducible apply EvO.spd_t);(case hp=>exact fao))
|(with_reducible apply EvO.nilT)
|((with_reducible apply EvO.u0);(case hx=>first
|((with_reducible apply OpR.nes);(case hx|hy=>exact rfl);(case hg=>exact term_g);(case ht=>exact rfl);(case hr=>exact hte))
|exact opq))
|fail)
    exact ⟨q+1,rfl,rfl,⟨by omega,ha⟩,by omega⟩
   ·
    have ha:decide (A.drop q=B.drop q)=false:=by rw [drop_get hx,drop_get hy];simp [he]
    have hte:eqC cfg.P 20 178 [.int .i64 x.cell,.int .i64 x.factor] [.int .i64 y.cell,.int .i64 y.factor]=some false:=by
     rw [term_eq]
     obtain ⟨x1,x2⟩:=x
     obtain ⟨y1,y2⟩:=y
     simp at he ⊢
     exact he
    rw [ha]
    repeat' (first
|(with_reducible first|apply EvK.seq|apply EvK.block)
|((with_reducible apply EvK.text);(try case hm=>exact rfl))
|((with_reducible apply EvK.drawn);(case hm=>exact rfl))
|(with_reducible first|apply EvK.skip|apply EvK.ret|apply thenK_n|apply thenK_r|apply blockK_r)
|((with_reducible apply EvK.cond_t);(case hc=>exact rfl))
|((with_reducible apply EvO.spd_t);(case hp=>exact fao))
|(with_reducible apply EvO.nilT)
|((with_reducible apply EvO.u0);(case hx=>first
|((with_reducible apply OpR.nes);(case hx|hy=>exact rfl);(case hg=>exact term_g);(case ht=>exact rfl);(case hr=>exact hte))
|exact opq))
|fail)
    exact ⟨.inr rfl,rfl⟩
  ·
   have ha:decide (A.drop q=B.drop q)=true:=by rw [drop_end h3,drop_end (l:=B) (by omega)];rfl
   rw [ha]
   repeat' (first
|(with_reducible apply EvK.seq)
|((with_reducible apply EvK.text);(try case hm=>exact rfl))
|(with_reducible first|apply EvK.exit|apply EvK.ret|apply thenK_n|apply thenK_e|apply blockK_h)
|((with_reducible apply EvK.cond_f);(case hc=>exact rfl))
|((with_reducible apply EvO.spd_f);(case hp=>exact fao))
|(with_reducible apply EvO.nilT)
|((with_reducible apply EvO.u0);(case hx=>exact opq))
|fail)
   exact ⟨.inr rfl,rfl⟩
 ·
  have ha:decide (A=B)=false:=by simp;intro h;exact hl (by rw [h])
  rw [ha]
  repeat' (first
|(with_reducible apply EvK.seq)
|((with_reducible apply EvK.text);(try case hm=>exact rfl))
|(with_reducible first|apply EvK.ret|apply thenK_r)
|((with_reducible apply EvK.cond_t);(case hc=>exact rfl))
|((with_reducible apply EvO.spn_t);(case hp=>exact fao))
|(with_reducible apply EvO.nilT)
|((with_reducible apply EvO.u0);(case hx=>exact opq))
|fail)
  exact ⟨.inr rfl,rfl⟩
theorem rsame_c {A B:Rw} (hA:A.terms.length≤140737488351232) (hB:B.terms.length≤140737488351232):Cl cfg 145 [.t (.agg (rwC A)),.t (.agg (rwC B))] [] (.t (.bool (decide (A=B)))) []:=by
 obtain ⟨T,n⟩:=A
 obtain ⟨U,m⟩:=B
 have kt:=rterms_c (A:=T) (B:=U) hA hB
 have e1:rwC ⟨T,n⟩=[.arr (tmE T),.int .i64 n]:=rfl
 have e2:rwC ⟨U,m⟩=[.arr (tmE U),.int .i64 m]:=rfl
 rw [e1,e2]
 refine Cl.of_body rfl Tryz.func145 rfl rfl rfl ?_
 by_cases h1:n=m
 ·
  have ha:decide ((⟨T,n⟩:Rw)=⟨U,m⟩)=decide (T=U):=by simp [h1]
  rw [ha]
  obtain ⟨b,hb⟩:∃ b,decide (T=U)=b:=⟨_,rfl⟩
  rw [hb] at kt ⊢
  cases b with
  | true=>
   repeat' (first
|(with_reducible apply EvK.seq)
|((with_reducible apply EvK.text);(try case hm=>exact rfl))
|(with_reducible apply EvK.ret)
|((with_reducible apply EvO.spd_t);(case hp=>exact fao))
|(with_reducible apply EvO.nilT)
|((with_reducible apply EvO.gt0);(case hW=>exact rfl);(case hx=>first
|(exact oqF kt)
|exact opq))
|((with_reducible apply EvO.u0);(case hx=>exact opq))
|fail)
   exact ⟨.inr rfl,rfl⟩
  | false=>
   repeat' (first
|(with_reducible apply EvK.seq)
|((with_reducible apply EvK.text);(try case hm=>exact rfl))
|(with_reducible apply EvK.ret)
|((with_reducible apply EvO.spd_t);(case hp=>exact fao))
|(with_reducible apply EvO.nilT)
|((with_reducible apply EvO.gt0);(case hW=>exact rfl);(case hx=>first
|(exact oqF kt)
|exact opq))
|((with_reducible apply EvO.u0);(case hx=>exact opq))
|fail)
   exact ⟨.inr rfl,rfl⟩
 ·
  have ha:decide ((⟨T,n⟩:Rw)=⟨U,m⟩)=false:=by simp [h1]
  rw [ha]
  repeat' (first
|(with_reducible apply EvK.seq)
|((with_reducible apply EvK.text);(try case hm=>exact rfl))
|(with_reducible apply EvK.ret)
|((with_reducible apply EvO.spd_f);(case hp=>exact fao))
|(with_reducible apply EvO.nilT)
|((with_reducible apply EvO.gf);(case hW=>exact rfl))
|((with_reducible apply EvO.u0);(case hx=>exact opq))
|fail)
  exact ⟨.inr rfl,rfl⟩
theorem okstr (L:List ByteArray):okSz 1 (nmE L)=true:=by
 cases L <;> rfl
theorem takestr (L:List ByteArray) (k:Nat):(nmE L).take k=(L.take k).map fun s=>[.str s]:=by simp [nmE,List.map_take]
theorem distR_bad {L:List ByteArray} {q:Nat} {s:ByteArray} (h:L[q]?=some s) (hb:¬ (nmB s=true∧((L.take q).any fun u=>decide (u=s))=false)):allG (distOk L) q (L.drop q)=false:=by
 rw [allG_hit h]
 have:distOk L q s=false:=by
  rw [← Bool.not_eq_true]
  intro h'
  simp only [distOk,Bool.and_eq_true,Bool.not_eq_true'] at h'
  exact hb h'
 rw [this];rfl
theorem distR_ok {L:List ByteArray} {q:Nat} {s:ByteArray} (h:L[q]?=some s) (h1:nmB s=true) (h2:((L.take q).any fun u=>decide (u=s))=false):allG (distOk L) q (L.drop q)=allG (distOk L) (q+1) (L.drop (q+1)):=by
 rw [allG_hit h]
 unfold distOk
 rw [h1,h2];rfl
theorem rdist_c {L:List ByteArray} (hl:L.length≤140737488351232):Cl cfg 98 [.t (.arr (nmE L))] [] (.t (.bool (distB L))) []:=by
 have hL:=nmE_len L
 have e0:distB L=allG (distOk L) 0 (L.drop 0):=rfl
 rw [e0]
 refine Cl.of_body rfl Tryz.func98 rfl rfl rfl ?_
 repeat' (first
|(with_reducible first|apply EvK.seq|apply EvK.block)
|((with_reducible apply EvK.text);(try case hm=>exact rfl))
|(with_reducible apply EvO.nilT)
|((with_reducible apply EvO.u0);(case hx=>exact opq))
|fail)
 apply EvK.loopV
 case ho=>exact rfl
 case hp=>exact rfl
 case hl=>exact rfl
 case hs=>exact slt
 refine EvL.ind (fun q:Nat=>[(3,.t (.int .i64 (q:Int)))]) (fun q=>q≤L.length∧allG (distOk L) 0 (L.drop 0)=allG (distOk L) q (L.drop q)) (fun q=>L.length - q) 0 rfl ⟨by omega,rfl⟩ (fun q hq=>?_)
 obtain ⟨h1,h2⟩:=hq
 rw [h2]
 rcases Nat.lt_or_ge q L.length with h3|h3
 ·
  obtain ⟨s,hs⟩:=get_of_lt h3
  have hc:=nmE_get hs
  have kn:=rname_c s
  have kh:=rhas_c (L:=L.take q) (s:=s) (by simp;omega)
  have hbad:=distR_bad hs
  have hok:=distR_ok hs
  cases hn:nmB s with
  | false=>
   rw [hn] at kn
   rw [hbad (fun h=>by rw [hn] at h;cases h.1)]
   repeat' (first
|(with_reducible first|apply EvK.seq|apply EvK.block)
|((with_reducible apply EvK.text);(try case hm=>exact rfl))
|((with_reducible apply EvK.drawn);(case hm=>exact rfl))
|(with_reducible first|apply EvK.skip|apply EvK.ret|apply thenK_n|apply thenK_r|apply blockK_r)
|((with_reducible apply EvK.cond_t);(case hc=>exact rfl))
|((with_reducible apply EvO.spd_t);(case hp=>exact fao))
|(with_reducible apply EvO.nilT)
|((with_reducible apply EvO.gf);(case hW=>exact rfl))
|((with_reducible apply EvO.u0);(case hx=>first
|(exact oqF kn)
|exact opq))
|fail)
   exact ⟨.inr rfl,rfl⟩
  | true=>
   rw [hn] at kn
   cases ha:(L.take q).any fun u=>decide (u=s) with
   | true=>
    rw [ha] at kh
    rw [hbad (fun h=>by rw [ha] at h;cases h.2)]
    repeat' (first
|(with_reducible first|apply EvK.seq|apply EvK.block)
|((with_reducible apply EvK.text);(try case hm=>exact rfl))
|((with_reducible apply EvK.drawn);(case hm=>exact rfl))
|(with_reducible first|apply EvK.skip|apply EvK.ret|apply thenK_n|apply thenK_r|apply blockK_r)
|((with_reducible apply EvK.cond_t);(case hc=>exact rfl))
|((with_reducible apply EvO.spd_t);(case hp=>exact fao))
|(with_reducible apply EvO.nilT)
|((with_reducible apply EvO.gt0);(case hW=>exact rfl);(case hx=>first
|((with_reducible apply OpR.slh);(case he|hx|hi=>exact rfl);(case hn=>(rw [hL];omega));(case hz=>exact okstr _);(case hv=>exact takestr _ _))
|(exact oqF kh)
|exact opq))
|((with_reducible apply EvO.u0);(case hx=>first
|(exact oqF kn)
|exact opq))
|fail)
    exact ⟨.inr rfl,rfl⟩
   | false=>
    rw [ha] at kh
    repeat' (first
|(with_reducible first|apply EvK.seq|apply EvK.block)
|((with_reducible apply EvK.text);(try case hm=>exact rfl))
|((with_reducible apply EvK.drawn);(case hm=>exact rfl))
|(with_reducible first|apply EvK.skip|apply thenK_n|apply blockK_n)
|((with_reducible apply EvK.cond_t);(case hc=>exact rfl))
|((with_reducible apply EvK.cond_f);(case hc=>exact rfl))
|((with_reducible apply EvO.spd_t);(case hp=>exact fao))
|(with_reducible apply EvO.nilT)
|((with_reducible apply EvO.gt0);(case hW=>exact rfl);(case hx=>first
|((with_reducible apply OpR.slh);(case he|hx|hi=>exact rfl);(case hn=>(rw [hL];omega));(case hz=>exact okstr _);(case hv=>exact takestr _ _))
|(exact oqF kh)
|exact opq))
|((with_reducible apply EvO.u0);(case hx=>first
|(exact oqF kn)
|exact opq))
|fail)
    exact ⟨q+1,rfl,rfl,⟨by omega,hok hn ha⟩,by omega⟩
 ·
  rw [allG_end h3]
  repeat' (first
|(with_reducible apply EvK.seq)
|((with_reducible apply EvK.text);(try case hm=>exact rfl))
|(with_reducible first|apply EvK.exit|apply EvK.ret|apply thenK_n|apply thenK_e|apply blockK_h)
|((with_reducible apply EvK.cond_f);(case hc=>exact rfl))
|((with_reducible apply EvO.spd_f);(case hp=>exact fao))
|(with_reducible apply EvO.nilT)
|((with_reducible apply EvO.u0);(case hx=>exact opq))
|fail)
  exact ⟨.inr rfl,rfl⟩
theorem rbtw1 (n:Int):Cl cfg 148 [.t (.int .i64 n),.t (.int .i64 1000)] [] (.t (.bool (btw n 1000))) []:=by
 refine Cl.of_body rfl Tryz.func148 rfl rfl rfl ?_
 repeat' (first
|(with_reducible apply EvK.seq)
|((with_reducible apply EvK.text);(try case hm=>exact rfl))
|(with_reducible apply EvK.ret)
|((with_reducible apply EvO.spd) <;> intro hq)
|((with_reducible apply EvO.spd_y) <;> intro hq)
|(with_reducible apply EvO.nilT)
|((with_reducible apply EvO.gf);(case hW=>exact rfl))
|((with_reducible apply EvO.gt0);(case hW=>exact rfl);(case hx=>exact opq))
|((with_reducible apply EvO.u0);(case hx=>first
|((with_reducible apply OpR.negr);(case hx=>exact rfl);(case h=>omega))
|exact opq))
|fail)
 all_goals (refine fin_b (.inr rfl) rfl ?_;unfold btw;first|(simp_all;done)|(simp_all;omega))
theorem rbtw2 (n:Int):Cl cfg 148 [.t (.int .i64 n),.t (.int .i64 9999)] [] (.t (.bool (btw n 9999))) []:=by
 refine Cl.of_body rfl Tryz.func148 rfl rfl rfl ?_
 repeat' (first
|(with_reducible apply EvK.seq)
|((with_reducible apply EvK.text);(try case hm=>exact rfl))
|(with_reducible apply EvK.ret)
|((with_reducible apply EvO.spd) <;> intro hq)
|((with_reducible apply EvO.spd_y) <;> intro hq)
|(with_reducible apply EvO.nilT)
|((with_reducible apply EvO.gf);(case hW=>exact rfl))
|((with_reducible apply EvO.gt0);(case hW=>exact rfl);(case hx=>exact opq))
|((with_reducible apply EvO.u0);(case hx=>first
|((with_reducible apply OpR.negr);(case hx=>exact rfl);(case h=>omega))
|exact opq))
|fail)
 all_goals (refine fin_b (.inr rfl) rfl ?_;unfold btw;first|(simp_all;done)|(simp_all;omega))
theorem rbtw3 (n:Int):Cl cfg 148 [.t (.int .i64 n),.t (.int .i64 1000000000)] [] (.t (.bool (btw n 1000000000))) []:=by
 refine Cl.of_body rfl Tryz.func148 rfl rfl rfl ?_
 repeat' (first
|(with_reducible apply EvK.seq)
|((with_reducible apply EvK.text);(try case hm=>exact rfl))
|(with_reducible apply EvK.ret)
|((with_reducible apply EvO.spd) <;> intro hq)
|((with_reducible apply EvO.spd_y) <;> intro hq)
|(with_reducible apply EvO.nilT)
|((with_reducible apply EvO.gf);(case hW=>exact rfl))
|((with_reducible apply EvO.gt0);(case hW=>exact rfl);(case hx=>exact opq))
|((with_reducible apply EvO.u0);(case hx=>first
|((with_reducible apply OpR.negr);(case hx=>exact rfl);(case h=>omega))
|exact opq))
|fail)
 all_goals (refine fin_b (.inr rfl) rfl ?_;unfold btw;first|(simp_all;done)|(simp_all;omega))
theorem termOk_iff {n:Int} {l:List Tm} {i:Nat} {t:Tm}:termOk n l i t=true↔(0≤t.cell∧t.cell < n)∧(i=0∨(l.getD (i - 1) ⟨0,0⟩).cell < t.cell)∧t.factor≠0∧btw t.factor 1000=true:=by
 unfold termOk
 simp only [Bool.and_eq_true,Bool.or_eq_true,Bool.not_eq_true',decide_eq_true_eq,decide_eq_false_iff_not,ne_eq]
section
variable {α:Type} {p:Nat→α→Bool} {l:List α} {q:Nat} {x:α}
theorem allG_bad (h:l[q]?=some x) (hb:¬ p q x=true):allG p q (l.drop q)=false:=by
 rw [allG_hit h,Bool.not_eq_true _ |>.mp hb];rfl
theorem allG_ok (h:l[q]?=some x) (hb:p q x=true):allG p q (l.drop q)=allG p (q+1) (l.drop (q+1)):=by
 rw [allG_hit h,hb];rfl
end
theorem rrow_c {n:Int} {r:Rw} (hl:r.terms.length≤140737488351232):Cl cfg 146 [.t (.agg (rwC r)),.t (.int .i64 n)] [] (.t (.bool (rowB n r))) []:=by
 obtain ⟨T,B⟩:=r
 have e1:rwC ⟨T,B⟩=[.arr (tmE T),.int .i64 B]:=rfl
 have e2:rowB n ⟨T,B⟩=(allG (termOk n T) 0 (T.drop 0) && btw B 1000000000):=rfl
 rw [e1,e2]
 have hl:T.length≤140737488351232:=hl
 have hT:=tmE_len T
 have kB:=rbtw3 B
 refine Cl.of_body rfl Tryz.func146 rfl rfl rfl ?_
 repeat' (first
|(with_reducible first|apply EvK.seq|apply EvK.block)
|((with_reducible apply EvK.text);(try case hm=>exact rfl))
|(with_reducible apply EvO.nilT)
|((with_reducible apply EvO.u0);(case hx=>exact opq))
|fail)
 apply EvK.loopV
 case ho=>exact rfl
 case hp=>exact rfl
 case hl=>exact rfl
 case hs=>exact slt
 refine EvL.ind (fun q:Nat=>[(5,.t (.int .i64 (q:Int)))]) (fun q=>q≤T.length∧allG (termOk n T) 0 (T.drop 0)=allG (termOk n T) q (T.drop q)) (fun q=>T.length - q) 0 rfl ⟨by omega,rfl⟩ (fun q hq=>?_)
 obtain ⟨h1,h2⟩:=hq
 rw [h2]
 rcases Nat.lt_or_ge q T.length with h3|h3
 ·
  obtain ⟨t,ht⟩:=get_of_lt h3
  have hc:=tmE_get ht
  have kf:=rbtw1 t.factor
  have hbad:=allG_bad (p:=termOk n T) ht
  have hok:=allG_ok (p:=termOk n T) ht
  rw [termOk_iff] at hbad hok
  obtain ⟨bf,hbf⟩:∃ b,btw t.factor 1000=b:=⟨_,rfl⟩
  rw [hbf] at kf hbad hok
  cases q with
  | zero=>
   cases bf with
   | false=>
    rw [hbad (fun h=>by cases h.2.2.2)]
    repeat' (first
|(with_reducible first|apply EvK.seq|apply EvK.block)
|((with_reducible apply EvK.text);(try case hm=>exact rfl))
|((with_reducible apply EvK.drawn);(case hm=>exact rfl))
|(with_reducible first|apply EvK.skip|apply EvK.ret|apply thenK_n|apply thenK_r|apply blockK_r)
|((with_reducible apply EvK.cond_t);(case hc=>exact rfl))
|((with_reducible apply EvO.spd_t);(case hp=>exact fao))
|((with_reducible apply EvO.spd) <;> intro hq)
|((with_reducible apply EvO.spd_yf);(case hp=>exact fao))
|((with_reducible apply EvO.spd_y) <;> intro hq)
|(with_reducible apply EvO.nilT)
|((with_reducible apply EvO.gf);(case hW=>exact rfl))
|((with_reducible apply EvO.gt0);(case hW=>exact rfl);(case hx=>first
|(exact oqF kf)
|exact opq))
|((with_reducible apply EvO.u0);(case hx=>exact opq))
|fail)
    all_goals exact ⟨.inr rfl,rfl⟩
   | true=>
    repeat' (first
|(with_reducible first|apply EvK.seq|apply EvK.block)
|((with_reducible apply EvK.text);(try case hm=>exact rfl))
|((with_reducible apply EvK.drawn);(case hm=>exact rfl))
|(with_reducible first|apply EvK.skip|apply EvK.ret|apply thenK_n|apply thenK_r|apply blockK_n|apply blockK_r)
|((with_reducible apply EvK.cond_t);(case hc=>exact rfl))
|((with_reducible apply EvK.cond_f);(case hc=>exact rfl))
|((with_reducible apply EvO.spd_t);(case hp=>exact fao))
|((with_reducible apply EvO.spd) <;> intro hq)
|((with_reducible apply EvO.spd_yf);(case hp=>exact fao))
|((with_reducible apply EvO.spd_y) <;> intro hq)
|(with_reducible apply EvO.nilT)
|((with_reducible apply EvO.gf);(case hW=>exact rfl))
|((with_reducible apply EvO.gt0);(case hW=>exact rfl);(case hx=>first
|(exact oqF kf)
|exact opq))
|((with_reducible apply EvO.u0);(case hx=>exact opq))
|fail)
    all_goals first
     | exact fin_b (.inr rfl) rfl (by rw [hbad (fun h=>by obtain ⟨_,_,_,_⟩:=h;omega)];rfl)
     | exact ⟨0+1,rfl,rfl,⟨by omega,hok ⟨by omega,.inl rfl,by omega,rfl⟩⟩,by omega⟩
  | succ k=>
   obtain ⟨u,hu⟩:=get_of_lt (xs:=T) (k:=k) (by omega)
   have hcu:=tmE_get hu
   have hcu':(tmE T)[((k+1:Nat) - 1:Int).toNat]?=some [.int .i64 u.cell,.int .i64 u.factor]:=by rw [show ((k+1:Nat) - 1:Int).toNat=k by omega];exact hcu
   have hgu:T.getD (k+1 - 1) ⟨0,0⟩=u:=by rw [Nat.add_sub_cancel,List.getD_eq_getElem?_getD,hu];rfl
   rw [hgu] at hbad hok
   cases bf with
   | false=>
    rw [hbad (fun h=>by cases h.2.2.2)]
    repeat' (first
|(with_reducible first|apply EvK.seq|apply EvK.block)
|((with_reducible apply EvK.text);(try case hm=>exact rfl))
|((with_reducible apply EvK.drawn);(case hm=>exact rfl))
|(with_reducible first|apply EvK.skip|apply EvK.ret|apply thenK_n|apply thenK_r|apply blockK_r)
|((with_reducible apply EvK.cond_t);(case hc=>exact rfl))
|((with_reducible apply EvO.spd_t);(case hp=>exact fao))
|((with_reducible apply EvO.spd) <;> intro hq)
|((with_reducible apply EvO.spd_yt);(case hp=>exact fao))
|((with_reducible apply EvO.spd_y) <;> intro hq)
|(with_reducible apply EvO.nilT)
|((with_reducible apply EvO.gf);(case hW=>exact rfl))
|((with_reducible apply EvO.gt0);(case hW=>exact rfl);(case hx=>first
|(exact oqF kf)
|exact opq))
|((with_reducible apply EvO.u0);(case hx=>exact opq))
|fail)
    all_goals exact ⟨.inr rfl,rfl⟩
   | true=>
    repeat' (first
|(with_reducible first|apply EvK.seq|apply EvK.block)
|((with_reducible apply EvK.text);(try case hm=>exact rfl))
|((with_reducible apply EvK.drawn);(case hm=>exact rfl))
|(with_reducible first|apply EvK.skip|apply EvK.ret|apply thenK_n|apply thenK_r|apply blockK_n|apply blockK_r)
|((with_reducible apply EvK.cond_t);(case hc=>exact rfl))
|((with_reducible apply EvK.cond_f);(case hc=>exact rfl))
|((with_reducible apply EvO.spd_t);(case hp=>exact fao))
|((with_reducible apply EvO.spd) <;> intro hq)
|((with_reducible apply EvO.spd_yt);(case hp=>exact fao))
|((with_reducible apply EvO.spd_y) <;> intro hq)
|(with_reducible apply EvO.nilT)
|((with_reducible apply EvO.gf);(case hW=>exact rfl))
|((with_reducible apply EvO.gt0);(case hW=>exact rfl);(case hx=>first
|(exact oqF kf)
|exact opq))
|((with_reducible apply EvO.u0);(case hx=>exact opq))
|fail)
    all_goals first
     | exact fin_b (.inr rfl) rfl (by rw [hbad (fun h=>by obtain ⟨_,_,_,_⟩:=h;omega)];rfl)
     | exact ⟨k+1+1,rfl,rfl,⟨by omega,hok ⟨by omega,.inr (by omega),by omega,rfl⟩⟩,by omega⟩
 ·
  rw [allG_end h3]
  repeat' (first
|(with_reducible apply EvK.seq)
|((with_reducible apply EvK.text);(try case hm=>exact rfl))
|(with_reducible first|apply EvK.exit|apply EvK.ret|apply thenK_n|apply thenK_e|apply blockK_h)
|((with_reducible apply EvK.cond_f);(case hc=>exact rfl))
|((with_reducible apply EvO.spd_f);(case hp=>exact fao))
|(with_reducible apply EvO.nilT)
|((with_reducible apply EvO.u0);(case hx=>first
|(exact oqF kB)
|exact opq))
|fail)
  exact ⟨.inr rfl,rfl⟩
end Go.Proofs.YtgbfedgghjcdcaaGreatDoor
