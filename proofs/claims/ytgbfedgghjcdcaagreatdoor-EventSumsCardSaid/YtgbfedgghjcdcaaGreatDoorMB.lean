/- The reference's scanning of a word,as contracts. No condition. -/
import Derived.Test.YtgbfedgghjcdcaaGreatDoorMA
set_option linter.unusedSimpArgs false
set_option linter.unusedVariables false
set_option linter.unusedSectionVars false
namespace Go.Proofs.YtgbfedgghjcdcaaGreatDoor
open Go.RowKit
set_option maxRecDepth 100000
set_option maxHeartbeats 16000000
def tkC (t:Tok):List AV:=[.int .i64 t.kind,.int .i64 (t.frm:Int),.int .i64 (t.at_:Int),.int .i64 (t.end_:Int)]
def tkE (l:List Tok):List (List AV):=l.map tkC
theorem rscan_c {l:List UInt8} (hl:l.length≤4096):Cl cfg 208 [.t (.str (bs l))] [] (.tup [.ls 0,.t (.int .i64 0)]) [.row false false 4 (tkE (scanA l))]:=by
 have hsz:(bs l).size=l.length:=bs_size l
 refine Cl.of_body rfl Tryz.func208 rfl rfl rfl ?_
 repeat' (first
|(with_reducible first|apply EvK.seq|apply EvK.block)
|((with_reducible apply EvK.text);(try case hm=>exact rfl))
|(with_reducible first|apply EvK.skip|apply thenK_n)
|((with_reducible apply EvK.cond_f);(case hc=>exact rfl))
|((with_reducible apply EvO.spd_f);(case hp=>exact fao))
|(with_reducible apply EvO.nilT)
|((with_reducible apply EvO.u0);(case hx=>exact opq))
|fail)
 apply EvK.loopV
 case ho=>exact rfl
 case hp=>exact rfl
 case hl=>exact rfl
 case hs=>exact slt
 refine EvL.indF (fun s:Nat×Bool×List Tok=>[(4,.ls 0),(5,.t (.int .i64 (s.1:Int)))]) (fun s=>[.row false s.2.1 4 (tkE s.2.2)]) (fun s=>s.1≤l.length∧s.2.2.length≤s.1∧s.2.2++scanF l s.1=scanA l) (fun s=>l.length - s.1) (0,false,[]) rfl rfl ⟨by simp,by simp,rfl⟩ (fun s hq=>?_)
 obtain ⟨q,tch,T⟩:=s
 dsimp only at hq ⊢
 obtain ⟨h1,h2,h3⟩:=hq
 have ks:=rskip_c (q0:=q) (l:=l) (by omega) h1
 have ha:=atL_le h1
 have hT:(tkE T).length=T.length:=by simp [tkE]
 rcases Nat.lt_or_ge (atL l q) l.length with h4|h4
 ·
  have kt:=rtoken_c (l:=l) (by omega) h4
  have hg:=endL_gt h4
  have hE:atL l q+(tokL (l.drop (atL l q))).2=endL l q:=rfl
  rw [hE] at kt
  have hsn:tkE T++[[.int .i64 (tokL (l.drop (atL l q))).1,.int .i64 (q:Int),.int .i64 (atL l q:Int),.int .i64 (endL l q:Int)]]=tkE (T++[⟨(tokL (l.drop (atL l q))).1,q,atL l q,endL l q⟩]):=by simp [tkE,tkC]
  have hst:=scanF_s h1 h4
  repeat' (first
|(with_reducible first|apply EvK.seq|apply EvK.block)
|((with_reducible apply EvK.text);(try case hm=>exact rfl))
|(with_reducible first|apply EvK.skip|apply thenK_n)
|((with_reducible apply EvK.cond_t);(case hc=>exact rfl))
|((with_reducible apply EvO.spd_t);(case hp=>exact fao))
|(with_reducible first|apply EvO.nilT|apply EvO.nilB)
|((with_reducible apply EvO.u);(case hx=>((with_reducible apply OpR.apr);(case hs=>exact fun _=>rfl);(case ha|ht=>exact rfl);(case hr=>first|(with_reducible exact rw0)|(with_reducible exact rw1)|(with_reducible exact rw2)|(with_reducible exact rw3)|(with_reducible exact rw4)|exact rfl);(case hx|hy|hn|hb|hok=>exact rfl);(case hlen=>exact lenG (by rw [hT];simp;omega) (by decide));(case hv=>exact hsn);(case hk=>exact kfr);(case hf=>exact leq))))
|((with_reducible apply EvO.u0);(case hx=>first
|(exact oqF ks)
|(exact oqF kt)
|exact opq))
|fail)
  refine ⟨(endL l q,true,T++[⟨(tokL (l.drop (atL l q))).1,q,atL l q,endL l q⟩]),rfl,rfl,⟨hg.2,by simp;omega,?_⟩,by dsimp only;omega⟩
  dsimp only
  rw [List.append_assoc,List.singleton_append,← hst]
  exact h3
 ·
  have hst:=scanF_e h1 (by omega)
  have hsn:tkE T++[[.int .i64 0,.int .i64 (q:Int),.int .i64 (l.length:Int),.int .i64 (l.length:Int)]]=tkE (scanA l):=by rw [← h3,hst];simp [tkE,tkC]
  repeat' (first
|(with_reducible apply EvK.seq)
|((with_reducible apply EvK.text);(try case hm=>exact rfl))
|(with_reducible first|apply EvK.exit|apply EvK.ret|apply thenK_n|apply thenK_e|apply blockK_h)
|((with_reducible apply EvK.cond_f);(case hc=>exact rfl))
|((with_reducible apply EvO.spd_f);(case hp=>exact fao))
|(with_reducible apply EvO.nilT)
|((with_reducible apply EvO.u);(case hx=>((with_reducible apply OpR.apr);(case hs=>exact fun _=>rfl);(case ha|ht=>exact rfl);(case hr=>first|(with_reducible exact rw0)|(with_reducible exact rw1)|(with_reducible exact rw2)|(with_reducible exact rw3)|(with_reducible exact rw4)|exact rfl);(case hx|hy|hn|hb|hok=>exact rfl);(case hlen=>exact lenG (by rw [hT];simp;omega) (by decide));(case hv=>exact hsn);(case hk=>exact kfr);(case hf=>exact leq))))
|((with_reducible apply EvO.u0);(case hx=>first
|(exact oqF ks)
|exact opq))
|fail)
  exact ⟨.inr rfl,rfl⟩
theorem rscan_big {l:List UInt8} (hl:4096 < l.length):Cl cfg 208 [.t (.str (bs l))] [] (.tup [.nil,.t (.int .i64 8)]) []:=by
 have hsz:(bs l).size=l.length:=bs_size l
 refine Cl.of_body rfl Tryz.func208 rfl rfl rfl ?_
 repeat' (first
|(with_reducible apply EvK.seq)
|((with_reducible apply EvK.text);(try case hm=>exact rfl))
|(with_reducible first|apply EvK.ret|apply thenK_r)
|((with_reducible apply EvK.cond_t);(case hc=>exact rfl))
|((with_reducible apply EvO.spd_t);(case hp=>exact fao))
|(with_reducible apply EvO.nilT)
|((with_reducible apply EvO.u0);(case hx=>exact opq))
|fail)
 exact ⟨.inr rfl,rfl⟩
def kindT (n:Nat):List Tok→Int
 | [t,_]=>if t.at_=0∧t.end_=n then t.kind else 0
 | _=>0
theorem kindL_eq (l:List UInt8):kindL l=if 4096 < l.length then 0 else kindT l.length (scanA l):=by
 unfold kindL
 split
 ·rfl
 ·unfold kindT
  split <;> simp_all
theorem kindT_ne {n:Nat} {T:List Tok} (h:T.length≠2):kindT n T=0:=
 match T,h with
 | [],_=>rfl
 | [_],_=>rfl
 | _::_::_::_,_=>rfl
theorem rkind_c {l:List UInt8}:Cl cfg 171 [.t (.str (bs l))] [] (.t (.int .i64 (kindL l))) []:=by
 have hsz:(bs l).size=l.length:=bs_size l
 refine Cl.of_body rfl Tryz.func171 rfl rfl rfl ?_
 by_cases h4:4096 < l.length
 ·
  have ks:=rscan_big h4
  have hk:kindL l=0:=by rw [kindL_eq,if_pos h4]
  rw [hk]
  repeat' (first
|(with_reducible apply EvK.seq)
|((with_reducible apply EvK.text);(try case hm=>exact rfl))
|(with_reducible first|apply EvK.ret|apply thenK_r)
|((with_reducible apply EvK.cond_t);(case hc=>exact rfl))
|((with_reducible apply EvO.spn_t);(case hp=>exact fao))
|(with_reducible apply EvO.nilT)
|((with_reducible apply EvO.gf);(case hW=>exact rfl))
|((with_reducible apply EvO.u0);(case hx=>first
|(exact oqF ks)
|exact opq))
|fail)
  exact ⟨.inr rfl,rfl⟩
 ·
  have ks:=rscan_c (l:=l) (by omega)
  rw [kindL_eq,if_neg h4]
  obtain ⟨T,hT⟩:∃ T,scanA l=T:=⟨_,rfl⟩
  rw [hT] at ks ⊢
  by_cases hl2:T.length=2
  ·
   obtain ⟨a,b,rfl⟩:∃ a b,T=[a,b]:=match T,hl2 with|[a,b],_=>⟨a,b,rfl⟩
   have hl2':(([a,b]:List Tok).length:Int)=2:=rfl
   have hc0:(tkE [a,b])[0]?=some [.int .i64 a.kind,.int .i64 (a.frm:Int),.int .i64 (a.at_:Int),.int .i64 (a.end_:Int)]:=rfl
   have hkt:kindT l.length [a,b]=if a.at_=0∧a.end_=l.length then a.kind else 0:=rfl
   rw [hkt]
   by_cases h1:a.at_=0
   ·
    by_cases h2:a.end_=l.length
    ·
     rw [if_pos ⟨h1,h2⟩]
     repeat' (first
|(with_reducible apply EvK.seq)
|((with_reducible apply EvK.text);(try case hm=>exact rfl))
|(with_reducible first|apply EvK.skip|apply EvK.ret|apply thenK_n)
|((with_reducible apply EvK.cond_f);(case hc=>exact rfl))
|((with_reducible apply EvO.spn_f);(case hp=>exact fao))
|((with_reducible apply EvO.spn_yf);(case hp=>exact fao))
|(with_reducible apply EvO.nilT)
|((with_reducible apply EvO.gt0);(case hW=>exact rfl);(case hx=>exact opq))
|((with_reducible apply EvO.u0);(case hx=>first
|(exact oqX ks)
|exact opq))
|fail)
     exact ⟨.inr rfl,rfl⟩
    ·
     rw [if_neg (fun h=>h2 h.2)]
     repeat' (first
|(with_reducible apply EvK.seq)
|((with_reducible apply EvK.text);(try case hm=>exact rfl))
|(with_reducible first|apply EvK.ret|apply thenK_r)
|((with_reducible apply EvK.cond_t);(case hc=>exact rfl))
|((with_reducible apply EvO.spn_f);(case hp=>exact fao))
|((with_reducible apply EvO.spn_yt);(case hp=>exact fao))
|((with_reducible apply EvO.spn_yf);(case hp=>exact fao))
|(with_reducible apply EvO.nilT)
|((with_reducible apply EvO.gt0);(case hW=>exact rfl);(case hx=>exact opq))
|((with_reducible apply EvO.u0);(case hx=>first
|(exact oqX ks)
|exact opq))
|fail)
     exact ⟨.inr rfl,rfl⟩
   ·
    rw [if_neg (fun h=>h1 h.1)]
    repeat' (first
|(with_reducible apply EvK.seq)
|((with_reducible apply EvK.text);(try case hm=>exact rfl))
|(with_reducible first|apply EvK.ret|apply thenK_r)
|((with_reducible apply EvK.cond_t);(case hc=>exact rfl))
|((with_reducible apply EvO.spn_f);(case hp=>exact fao))
|((with_reducible apply EvO.spn_yt);(case hp=>exact fao))
|((with_reducible apply EvO.spn_yf);(case hp=>exact fao))
|(with_reducible apply EvO.nilT)
|((with_reducible apply EvO.gf);(case hW=>exact rfl))
|((with_reducible apply EvO.gt0);(case hW=>exact rfl);(case hx=>exact opq))
|((with_reducible apply EvO.u0);(case hx=>first
|(exact oqX ks)
|exact opq))
|fail)
    exact ⟨.inr rfl,rfl⟩
  ·
   have h0:kindT l.length T=0:=kindT_ne hl2
   rw [h0]
   have hl3:¬ ((T.length:Int)=2):=by omega
   repeat' (first
|(with_reducible apply EvK.seq)
|((with_reducible apply EvK.text);(try case hm=>exact rfl))
|(with_reducible first|apply EvK.ret|apply thenK_r)
|((with_reducible apply EvK.cond_t);(case hc=>exact rfl))
|((with_reducible apply EvO.spn_f);(case hp=>exact fao))
|((with_reducible apply EvO.spn_yt);(case hp=>exact fao))
|(with_reducible apply EvO.nilT)
|((with_reducible apply EvO.gf);(case hW=>exact rfl))
|((with_reducible apply EvO.gt0);(case hW=>exact rfl);(case hx=>exact opq))
|((with_reducible apply EvO.u0);(case hx=>first
|(exact oqX ks)
|exact opq))
|fail)
   exact ⟨.inr rfl,rfl⟩
theorem rname_c (s:ByteArray):Cl cfg 141 [.t (.str s)] [] (.t (.bool (nmB s))) []:=by
 rw [← bso s]
 generalize s.data.toList=l
 have hsz:(bs l).size=l.length:=bs_size l
 have hn:nmB (bs l)=nameL l:=by unfold nmB;simp [bs]
 rw [hn]
 have kk:=rkind_c (l:=l)
 refine Cl.of_body rfl Tryz.func141 rfl rfl rfl ?_
 repeat' (first
|(with_reducible apply EvK.seq)
|((with_reducible apply EvK.text);(try case hm=>exact rfl))
|(with_reducible apply EvK.ret)
|((with_reducible apply EvO.spd) <;> intro hq)
|((with_reducible apply EvO.spd_y) <;> intro hq)
|(with_reducible apply EvO.nilT)
|((with_reducible apply EvO.gf);(case hW=>exact rfl))
|((with_reducible apply EvO.gt0);(case hW=>exact rfl);(case hx=>exact opq))
|((with_reducible apply EvO.u0);(case hx=>first
|(exact oqF kk)
|exact opq))
|fail)
 all_goals (refine fin_b (.inr rfl) rfl ?_;unfold nameL;simp_all <;> omega)
end Go.Proofs.YtgbfedgghjcdcaaGreatDoor
