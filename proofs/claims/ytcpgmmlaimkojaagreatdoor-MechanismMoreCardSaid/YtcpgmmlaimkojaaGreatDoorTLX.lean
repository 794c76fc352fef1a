/- The tokens of texts as the code reads them: letters,runs,white space,as contracts. No condition. -/
import Derived.Test.YtcpgmmlaimkojaaGreatDoorTL
import Derived.Test.YtcpgmmlaimkojaaGreatDoorTX
import Derived.Test.YtcpgmmlaimkojaaGreatDoorTP
import Derived.Test.YtcpgmmlaimkojaaGreatDoorTV
set_option linter.unusedSimpArgs false
set_option linter.unusedVariables false
set_option linter.unusedSectionVars false
namespace Go.Proofs.YtcpgmmlaimkojaaGreatDoor
open Go.RowKit
set_option maxRecDepth 100000
set_option maxHeartbeats 16000000
theorem lletter_l (b:UInt8):Cl cfgL 169 [.t (.int .u8 (b.toNat:Int))] [] (.t (.bool (letB b))) []:=by
 refine Cl.of_body rfl Tryz.func169 rfl rfl rfl ?_
 repeat' (first
|(with_reducible apply EvK.seq)
|((with_reducible apply EvK.text);(try case hm=>exact rfl))
|(with_reducible apply EvK.ret)
|((with_reducible apply EvO.spd) <;> intro hq)
|((with_reducible apply EvO.spd_y) <;> intro hq)
|(with_reducible apply EvO.nilT)
|((with_reducible apply EvO.gf);(case hW=>exact rfl))
|((with_reducible apply EvO.gt0);(case hW=>exact rfl);(case hx=>exact opq))
|((with_reducible apply EvO.u0);(case hx=>exact opq))
|fail)
 all_goals (refine fin_b (.inr rfl) rfl ?_;unfold letB;first|(simp_all;done)|(simp_all;omega))
theorem ldigit_l (b:UInt8):Cl cfgL 172 [.t (.int .u8 (b.toNat:Int))] [] (.t (.bool (isDig b))) []:=by
 refine Cl.of_body rfl Tryz.func172 rfl rfl rfl ?_
 repeat' (first
|(with_reducible apply EvK.seq)
|((with_reducible apply EvK.text);(try case hm=>exact rfl))
|(with_reducible apply EvK.ret)
|((with_reducible apply EvO.spd) <;> intro hq)
|((with_reducible apply EvO.spd_y) <;> intro hq)
|(with_reducible apply EvO.nilT)
|((with_reducible apply EvO.gf);(case hW=>exact rfl))
|((with_reducible apply EvO.gt0);(case hW=>exact rfl);(case hx=>exact opq))
|((with_reducible apply EvO.u0);(case hx=>exact opq))
|fail)
 all_goals (refine fin_b (.inr rfl) rfl ?_;unfold isDig;first|(simp_all;done)|(simp_all;omega))
theorem lwhite_l (b:UInt8):Cl cfgL 174 [.t (.int .u8 (b.toNat:Int))] [] (.t (.bool (whiB b))) []:=by
 refine Cl.of_body rfl Tryz.func174 rfl rfl rfl ?_
 repeat' (first
|(with_reducible apply EvK.seq)
|((with_reducible apply EvK.text);(try case hm=>exact rfl))
|(with_reducible apply EvK.ret)
|((with_reducible apply EvO.spd) <;> intro hq)
|((with_reducible apply EvO.spd_y) <;> intro hq)
|(with_reducible apply EvO.nilT)
|((with_reducible apply EvO.gf);(case hW=>exact rfl))
|((with_reducible apply EvO.gt0);(case hW=>exact rfl);(case hx=>exact opq))
|((with_reducible apply EvO.u0);(case hx=>exact opq))
|fail)
 all_goals (refine fin_b (.inr rfl) rfl ?_;unfold whiB;first|(simp_all;done)|(simp_all;omega))
theorem lnl_l (b:UInt8):Cl cfgL 179 [.t (.int .u8 (b.toNat:Int))] [] (.t (.bool (nlB b))) []:=by
 refine Cl.of_body rfl Tryz.func179 rfl rfl rfl ?_
 repeat' (first
|(with_reducible apply EvK.seq)
|((with_reducible apply EvK.text);(try case hm=>exact rfl))
|(with_reducible apply EvK.ret)
|((with_reducible apply EvO.spn) <;> intro hq)
|(with_reducible apply EvO.nilT)
|((with_reducible apply EvO.u0);(case hx=>exact opq))
|fail)
 all_goals (refine fin_b (.inr rfl) rfl ?_;unfold nlB;first|(simp_all;done)|(simp_all;omega))
theorem lpart_l (b:UInt8):Cl cfgL 171 [.t (.int .u8 (b.toNat:Int))] [] (.t (.bool (prtB b))) []:=by
 refine Cl.of_body rfl Tryz.func171 rfl rfl rfl ?_
 have k1:=lletter_l b
 have k2:=ldigit_l b
 unfold prtB
 cases h1:letB b with
 | true=>
  rw [h1] at k1
  exact drv
 | false=>
  rw [h1] at k1
  cases h2:isDig b with
  | true=>
   rw [h2] at k2
   exact drv
  | false=>
   rw [h2] at k2
   exact drv
theorem run_lpart_l {l:List UInt8} (hl:l.length≤1000000):Cl cfgL 170 [.t (.str (bs l)),.t (.fn (.func 171) 0 [])] [] (.t (.int .i64 (runL prtB l:Int))) []:=by
 have hsz:(bs l).size=l.length:=bs_size l
 refine Cl.of_body rfl Tryz.func170 rfl rfl rfl ?_
 refine drvR ?_
 refine EvL.ind (fun q:Nat=>[(5,.t (.int .i64 (q:Int)))]) (fun q=>q≤l.length∧q+runL prtB (l.drop q)=runL prtB l) (fun q=>l.length - q) 0 rfl ⟨by omega,by simp⟩ (fun q hq=>?_)
 obtain ⟨h1,h2⟩:=hq
 rcases Nat.lt_or_ge q l.length with h3|h3
 ·
  obtain ⟨b,hb⟩:=get_of_lt h3
  have kp:=lpart_l b
  have hd:=drop_get hb
  cases hp:prtB b with
  | true=>
   rw [hp] at kp
   have e:runL prtB (l.drop q)=runL prtB (l.drop (q+1))+1:=by rw [hd,runL,if_pos hp]
   exact drv
  | false=>
   rw [hp] at kp
   have e:runL prtB (l.drop q)=0:=by rw [hd,runL,if_neg (by simp [hp])]
   rw [← h2,e]
   exact drv
 ·
  obtain rfl:q=l.length:=by omega
  have e:runL prtB (l.drop l.length)=0:=by rw [List.drop_length];rfl
  rw [← h2,e]
  exact drv
theorem run_ldigit_l {l:List UInt8} (hl:l.length≤1000000):Cl cfgL 170 [.t (.str (bs l)),.t (.fn (.func 172) 0 [])] [] (.t (.int .i64 (runL isDig l:Int))) []:=by
 have hsz:(bs l).size=l.length:=bs_size l
 refine Cl.of_body rfl Tryz.func170 rfl rfl rfl ?_
 refine drvR ?_
 refine EvL.ind (fun q:Nat=>[(5,.t (.int .i64 (q:Int)))]) (fun q=>q≤l.length∧q+runL isDig (l.drop q)=runL isDig l) (fun q=>l.length - q) 0 rfl ⟨by omega,by simp⟩ (fun q hq=>?_)
 obtain ⟨h1,h2⟩:=hq
 rcases Nat.lt_or_ge q l.length with h3|h3
 ·
  obtain ⟨b,hb⟩:=get_of_lt h3
  have kp:=ldigit_l b
  have hd:=drop_get hb
  cases hp:isDig b with
  | true=>
   rw [hp] at kp
   have e:runL isDig (l.drop q)=runL isDig (l.drop (q+1))+1:=by rw [hd,runL,if_pos hp]
   exact drv
  | false=>
   rw [hp] at kp
   have e:runL isDig (l.drop q)=0:=by rw [hd,runL,if_neg (by simp [hp])]
   rw [← h2,e]
   exact drv
 ·
  obtain rfl:q=l.length:=by omega
  have e:runL isDig (l.drop l.length)=0:=by rw [List.drop_length];rfl
  rw [← h2,e]
  exact drv
theorem run_lnl_l {l:List UInt8} (hl:l.length≤1000000):Cl cfgL 170 [.t (.str (bs l)),.t (.fn (.func 179) 0 [])] [] (.t (.int .i64 (runL nlB l:Int))) []:=by
 have hsz:(bs l).size=l.length:=bs_size l
 refine Cl.of_body rfl Tryz.func170 rfl rfl rfl ?_
 refine drvR ?_
 refine EvL.ind (fun q:Nat=>[(5,.t (.int .i64 (q:Int)))]) (fun q=>q≤l.length∧q+runL nlB (l.drop q)=runL nlB l) (fun q=>l.length - q) 0 rfl ⟨by omega,by simp⟩ (fun q hq=>?_)
 obtain ⟨h1,h2⟩:=hq
 rcases Nat.lt_or_ge q l.length with h3|h3
 ·
  obtain ⟨b,hb⟩:=get_of_lt h3
  have kp:=lnl_l b
  have hd:=drop_get hb
  cases hp:nlB b with
  | true=>
   rw [hp] at kp
   have e:runL nlB (l.drop q)=runL nlB (l.drop (q+1))+1:=by rw [hd,runL,if_pos hp]
   exact drv
  | false=>
   rw [hp] at kp
   have e:runL nlB (l.drop q)=0:=by rw [hd,runL,if_neg (by simp [hp])]
   rw [← h2,e]
   exact drv
 ·
  obtain rfl:q=l.length:=by omega
  have e:runL nlB (l.drop l.length)=0:=by rw [List.drop_length];rfl
  rw [← h2,e]
  exact drv
theorem lskip_l {l:List UInt8} (hl:l.length≤1000000):Cl cfgL 168 [.t (.str (bs l))] [] (.t (.int .i64 (skipL false l:Int))) []:=by
 have hsz:(bs l).size=l.length:=bs_size l
 refine Cl.of_body rfl Tryz.func168 rfl rfl rfl ?_
 refine drvR ?_
 refine EvL.ind (fun q:Nat=>[(3,.t (.int .i64 (q:Int)))]) (fun q=>q≤l.length∧q+skipL false (l.drop q)=skipL false l) (fun q=>l.length - q) 0 rfl ⟨by omega,by simp⟩ (fun q hq=>?_)
 obtain ⟨h1,h2⟩:=hq
 rcases Nat.lt_or_ge q l.length with h3|h3
 ·
  obtain ⟨b,hb⟩:=get_of_lt h3
  have kw:=lwhite_l b
  have hd:=drop_get hb
  cases hw:whiB b with
  | true=>
   rw [hw] at kw
   have hs:=skip_w hb hw
   exact drv
  | false=>
   rw [hw] at kw
   by_cases h35:(b.toNat:Int)=35
   ·
    have hs:=skip_hash (r:=l.drop (q+1)) hw (by omega)
    rw [← hd,List.drop_drop] at hs
    have hrl:=runL_le nlB (l.drop q)
    rw [List.length_drop] at hrl
    have hr1:1≤runL nlB (l.drop q):=by
     rw [hd,runL,if_pos (by simp [nlB];omega)]
     omega
    have kr:=run_lnl_l (l:=l.drop q) (by rw [List.length_drop];omega)
    have hcut:(bs l).extract q (bs l).size=bs (l.drop q):=by rw [bs_cuts,hsz,List.take_length]
    generalize runL nlB (l.drop q)=n at *
    repeat' (first
|(with_reducible first|apply EvK.seq|apply EvK.block)
|((with_reducible apply EvK.text);(try case hm=>exact rfl))
|(with_reducible first|apply EvK.skip|apply thenK_n|apply blockK_n)
|((with_reducible apply EvK.cond_t);(case hc=>exact rfl))
|((with_reducible apply EvK.cond_f);(case hc=>exact rfl))
|((with_reducible apply EvO.spd_t);(case hp=>exact fao))
|(with_reducible first|apply EvO.nilT|apply EvO.nilB)
|((with_reducible apply EvO.u0);(case hx=>first
|((with_reducible apply OpR.six);(case hx|hi|hst=>exact rfl);(case h0=>omega);(case hb=>assumption))
|((with_reducible apply OpR.slo);(case hst|hx|hl=>exact rfl);(case h0=>omega);(case hls=>first|assumption|omega);(case hv=>exact hcut))
|(exact oqF kw)
|(exact oqF kr)
|exact opq))
|fail)
    exact ⟨q+n,rfl,rfl,⟨by omega,by omega⟩,by omega⟩
   ·
    have hs:=skip_n hb hw (by omega)
    rw [← h2,hs]
    exact drv
 ·
  obtain rfl:q=l.length:=by omega
  have hs:=skip_e (l:=l) false (Nat.le_refl _)
  rw [← h2,hs]
  exact drv
end Go.Proofs.YtcpgmmlaimkojaaGreatDoor
namespace Go.Proofs.YtcpgmmlaimkojaaGreatDoor
open Go.RowKit
set_option maxRecDepth 100000
set_option maxHeartbeats 16000000
theorem lhp_l {s p:List UInt8} (hs:s.length≤1000000) (hp:p.length≤1000000):Cl cfgL 189 [.t (.str (bs s)),.t (.str (bs p))] [] (.t (.bool (hasPre p s))) []:=by
 have hs1:(bs s).size=s.length:=bs_size s
 have hp1:(bs p).size=p.length:=bs_size p
 refine Cl.of_body rfl Tryz.func189 rfl rfl rfl ?_
 by_cases h4:p.length≤s.length
 ·
  have hx:(bs s).extract 0 (bs p).size=bs (s.take p.length):=by rw [hp1,bs_cuts];rfl
  by_cases h5:s.take p.length=p
  ·
   have hee:bs (s.take p.length)=bs p:=by rw [h5]
   have e:hasPre p s=true:=by unfold hasPre;simp [h4,h5]
   rw [e]
   repeat' (first
|(with_reducible apply EvK.seq)
|((with_reducible apply EvK.text);(try case hm=>exact rfl))
|(with_reducible apply EvK.ret)
|((with_reducible apply EvO.spd_t);(case hp=>exact fao))
|((with_reducible apply EvO.spd_yt);(case hp=>exact fao))
|(with_reducible apply EvO.nilT)
|((with_reducible apply EvO.gt0);(case hW=>exact rfl);(case hx=>first
|((with_reducible apply OpR.shi);(case hst|hx|hh=>exact rfl);(case hhs=>first|assumption|omega);(case hv=>exact hx))
|exact opq))
|((with_reducible apply EvO.u0);(case hx=>exact opq))
|fail)
   exact ⟨.inr rfl,rfl⟩
  ·
   have hee:¬ bs (s.take p.length)=bs p:=fun h=>h5 (bsi h)
   have e:hasPre p s=false:=by unfold hasPre;simp [h5]
   rw [e]
   repeat' (first
|(with_reducible apply EvK.seq)
|((with_reducible apply EvK.text);(try case hm=>exact rfl))
|(with_reducible apply EvK.ret)
|((with_reducible apply EvO.spd_t);(case hp=>exact fao))
|((with_reducible apply EvO.spd_yf);(case hp=>exact fao))
|(with_reducible apply EvO.nilT)
|((with_reducible apply EvO.gt0);(case hW=>exact rfl);(case hx=>first
|((with_reducible apply OpR.shi);(case hst|hx|hh=>exact rfl);(case hhs=>first|assumption|omega);(case hv=>exact hx))
|exact opq))
|((with_reducible apply EvO.u0);(case hx=>exact opq))
|fail)
   exact ⟨.inr rfl,rfl⟩
 ·
  have e:hasPre p s=false:=by unfold hasPre;simp [h4]
  rw [e]
  exact drv
theorem lhpre_l {s p:List UInt8} (hs:s.length≤1000000) (hp:p.length≤1000000):Cl cfgL 180 [.t (.str (bs s)),.t (.str (bs p))] [] (.t (.bool (hasPre p s))) []:=by
 have k:=lhp_l hs hp
 refine Cl.of_body rfl Tryz.func180 rfl rfl rfl ?_
 exact drv
theorem lidx_l {s:ByteArray} {b:UInt8}:Cl cfgL 181 [.t (.str s),.t (.int .u8 (b.toNat:Int))] [] (.t (.int .i64 (Lib.indexByte s.data.toList b))) []:=by
 refine Cl.ext (xs:=[.str s,.int .u8 (b.toNat:Int)]) rfl rfl ?_
 have hb:b.toNat < 256:=b.toNat_lt
 have e:(Nat.beq 181 181 && decide ((0:Int)≤(b.toNat:Int)∧(b.toNat:Int) < 256))=true:=by simp;omega
 show (match Nat.beq 181 181 && decide ((0:Int)≤(b.toNat:Int)∧(b.toNat:Int) < 256) with|true=>some (SV.t (.int .i64 (Lib.indexByte s.data.toList (UInt8.ofNat (b.toNat:Int).toNat))),([]:Fr))|false=>none)=_
 rw [e]
 simp
theorem idx_mem:∀ (l:List UInt8) (c:UInt8),0≤Lib.indexByte l c↔c∈l
 | [],c=>by simp [Lib.indexByte]
 | b::l,c=>by
  have ih:=idx_mem l c
  have hg:=Lib.indexByte_ge l c
  unfold Lib.indexByte
  by_cases h:b=c
  ·subst h;simp
  ·have h':(b == c)=false:=by simpa using h
   rw [h']
   simp only [Bool.false_eq_true,if_false]
   by_cases h2:Lib.indexByte l c = -1
   ·simp only [h2,beq_self_eq_true,if_true]
    have:¬ c∈l:=fun hm=>by have:=ih.2 hm;omega
    simp [this,Ne.symm h]
   ·have h2':(Lib.indexByte l c == -1)=false:=by simpa using h2
    simp only [h2',Bool.false_eq_true,if_false]
    have:c∈l:=ih.1 (by omega)
    simp [this];omega
theorem lsymbol_l {l:List UInt8} (hl:l.length≤1000000):Cl cfgL 173 [.t (.str (bs l))] [] (.t (.int .i64 (symC l:Int))) []:=by
 have hsz:(bs l).size=l.length:=bs_size l
 have hln:(strL sy2).length=5:=rfl
 refine Cl.of_body rfl Tryz.func173 rfl rfl rfl ?_
 repeat' (first
|(with_reducible first|apply EvK.seq|apply EvK.block)
|((with_reducible apply EvK.text);(try case hm=>exact rfl))
|(with_reducible apply EvO.nilT)
|((with_reducible apply EvO.u0);(case hx=>first
|((with_reducible apply (OpR.len (n:=5)));(case ha|hy|ht|hs|hn=>exact rfl))
|exact opq))
|fail)
 apply EvK.loopV
 case ho=>exact rfl
 case hp=>exact rfl
 case hl=>exact rfl
 case hs=>exact slt
 refine EvL.ind (fun k:Nat=>[(7,.t (.int .i64 (k:Int)))]) (fun k=>k≤5∧(sy2.any fun s=>hasPre s l)=((sy2.drop k).any fun s=>hasPre s l)) (fun k=>5 - k) 0 rfl ⟨by omega,rfl⟩ (fun k hk=>?_)
 obtain ⟨h1,h2⟩:=hk
 rcases Nat.lt_or_ge k 5 with h3|h3
 ·
  obtain ⟨s,hs⟩:=get_of_lt (xs:=sy2) (k:=k) h3
  have hc:=strL_get hs
  have hs2:s.length≤1000000:=by
   have:∀ x∈sy2,x.length=2:=by decide
   rw [this s (List.mem_of_getElem? hs)];omega
  have kh:=lhpre_l (p:=s) hl hs2
  have h6:=any_hit (fun s=>hasPre s l) hs
  cases hp:hasPre s l with
  | true=>
   rw [hp] at kh
   have e:symC l=2:=by unfold symC;rw [h2,h6,hp];rfl
   rw [e]
   exact drv
  | false=>
   rw [hp] at kh
   have e:((sy2.drop k).any fun s=>hasPre s l)=((sy2.drop (k+1)).any fun s=>hasPre s l):=by rw [h6,hp];rfl
   refine drvR ?_
   exact ⟨k+1,rfl,rfl,⟨by omega,h2.trans e⟩,by omega⟩
 ·
  have h6:=any_end (l:=sy2) (fun s=>hasPre s l) (show sy2.length≤k from h3)
  cases l with
  | nil=>
   have e:symC []=0:=by unfold symC;rw [h2,h6];rfl
   have hee:bs ([]:List UInt8)=⟨#[]⟩:=rfl
   rw [e]
   exact drv
  | cons b r=>
   have hne:¬ bs (b::r)=bs []:=fun h=>by have:=bsi h;cases this
   have hb:(b::r)[0]?=some b:=rfl
   have ki:=lidx_l (s:=bs sy1) (b:=b)
   have hm:=idx_mem sy1 b
   have hd:(bs sy1).data.toList=sy1:=rfl
   rw [hd] at ki
   have e:symC (b::r)=if b∈sy1 then 1 else 0:=by unfold symC;rw [h2,h6];rfl
   by_cases hs:b∈sy1
   ·
    have h7:=hm.2 hs
    rw [e,if_pos hs]
    generalize Lib.indexByte sy1 b=n at *
    exact drv
   ·
    have h7:¬ 0≤Lib.indexByte sy1 b:=fun h=>hs (hm.1 h)
    rw [e,if_neg hs]
    generalize Lib.indexByte sy1 b=n at *
    exact drv
theorem lbegins_l {b:UInt8} {r:List UInt8} (hl:(b::r).length≤1000000):Cl cfgL 175 [.t (.str (bs (b::r)))] [] (.t (.bool (begB b r))) []:=by
 have hsz:(bs (b::r)).size=(b::r).length:=bs_size _
 have hb:(b::r)[0]?=some b:=rfl
 have hlen:(b::r).length=r.length+1:=rfl
 have k1:=lletter_l b
 have k2:=ldigit_l b
 have k3:=lsymbol_l hl
 refine Cl.of_body rfl Tryz.func175 rfl rfl rfl ?_
 unfold begB
 cases h1:letB b with
 | true=>
  rw [h1] at k1
  exact drv
 | false=>
  rw [h1] at k1
  cases h2:isDig b with
  | true=>
   rw [h2] at k2
   exact drv
  | false=>
   rw [h2] at k2
   by_cases h3:0 < symC (b::r)
   ·
    rw [decide_eq_true h3]
    exact drv
   ·
    rw [decide_eq_false h3]
    exact drv
end Go.Proofs.YtcpgmmlaimkojaaGreatDoor
namespace Go.Proofs.YtcpgmmlaimkojaaGreatDoor
open Go.RowKit
set_option maxRecDepth 100000
set_option maxHeartbeats 16000000
def kwKs:List AV:=kwL.map fun w=>.str ⟨w.toArray⟩
def kwVs:List AV:=kwL.map fun _=>.bool true
theorem lkeys_c:Cl cfg 166 [] [] (.lm 0) [.map false kwKs (kwVs.map .t)]:=⟨60,by kernel_rfl⟩
theorem ltokens_c (l:List UInt8):Cl cfg 157 [.t (.str (bs l))] [] (.fn (.func 167) 0 [.lp 0 0,.lp 1 0]) [.box false 9 [.t (.str (bs l))],.box false 147 [.t (.mp kwKs kwVs)]]:=by
 have k:=lkeys_c
 refine Cl.of_body rfl Tryz.func157 rfl rfl rfl ?_
 exact drv
theorem kwOk_kw:kwOk kwL kwKs kwVs=true:=by kernel_rfl
theorem seqK_val {l:List UInt8} (hl:l.length≤1000000):cfg.seq 167 [.tp [.str (bs l)],.tp [.mp kwKs kwVs]]=some ([tokV l],false):=by
 have h2:Nat.ble (bs l).size 1000000=true:=by rw [bs_size,Nat.ble_eq];omega
 have e:(kwOk kwL kwKs kwVs && Nat.ble (bs l).size 1000000)=true:=by rw [kwOk_kw,h2];rfl
 show (match (match kwOk kwL kwKs kwVs && Nat.ble (bs l).size 1000000 with|true=>some ([tokV (bs l).data.toList],false)|false=>none) with|some r=>some r|none=>seqT 167 [.tp [.str (bs l)],.tp [.mp kwKs kwVs]])=_
 rw [e]
 rfl
theorem EvR.mkM {g:Cfg} {f:Nat} {asg body:Code} {env:Env} {fr:Fr} {K:Out→Env→Fr→Prop} {ps:List Nat} {y:List AV} {bs:Fr} (F:Fr) (hl:Nat.beq y.length ps.length=true) (hb:getAll fr (List.range fr.length)=some bs) (hF:(bs.map fun b=>unTch (b.sub (idxσ (List.range fr.length))))=F)
  (h:EvK g f asg (setPs ps y fun t=>(env t).sub (idxσ (List.range fr.length))) F fun o e r=>o=.normal∧EvK g f body e r (roundK (g.lv f (blockId body)) env fr K)):EvR g f ps asg body y env fr K:=by
 subst hF
 exact EvR.mk hl hb h
theorem lkind_c {l:List UInt8} (hl:l.length≤1000000):Cl cfg 140 [.t (.str (bs l))] [] (.t (.int .i64 (kindC l))) []:=by
 have hsz:(bs l).size=l.length:=bs_size l
 have kt:=ltokens_c l
 have hq:=seqK_val hl
 refine Cl.of_body rfl Tryz.func140 rfl rfl rfl ?_
 by_cases h0:l.length=0
 ·
  obtain rfl:l=[]:=List.length_eq_zero_iff.1 h0
  have hee:bs ([]:List UInt8)=⟨#[]⟩:=rfl
  have e:kindC []=0:=rfl
  rw [e]
  exact drv
 ·
  have hne:¬ bs l=⟨#[]⟩:=fun h=>by
   have:(bs l).size=0:=by rw [h];rfl
   omega
  by_cases h1:4096 < l.length
  ·
   have e:kindC l=0:=by unfold kindC;rw [if_pos (.inr h1)]
   rw [e]
   exact drv
  ·
   have e:kindC l=if skipL false l=0∧skipL false l+(tokC (l.drop (skipL false l))).2=l.length then (tokC (l.drop (skipL false l))).1 else 0:=by unfold kindC;rw [if_neg (by omega)]
   rw [e]
   obtain ⟨n,hn⟩:∃ n,skipL false l=n:=⟨_,rfl⟩
   obtain ⟨T,hT⟩:∃ T,tokC (l.drop (skipL false l))=T:=⟨_,rfl⟩
   have hv:tokV l=[.agg [.int .i64 T.1,.int .i64 0,.int .i64 (n:Int),.int .i64 ((n+T.2:Nat):Int)]]:=by unfold tokV;rw [hT,hn]
   rw [hv] at hq
   rw [hn] at hT
   rw [hn,hT]
   generalize kwKs=K at *
   generalize kwVs=V at *
   refine drvR ?_
   refine EvK.range (yss:=[[.agg [.int .i64 T.1,.int .i64 0,.int .i64 (n:Int),.int .i64 ((n+T.2:Nat):Int)]]]) (wh:=false) (fr1:=[.box false 9 [.t (.str (bs l))],.box false 3 [.t (.int .i64 0)],.box true 9 [.t (.str (bs l))],.box true 147 [.t (.mp K V)]]) rfl rfl hq rfl ?_
   refine EvRs.cons ?_
   refine EvR.mkM [.box false 9 [.t (.str (bs l))],.box false 3 [.t (.int .i64 0)],.box true 9 [.t (.str (bs l))],.box true 147 [.t (.mp K V)]] rfl rfl rfl ?_
   by_cases hn0:n=0
   ·
    by_cases hT2:n+T.2=l.length
    ·
     rw [if_pos ⟨hn0,hT2⟩]
     refine drvR ?_
     refine ⟨rfl,?_⟩
     refine drvR ?_
     refine ⟨by kernel_rfl,?_⟩
     exact drv
    ·
     rw [if_neg fun h=>hT2 h.2]
     refine drvR ?_
     refine ⟨rfl,?_⟩
     refine drvR ?_
     refine ⟨by kernel_rfl,?_⟩
     exact drv
   ·
    rw [if_neg fun h=>hn0 h.1]
    refine drvR ?_
    refine ⟨rfl,?_⟩
    refine drvR ?_
    refine ⟨by kernel_rfl,?_⟩
    exact drv
theorem lname_c {l:List UInt8} (hl:l.length≤1000000):Cl cfg 108 [.t (.str (bs l))] [] (.t (.bool (nameL l))) []:=by
 have hsz:(bs l).size=l.length:=bs_size l
 have kk:=lkind_c hl
 rw [kind_eq] at kk
 refine Cl.of_body rfl Tryz.func108 rfl rfl rfl ?_
 unfold nameL
 generalize kindL l=k at *
 by_cases h1:l.length≤16
 ·
  by_cases h2:k=1
  ·
   rw [decide_eq_true h1,decide_eq_true h2]
   exact drv
  ·
   rw [decide_eq_true h1,decide_eq_false h2]
   exact drv
 ·
  rw [decide_eq_false h1]
  rw [Bool.and_comm]
  exact drv
end Go.Proofs.YtcpgmmlaimkojaaGreatDoor
namespace Go.Proofs.YtcpgmmlaimkojaaGreatDoor
open Go.RowKit
set_option maxRecDepth 100000
set_option maxHeartbeats 16000000
theorem idxcsz_c {C:List Int} {p:Int→Bool} (hl:C.length≤140737488351232) (hp:∀ x∈C,Cl cfg 139 [.t (.int .i64 x)] [] (.t (.bool (p x))) []):Cl cfg 79 [.t (intsA C),.t (.fn (.func 139) 0 [])] [] (.t (.int .i64 (idxS p C 0))) []:=by
 have hlE:=intsE_len C
 refine Cl.of_body rfl Tryz.func79 rfl rfl rfl ?_
 refine drvR ?_
 refine EvL.ind (fun q:Nat=>[(8,.t (.int .i64 (q:Int)))]) (fun q=>q≤C.length∧idxS p C 0=idxS p (C.drop q) q) (fun q=>C.length - q) 0 rfl (by simp) (fun q hq=>?_)
 obtain ⟨h1,h2⟩:=hq
 rw [h2]
 rcases Nat.lt_or_ge q C.length with h3|h3
 ·
  obtain ⟨e,he⟩:=get_of_lt h3
  have hc:=intsE_get he
  have hpn:=hp e (List.mem_of_getElem? he)
  rw [drop_at he,idxS_cons]
  obtain ⟨b,hb⟩:∃ b,p e=b:=⟨_,rfl⟩
  rw [hb] at hpn ⊢
  cases b with
  | true=>
   exact drv
  | false=>
   exact drv
 ·
  rw [List.drop_of_length_le h3]
  exact drv
theorem concsz_c {C:List Int} {p:Int→Bool} (hl:C.length≤140737488351232) (hp:∀ x∈C,Cl cfg 139 [.t (.int .i64 x)] [] (.t (.bool (p x))) []):Cl cfg 32 [.t (intsA C),.t (.fn (.func 139) 0 [])] [] (.t (.bool (C.any p))) []:=by
 have hi:=idxcsz_c hl hp
 rw [← idxS_any p C 0 (by omega)]
 refine Cl.of_body rfl Tryz.func32 rfl rfl rfl ?_
 obtain ⟨n,hn⟩:∃ n,idxS p C 0=n:=⟨_,rfl⟩
 rw [hn] at hi ⊢
 exact drv
theorem idxslk_c {C:List Int} {p:Int→Bool} (hl:C.length≤140737488351232) (hp:∀ x∈C,Cl cfg 74 [.t (.int .i64 x)] [] (.t (.bool (p x))) []):Cl cfg 79 [.t (intsA C),.t (.fn (.func 74) 0 [])] [] (.t (.int .i64 (idxS p C 0))) []:=by
 have hlE:=intsE_len C
 refine Cl.of_body rfl Tryz.func79 rfl rfl rfl ?_
 refine drvR ?_
 refine EvL.ind (fun q:Nat=>[(8,.t (.int .i64 (q:Int)))]) (fun q=>q≤C.length∧idxS p C 0=idxS p (C.drop q) q) (fun q=>C.length - q) 0 rfl (by simp) (fun q hq=>?_)
 obtain ⟨h1,h2⟩:=hq
 rw [h2]
 rcases Nat.lt_or_ge q C.length with h3|h3
 ·
  obtain ⟨e,he⟩:=get_of_lt h3
  have hc:=intsE_get he
  have hpn:=hp e (List.mem_of_getElem? he)
  rw [drop_at he,idxS_cons]
  obtain ⟨b,hb⟩:∃ b,p e=b:=⟨_,rfl⟩
  rw [hb] at hpn ⊢
  cases b with
  | true=>
   exact drv
  | false=>
   exact drv
 ·
  rw [List.drop_of_length_le h3]
  exact drv
theorem conslk_c {C:List Int} {p:Int→Bool} (hl:C.length≤140737488351232) (hp:∀ x∈C,Cl cfg 74 [.t (.int .i64 x)] [] (.t (.bool (p x))) []):Cl cfg 32 [.t (intsA C),.t (.fn (.func 74) 0 [])] [] (.t (.bool (C.any p))) []:=by
 have hi:=idxslk_c hl hp
 rw [← idxS_any p C 0 (by omega)]
 refine Cl.of_body rfl Tryz.func32 rfl rfl rfl ?_
 obtain ⟨n,hn⟩:∃ n,idxS p C 0=n:=⟨_,rfl⟩
 rw [hn] at hi ⊢
 exact drv
end Go.Proofs.YtcpgmmlaimkojaaGreatDoor
