/- Law 52: the texts of clocks. No condition. -/
import Derived.Test.YtcpgmmlaimkojaaGreatDoorTW
import Derived.Test.YtcpgmmlaimkojaaGreatDoorTS
import Derived.Test.YtcpgmmlaimkojaaGreatDoorTD
set_option linter.unusedSimpArgs false
set_option linter.unusedVariables false
set_option linter.unusedSectionVars false
namespace Go.Proofs.YtcpgmmlaimkojaaGreatDoor
open Go.RowKit
set_option maxRecDepth 100000
set_option maxHeartbeats 4000000
def bs (l:List UInt8):ByteArray:=⟨l.toArray⟩
theorem bs_size (l:List UInt8):(bs l).size=l.length:=by simp [bs,ByteArray.size]
end Go.Proofs.YtcpgmmlaimkojaaGreatDoor
namespace Go.Proofs.YtcpgmmlaimkojaaGreatDoor
open Go.RowKit
set_option maxRecDepth 100000
set_option maxHeartbeats 16000000
theorem bso (s:ByteArray):bs s.data.toList=s:=by obtain ⟨⟨l⟩⟩:=s;rfl
theorem bsi {x y:List UInt8} (h:bs x=bs y):x=y:=by
 have:=congrArg (fun s:ByteArray=>s.data.toList) h
 simpa [bs] using this
theorem lenG {n by_:Nat} (h:n≤1000000) (hb:by_≤1000):lenOk n by_=true:=by
 have:=Nat.mul_le_mul h hb
 simp [lenOk];omega
theorem bs_cuts (l:List UInt8) (i j:Nat):(bs l).extract i j=bs ((l.take j).drop i):=by
 apply ByteArray.ext
 rw [ByteArray.data_extract]
 simp [bs,List.drop_take]
theorem rletter_c (b:UInt8):Cl cfg 183 [.t (.int .u8 (b.toNat:Int))] [] (.t (.bool (letB b))) []:=by
 refine Cl.of_body rfl Tryz.func183 rfl rfl rfl ?_
 repeat' (first
|(with_reducible apply EvK.seq)
|((with_reducible apply EvK.text);(try case hm=>exact rfl))
|(with_reducible apply EvK.ret)
|((with_reducible apply EvO.spd) <;> intro hq)
|((with_reducible apply EvO.spd_y) <;> intro hq)
|(with_reducible apply EvO.nilT)
|((with_reducible apply EvO.gf);(case hW=>exact rfl))
|((with_reducible apply EvO.gt0);(case hW=>exact rfl);(case hx=>exact opq))
|((with_reducible apply EvO.u0);(case hx=>exact opq))
|fail)
 all_goals (refine fin_b (.inr rfl) rfl ?_;unfold letB;first|(simp_all;done)|(simp_all;omega))
theorem rdigit_c (b:UInt8):Cl cfg 184 [.t (.int .u8 (b.toNat:Int))] [] (.t (.bool (isDig b))) []:=by
 refine Cl.of_body rfl Tryz.func184 rfl rfl rfl ?_
 repeat' (first
|(with_reducible apply EvK.seq)
|((with_reducible apply EvK.text);(try case hm=>exact rfl))
|(with_reducible apply EvK.ret)
|((with_reducible apply EvO.spd) <;> intro hq)
|((with_reducible apply EvO.spd_y) <;> intro hq)
|(with_reducible apply EvO.nilT)
|((with_reducible apply EvO.gf);(case hW=>exact rfl))
|((with_reducible apply EvO.gt0);(case hW=>exact rfl);(case hx=>exact opq))
|((with_reducible apply EvO.u0);(case hx=>exact opq))
|fail)
 all_goals (refine fin_b (.inr rfl) rfl ?_;unfold isDig;first|(simp_all;done)|(simp_all;omega))
theorem rwhite_c (b:UInt8):Cl cfg 182 [.t (.int .u8 (b.toNat:Int))] [] (.t (.bool (whiB b))) []:=by
 refine Cl.of_body rfl Tryz.func182 rfl rfl rfl ?_
 repeat' (first
|(with_reducible apply EvK.seq)
|((with_reducible apply EvK.text);(try case hm=>exact rfl))
|(with_reducible apply EvK.ret)
|((with_reducible apply EvO.spd) <;> intro hq)
|((with_reducible apply EvO.spd_y) <;> intro hq)
|(with_reducible apply EvO.nilT)
|((with_reducible apply EvO.gf);(case hW=>exact rfl))
|((with_reducible apply EvO.gt0);(case hW=>exact rfl);(case hx=>exact opq))
|((with_reducible apply EvO.u0);(case hx=>exact opq))
|fail)
 all_goals (refine fin_b (.inr rfl) rfl ?_;unfold whiB;first|(simp_all;done)|(simp_all;omega))
theorem rskip_c {l:List UInt8} {q0:Nat} (hl:l.length≤1000000) (h0:q0≤l.length):Cl cfg 176 [.t (.str (bs l)),.t (.int .i64 (q0:Int))] [] (.t (.int .i64 (atL l q0:Int))) []:=by
 have hsz:(bs l).size=l.length:=bs_size l
 refine Cl.of_body rfl Tryz.func176 rfl rfl rfl ?_
 refine drvR ?_
 refine EvL.ind (fun q:Nat=>[(1,.t (.int .i64 (q:Int)))]) (fun q=>q≤l.length∧q+skipL false (l.drop q)=atL l q0) (fun q=>l.length - q) q0 rfl ⟨h0,rfl⟩ (fun q hq=>?_)
 obtain ⟨h1,h2⟩:=hq
 rcases Nat.lt_or_ge q l.length with h3|h3
 ·
  obtain ⟨b,hb⟩:=get_of_lt h3
  have kw:=rwhite_c b
  cases hw:whiB b with
  | true=>
   rw [hw] at kw
   have hn:¬ (b.toNat:Int)=35:=by intro h;simp [whiB] at hw;omega
   have hs:=skip_w hb hw
   exact drv
  | false=>
   rw [hw] at kw
   by_cases h35:(b.toNat:Int)=35
   ·
    have hs:=skip_35 hb (by omega)
    refine drvR ?_
    refine EvL.ind (fun p:Nat=>[(1,.t (.int .i64 (p:Int)))]) (fun p=>(p=q∨q < p)∧p≤l.length∧p+skipL true (l.drop p)=atL l q0) (fun p=>l.length - p) q rfl ⟨.inl rfl,h1,by omega⟩ (fun p hp=>?_)
    obtain ⟨g0,g1,g2⟩:=hp
    rcases Nat.lt_or_ge p l.length with g3|g3
    ·
     obtain ⟨b',hb'⟩:=get_of_lt g3
     by_cases h10:(b'.toNat:Int)=10
     ·
      have hs':=skip_cn hb' (by omega)
      have hpq:p≠q:=by
       rintro rfl
       rw [hb] at hb'
       cases hb'
       omega
      repeat' (first
|(with_reducible apply EvK.seq)
|((with_reducible apply EvK.text);(try case hm=>exact rfl))
|(with_reducible first|apply EvK.exit|apply thenK_n|apply thenK_e|apply blockK_n|apply blockK_h)
|((with_reducible apply EvK.cond_f);(case hc=>exact rfl))
|((with_reducible apply EvO.spd_t);(case hp=>exact fao))
|((with_reducible apply EvO.spn_yf);(case hp=>exact fao))
|(with_reducible apply EvO.nilT)
|((with_reducible apply EvO.gt0);(case hW=>exact rfl);(case hx=>first
|((with_reducible apply OpR.six);(case hx|hi|hst=>exact rfl);(case h0=>omega);(case hb=>assumption))
|exact opq))
|((with_reducible apply EvO.u0);(case hx=>exact opq))
|fail)
      exact ⟨p,rfl,rfl,⟨by omega,by omega⟩,by omega⟩
     ·
      have hs':=skip_ct hb' (by omega)
      repeat' (first
|(with_reducible first|apply EvK.seq|apply EvK.block)
|((with_reducible apply EvK.text);(try case hm=>exact rfl))
|(with_reducible first|apply EvK.skip|apply thenK_n)
|((with_reducible apply EvK.cond_t);(case hc=>exact rfl))
|((with_reducible apply EvO.spd_t);(case hp=>exact fao))
|((with_reducible apply EvO.spn_yt);(case hp=>exact fao))
|(with_reducible first|apply EvO.nilT|apply EvO.nilB)
|((with_reducible apply EvO.gt0);(case hW=>exact rfl);(case hx=>first
|((with_reducible apply OpR.six);(case hx|hi|hst=>exact rfl);(case h0=>omega);(case hb=>assumption))
|exact opq))
|((with_reducible apply EvO.u0);(case hx=>exact opq))
|fail)
      exact ⟨p+1,rfl,rfl,⟨.inr (by omega),by omega,by omega⟩,by omega⟩
    ·
     have hs':=skip_e true g3
     have hs'':=skip_e false g3
     repeat' (first
|(with_reducible apply EvK.seq)
|((with_reducible apply EvK.text);(try case hm=>exact rfl))
|(with_reducible first|apply EvK.exit|apply thenK_n|apply thenK_e|apply blockK_n|apply blockK_h)
|((with_reducible apply EvK.cond_f);(case hc=>exact rfl))
|((with_reducible apply EvO.spd_f);(case hp=>exact fao))
|(with_reducible apply EvO.nilT)
|((with_reducible apply EvO.gf);(case hW=>exact rfl))
|((with_reducible apply EvO.u0);(case hx=>exact opq))
|fail)
     exact ⟨p,rfl,rfl,⟨by omega,by omega⟩,by omega⟩
   ·
    have hs:=skip_n hb hw (by omega)
    rw [← h2,hs]
    exact drv
 ·
  obtain rfl:q=l.length:=by omega
  have hs:=skip_e (l:=l) false (Nat.le_refl _)
  rw [← h2,hs]
  exact drv
def strL (L:List (List UInt8)):List (List AV):=L.map fun w=>[.str (bs w)]
theorem strL_len (L:List (List UInt8)):(strL L).length=L.length:=by simp [strL]
theorem strL_get {L:List (List UInt8)} {k:Nat} {w:List UInt8} (h:L[k]?=some w):(strL L)[k]?=some [.str (bs w)]:=by simp [strL,h]
theorem symbols_c:Cl cfg 191 [] [] (.tc (strL syL)) []:=⟨5,by kernel_rfl⟩
theorem keywords_c:Cl cfg 185 [] [] (.tc (strL kwL)) []:=⟨5,by kernel_rfl⟩
theorem syL_len {s:List UInt8} (h:s∈syL):1≤s.length∧s.length≤2:=by
 revert s
 decide
theorem rsymbol_c {l:List UInt8} {q:Nat} (hl:l.length≤1000000) (h0:q≤l.length):Cl cfg 186 [.t (.str (bs l)),.t (.int .i64 (q:Int))] [] (.t (.int .i64 (symL (l.drop q):Int))) []:=by
 have hsz:(bs l).size=l.length:=bs_size l
 have hln:(strL syL).length=18:=rfl
 refine Cl.of_body rfl Tryz.func186 rfl rfl rfl ?_
 obtain ⟨S,hS⟩:∃ S,syL=S:=⟨_,rfl⟩
 have hsy:=symbols_c
 have hsl:∀ s∈S,1≤s.length∧s.length≤2:=fun s h=>syL_len (hS ▸ h)
 unfold symL
 rw [hS] at hsy hln ⊢
 rw [strL_len] at hln
 have hL:=strL_len S
 refine drvR ?_
 refine EvL.ind (fun k:Nat=>[(6,.t (.int .i64 (k:Int)))]) (fun k=>k≤S.length∧symG S (l.drop q)=symG (S.drop k) (l.drop q)) (fun k=>S.length - k) 0 rfl ⟨by omega,rfl⟩ (fun k hk=>?_)
 obtain ⟨h1,h2⟩:=hk
 rw [h2]
 rcases Nat.lt_or_ge k S.length with h3|h3
 ·
  obtain ⟨s,hs⟩:=get_of_lt h3
  have hc:=strL_get hs
  have hsl':=hsl s (List.mem_of_getElem? hs)
  have hss:(bs s).size=s.length:=bs_size s
  have hd:(l.drop q).length=l.length - q:=by simp
  by_cases h4:q+s.length≤l.length
  ·
   have hx:(bs l).extract q (q+s.length)=bs ((l.drop q).take s.length):=by rw [bs_cuts,List.drop_take,Nat.add_sub_cancel_left]
   by_cases h5:(l.drop q).take s.length=s
   ·
    have h6:=sym_t (t:=l.drop q) hs ⟨by omega,h5⟩
    have hee:bs ((l.drop q).take s.length)=bs s:=by rw [h5]
    rw [h6]
    repeat' (first
|(with_reducible first|apply EvK.seq|apply EvK.block)
|((with_reducible apply EvK.text);(try case hm=>exact rfl))
|((with_reducible apply EvK.drawn);(case hm=>exact rfl))
|(with_reducible first|apply EvK.skip|apply EvK.ret|apply thenK_n|apply thenK_r|apply blockK_r)
|((with_reducible apply EvK.cond_t);(case hc=>exact rfl))
|((with_reducible apply EvO.spd_t);(case hp=>exact fao))
|((with_reducible apply EvO.spd_yt);(case hp=>exact fao))
|(with_reducible apply EvO.nilT)
|((with_reducible apply EvO.gt0);(case hW=>exact rfl);(case hx=>first
|((with_reducible apply OpR.ssl);(case hst|hx|hl|hh=>exact rfl);(case hlh=>omega);(case hhs=>omega);(case hv=>exact hx))
|exact opq))
|((with_reducible apply EvO.u0);(case hx=>exact opq))
|fail)
    exact ⟨.inr rfl,rfl⟩
   ·
    have h6:=sym_f (t:=l.drop q) hs (fun h=>h5 h.2)
    have hee:¬ bs ((l.drop q).take s.length)=bs s:=fun h=>h5 (bsi h)
    repeat' (first
|(with_reducible first|apply EvK.seq|apply EvK.block)
|((with_reducible apply EvK.text);(try case hm=>exact rfl))
|((with_reducible apply EvK.drawn);(case hm=>exact rfl))
|(with_reducible first|apply EvK.skip|apply thenK_n|apply blockK_n)
|((with_reducible apply EvK.cond_t);(case hc=>exact rfl))
|((with_reducible apply EvK.cond_f);(case hc=>exact rfl))
|((with_reducible apply EvO.spd_t);(case hp=>exact fao))
|((with_reducible apply EvO.spd_yf);(case hp=>exact fao))
|(with_reducible apply EvO.nilT)
|((with_reducible apply EvO.gt0);(case hW=>exact rfl);(case hx=>first
|((with_reducible apply OpR.ssl);(case hst|hx|hl|hh=>exact rfl);(case hlh=>omega);(case hhs=>omega);(case hv=>exact hx))
|exact opq))
|((with_reducible apply EvO.u0);(case hx=>exact opq))
|fail)
    exact ⟨k+1,rfl,rfl,⟨by omega,by omega⟩,by omega⟩
  ·
   have h6:=sym_f (t:=l.drop q) hs (fun h=>by omega)
   exact drv
 ·
  rw [sym_e h3]
  exact drv
theorem rhas_c {L:List ByteArray} {s:ByteArray} (hl:L.length≤140737488351232):Cl cfg 129 [.t (.arr (L.map fun u=>[.str u])),.t (.str s)] [] (.t (.bool (L.any fun u=>decide (u=s)))) []:=by
 have hL:(L.map fun u=>[AV.str u]).length=L.length:=by simp
 refine Cl.of_body rfl Tryz.func129 rfl rfl rfl ?_
 refine drvR ?_
 refine EvL.ind (fun k:Nat=>[(5,.t (.int .i64 (k:Int)))]) (fun k=>k≤L.length∧(L.any fun u=>decide (u=s))=((L.drop k).any fun u=>decide (u=s))) (fun k=>L.length - k) 0 rfl ⟨by omega,rfl⟩ (fun k hk=>?_)
 obtain ⟨h1,h2⟩:=hk
 rw [h2]
 rcases Nat.lt_or_ge k L.length with h3|h3
 ·
  obtain ⟨u,hu⟩:=get_of_lt h3
  have hc:(L.map fun u=>[AV.str u])[k]?=some [.str u]:=by simp [hu]
  have h6:=any_hit (fun u=>decide (u=s)) hu
  by_cases he:u=s
  ·
   rw [h6,decide_eq_true he]
   exact drv
  ·
   rw [decide_eq_false he,Bool.false_or] at h6
   repeat' (first
|(with_reducible first|apply EvK.seq|apply EvK.block)
|((with_reducible apply EvK.text);(try case hm=>exact rfl))
|(with_reducible first|apply EvK.skip|apply thenK_n|apply blockK_n)
|((with_reducible apply EvK.cond_t);(case hc=>exact rfl))
|((with_reducible apply EvK.cond_f);(case hc=>exact rfl))
|((with_reducible apply EvO.spd_t);(case hp=>exact fao))
|((with_reducible apply EvO.spd_f);(case hp=>exact fao))
|(with_reducible apply EvO.nilT)
|((with_reducible apply EvO.u0);(case hx=>exact opq))
|fail)
   exact ⟨k+1,rfl,rfl,⟨by omega,by first|rw [h6]|rw [h2,h6]⟩,by omega⟩
 ·
  rw [any_end _ h3]
  exact drv
theorem rkw_c (w:List UInt8):Cl cfg 129 [.t (.arr (strL kwL)),.t (.str (bs w))] [] (.t (.bool (decide (w∈kwL)))) []:=by
 have h:=rhas_c (L:=kwL.map bs) (s:=bs w) (by decide)
 have e1:((kwL.map bs).map fun u=>[AV.str u])=strL kwL:=by unfold strL;rw [List.map_map];rfl
 have e2:((kwL.map bs).any fun u=>decide (u=bs w))=decide (w∈kwL):=by
  rw [Bool.eq_iff_iff]
  simp only [List.any_map,List.any_eq_true,Function.comp,decide_eq_true_eq]
  constructor
  ·rintro ⟨x,hx,e⟩;rw [← bsi e];exact hx
  ·intro h;exact ⟨w,h,rfl⟩
 rwa [e1,e2] at h
theorem rtoken_c {l:List UInt8} {q0:Nat} (hl:l.length≤1000000) (h0:q0 < l.length):Cl cfg 177 [.t (.str (bs l)),.t (.int .i64 (q0:Int))] [] (.tup [.t (.int .i64 (tokL (l.drop q0)).1),.t (.int .i64 ((q0+(tokL (l.drop q0)).2:Nat):Int))]) []:=by
 have hsz:(bs l).size=l.length:=bs_size l
 obtain ⟨b,hb⟩:=get_of_lt h0
 have kl:=rletter_c b
 have kd:=rdigit_c b
 have ht:=tok_at hb
 refine Cl.of_body rfl Tryz.func177 rfl rfl rfl ?_
 cases h1:letB b with
 | true=>
  rw [h1] at kl
  rw [if_pos h1] at ht
  rw [ht]
  refine drvR ?_
  refine EvL.ind (fun q:Nat=>[(6,.t (.int .i64 (q:Int)))]) (fun q=>q≤l.length∧q0≤q∧q+runL prtB (l.drop q)=q0+runL prtB (l.drop q0)) (fun q=>l.length - q) q0 rfl ⟨by omega,by omega,rfl⟩ (fun q hq=>?_)
  obtain ⟨g1,g0,g2⟩:=hq
  have fin:∀ q,q≤l.length→q0≤q→runL prtB (l.drop q)=0→q+runL prtB (l.drop q)=q0+runL prtB (l.drop q0)→(bs l).extract q0 q=bs ((l.drop q0).take (runL prtB (l.drop q0))):=fun q a1 a2 a3 a4=>by
   rw [bs_cuts,List.drop_take];congr 2;omega
  rcases Nat.lt_or_ge q l.length with g3|g3
  ·
   obtain ⟨c,hc⟩:=get_of_lt g3
   have kl':=rletter_c c
   have kd':=rdigit_c c
   cases hp:prtB c with
   | true=>
    have hs:=run_t hc hp
    have hor:letB c=true∨(letB c=false∧isDig c=true)∨(letB c=false∧isDig c=false∧(c.toNat:Int)=95):=by
     simp only [prtB,Bool.or_eq_true,decide_eq_true_eq] at hp
     cases e1:letB c with
     | true=>exact .inl rfl
     | false=>
      cases e2:isDig c with
      | true=>exact .inr (.inl ⟨rfl,rfl⟩)
      | false=>rw [e1,e2] at hp;simp at hp;exact .inr (.inr ⟨rfl,rfl,by omega⟩)
    rcases hor with e|⟨e,e'⟩|⟨e,e',e''⟩
    ·
     rw [e] at kl'
     repeat' (first
|(with_reducible first|apply EvK.seq|apply EvK.block)
|((with_reducible apply EvK.text);(try case hm=>exact rfl))
|(with_reducible first|apply EvK.skip|apply thenK_n)
|((with_reducible apply EvK.cond_t);(case hc=>exact rfl))
|((with_reducible apply EvO.spd_t);(case hp=>exact fao))
|(with_reducible first|apply EvO.nilT|apply EvO.nilB)
|((with_reducible apply EvO.gf);(case hW=>exact rfl))
|((with_reducible apply EvO.gt0);(case hW=>exact rfl);(case hx=>first
|((with_reducible apply OpR.six);(case hx|hi|hst=>exact rfl);(case h0=>omega);(case hb=>assumption))
|(exact oqF kl')
|exact opq))
|((with_reducible apply EvO.u0);(case hx=>exact opq))
|fail)
     exact ⟨q+1,rfl,rfl,⟨by omega,by omega,by omega⟩,by omega⟩
    ·
     rw [e] at kl'
     rw [e'] at kd'
     repeat' (first
|(with_reducible first|apply EvK.seq|apply EvK.block)
|((with_reducible apply EvK.text);(try case hm=>exact rfl))
|(with_reducible first|apply EvK.skip|apply thenK_n)
|((with_reducible apply EvK.cond_t);(case hc=>exact rfl))
|((with_reducible apply EvO.spd_t);(case hp=>exact fao))
|(with_reducible first|apply EvO.nilT|apply EvO.nilB)
|((with_reducible apply EvO.gf);(case hW=>exact rfl))
|((with_reducible apply EvO.gt0);(case hW=>exact rfl);(case hx=>first
|((with_reducible apply OpR.six);(case hx|hi|hst=>exact rfl);(case h0=>omega);(case hb=>assumption))
|(exact oqF kl')
|(exact oqF kd')
|exact opq))
|((with_reducible apply EvO.u0);(case hx=>exact opq))
|fail)
     exact ⟨q+1,rfl,rfl,⟨by omega,by omega,by omega⟩,by omega⟩
    ·
     rw [e] at kl'
     rw [e'] at kd'
     repeat' (first
|(with_reducible first|apply EvK.seq|apply EvK.block)
|((with_reducible apply EvK.text);(try case hm=>exact rfl))
|(with_reducible first|apply EvK.skip|apply thenK_n)
|((with_reducible apply EvK.cond_t);(case hc=>exact rfl))
|((with_reducible apply EvO.spd_t);(case hp=>exact fao))
|((with_reducible apply EvO.spd_yt);(case hp=>exact fao))
|(with_reducible first|apply EvO.nilT|apply EvO.nilB)
|((with_reducible apply EvO.gt0);(case hW=>exact rfl);(case hx=>first
|((with_reducible apply OpR.six);(case hx|hi|hst=>exact rfl);(case h0=>omega);(case hb=>assumption))
|(exact oqF kl')
|(exact oqF kd')
|exact opq))
|((with_reducible apply EvO.u0);(case hx=>exact opq))
|fail)
     exact ⟨q+1,rfl,rfl,⟨by omega,by omega,by omega⟩,by omega⟩
   | false=>
    have hs:=run_f hc hp
    simp only [prtB,Bool.or_eq_false_iff,decide_eq_false_iff_not] at hp
    obtain ⟨e,e',e''⟩:=hp
    have e95:¬ (c.toNat:Int)=95:=by omega
    rw [e] at kl'
    rw [e'] at kd'
    have hx:=fin q g1 g0 hs g2
    have hq2:q=q0+runL prtB (l.drop q0):=by omega
    have kk:=rkw_c ((l.drop q0).take (runL prtB (l.drop q0)))
    by_cases hk:(l.drop q0).take (runL prtB (l.drop q0))∈kwL
    ·
     rw [if_pos hk,← hq2]
     rw [decide_eq_true hk] at kk
     repeat' (first
|(with_reducible apply EvK.seq)
|((with_reducible apply EvK.text);(try case hm=>exact rfl))
|((with_reducible apply EvK.drawn);(case hm=>exact rfl))
|(with_reducible first|apply EvK.exit|apply EvK.ret|apply thenK_n|apply thenK_e|apply thenK_r|apply blockK_h)
|((with_reducible apply EvK.cond_t);(case hc=>exact rfl))
|((with_reducible apply EvK.cond_f);(case hc=>exact rfl))
|((with_reducible apply EvO.spd_t);(case hp=>exact fao))
|((with_reducible apply EvO.spd_yf);(case hp=>exact fao))
|(with_reducible apply EvO.nilT)
|((with_reducible apply EvO.gt0);(case hW=>exact rfl);(case hx=>first
|((with_reducible apply OpR.six);(case hx|hi|hst=>exact rfl);(case h0=>omega);(case hb=>assumption))
|(exact oqF kl')
|(exact oqF kd')
|exact opq))
|((with_reducible apply EvO.u0);(case hx=>first
|((with_reducible apply OpR.ssl);(case hst|hx|hl|hh=>exact rfl);(case hlh=>omega);(case hhs=>omega);(case hv=>exact hx))
|(exact oqN keywords_c)
|(exact oqF kk)
|exact opq))
|fail)
     exact ⟨.inr rfl,rfl⟩
    ·
     rw [if_neg hk,← hq2]
     rw [decide_eq_false hk] at kk
     repeat' (first
|(with_reducible apply EvK.seq)
|((with_reducible apply EvK.text);(try case hm=>exact rfl))
|((with_reducible apply EvK.drawn);(case hm=>exact rfl))
|(with_reducible first|apply EvK.skip|apply EvK.exit|apply EvK.ret|apply thenK_n|apply thenK_e|apply thenK_r|apply blockK_h)
|((with_reducible apply EvK.cond_f);(case hc=>exact rfl))
|((with_reducible apply EvO.spd_t);(case hp=>exact fao))
|((with_reducible apply EvO.spd_yf);(case hp=>exact fao))
|(with_reducible apply EvO.nilT)
|((with_reducible apply EvO.gt0);(case hW=>exact rfl);(case hx=>first
|((with_reducible apply OpR.six);(case hx|hi|hst=>exact rfl);(case h0=>omega);(case hb=>assumption))
|(exact oqF kl')
|(exact oqF kd')
|exact opq))
|((with_reducible apply EvO.u0);(case hx=>first
|((with_reducible apply OpR.ssl);(case hst|hx|hl|hh=>exact rfl);(case hlh=>omega);(case hhs=>omega);(case hv=>exact hx))
|(exact oqN keywords_c)
|(exact oqF kk)
|exact opq))
|fail)
     exact ⟨.inr rfl,rfl⟩
  ·
   have hs:=run_e (p:=prtB) g3
   have hx:=fin q g1 g0 hs g2
   have hq2:q=q0+runL prtB (l.drop q0):=by omega
   have kk:=rkw_c ((l.drop q0).take (runL prtB (l.drop q0)))
   by_cases hk:(l.drop q0).take (runL prtB (l.drop q0))∈kwL
   ·
    rw [if_pos hk,← hq2]
    rw [decide_eq_true hk] at kk
    repeat' (first
|(with_reducible apply EvK.seq)
|((with_reducible apply EvK.text);(try case hm=>exact rfl))
|((with_reducible apply EvK.drawn);(case hm=>exact rfl))
|(with_reducible first|apply EvK.exit|apply EvK.ret|apply thenK_n|apply thenK_e|apply thenK_r|apply blockK_h)
|((with_reducible apply EvK.cond_t);(case hc=>exact rfl))
|((with_reducible apply EvK.cond_f);(case hc=>exact rfl))
|((with_reducible apply EvO.spd_f);(case hp=>exact fao))
|(with_reducible apply EvO.nilT)
|((with_reducible apply EvO.gf);(case hW=>exact rfl))
|((with_reducible apply EvO.u0);(case hx=>first
|((with_reducible apply OpR.ssl);(case hst|hx|hl|hh=>exact rfl);(case hlh=>omega);(case hhs=>omega);(case hv=>exact hx))
|(exact oqN keywords_c)
|(exact oqF kk)
|exact opq))
|fail)
    exact ⟨.inr rfl,rfl⟩
   ·
    rw [if_neg hk,← hq2]
    rw [decide_eq_false hk] at kk
    repeat' (first
|(with_reducible apply EvK.seq)
|((with_reducible apply EvK.text);(try case hm=>exact rfl))
|((with_reducible apply EvK.drawn);(case hm=>exact rfl))
|(with_reducible first|apply EvK.skip|apply EvK.exit|apply EvK.ret|apply thenK_n|apply thenK_e|apply thenK_r|apply blockK_h)
|((with_reducible apply EvK.cond_f);(case hc=>exact rfl))
|((with_reducible apply EvO.spd_f);(case hp=>exact fao))
|(with_reducible apply EvO.nilT)
|((with_reducible apply EvO.gf);(case hW=>exact rfl))
|((with_reducible apply EvO.u0);(case hx=>first
|((with_reducible apply OpR.ssl);(case hst|hx|hl|hh=>exact rfl);(case hlh=>omega);(case hhs=>omega);(case hv=>exact hx))
|(exact oqN keywords_c)
|(exact oqF kk)
|exact opq))
|fail)
    exact ⟨.inr rfl,rfl⟩
 | false=>
  rw [h1] at kl
  rw [if_neg (by simp [h1])] at ht
  cases h2:isDig b with
  | true=>
   rw [h2] at kd
   rw [if_pos h2] at ht
   rw [ht]
   refine drvR ?_
   refine EvL.ind (fun q:Nat=>[(6,.t (.int .i64 (q:Int)))]) (fun q=>q≤l.length∧q0≤q∧q+runL isDig (l.drop q)=q0+runL isDig (l.drop q0)) (fun q=>l.length - q) q0 rfl ⟨by omega,by omega,rfl⟩ (fun q hq=>?_)
   obtain ⟨g1,g0,g2⟩:=hq
   rcases Nat.lt_or_ge q l.length with g3|g3
   ·
    obtain ⟨c,hc⟩:=get_of_lt g3
    have kd':=rdigit_c c
    cases hp:isDig c with
    | true=>
     have hs:=run_t hc hp
     rw [hp] at kd'
     repeat' (first
|(with_reducible first|apply EvK.seq|apply EvK.block)
|((with_reducible apply EvK.text);(try case hm=>exact rfl))
|(with_reducible first|apply EvK.skip|apply thenK_n)
|((with_reducible apply EvK.cond_t);(case hc=>exact rfl))
|((with_reducible apply EvO.spd_t);(case hp=>exact fao))
|(with_reducible first|apply EvO.nilT|apply EvO.nilB)
|((with_reducible apply EvO.gt0);(case hW=>exact rfl);(case hx=>first
|((with_reducible apply OpR.six);(case hx|hi|hst=>exact rfl);(case h0=>omega);(case hb=>assumption))
|(exact oqF kd')
|exact opq))
|((with_reducible apply EvO.u0);(case hx=>exact opq))
|fail)
     exact ⟨q+1,rfl,rfl,⟨by omega,by omega,by omega⟩,by omega⟩
    | false=>
     have hs:=run_f hc hp
     rw [hp] at kd'
     have hq2:q=q0+runL isDig (l.drop q0):=by omega
     rw [← hq2]
     exact drv
   ·
    have hs:=run_e (p:=isDig) g3
    have hq2:q=q0+runL isDig (l.drop q0):=by omega
    rw [← hq2]
    exact drv
  | false=>
   rw [h2] at kd
   rw [if_neg (by simp [h2])] at ht
   have ks:=rsymbol_c (q:=q0) hl (by omega)
   by_cases h3:0 < symL (l.drop q0)
   ·
    rw [if_pos h3] at ht
    rw [ht]
    have hb2:symL (l.drop q0)≤l.length - q0:=by have:=symG_le syL (l.drop q0);simp at this;exact this
    exact drv
   ·
    rw [if_neg h3] at ht
    rw [ht]
    have h30:symL (l.drop q0)=0:=by omega
    rw [h30] at ks
    refine drvR ?_
    refine EvL.ind (fun q:Nat=>[(6,.t (.int .i64 (q:Int)))]) (fun q=>q≤l.length∧q0≤q∧q+wrL (l.drop q)=q0+wrL (l.drop q0)) (fun q=>l.length - q) q0 rfl ⟨by omega,by omega,rfl⟩ (fun q hq=>?_)
    obtain ⟨g1,g0,g2⟩:=hq
    rcases Nat.lt_or_ge q l.length with g3|g3
    ·
     obtain ⟨c,hc⟩:=get_of_lt g3
     have kw':=rwhite_c c
     have kl':=rletter_c c
     have kd':=rdigit_c c
     have ks':=rsymbol_c (q:=q) hl (by omega)
     cases hp:wrgB l q c with
     | true=>
      have hs:=wr_t hc hp
      simp only [wrgB,Bool.and_eq_true,Bool.not_eq_true',decide_eq_false_iff_not,decide_eq_true_eq] at hp
      obtain ⟨⟨e1,e2⟩,e3,e4,e5⟩:=hp
      have e2':¬ (c.toNat:Int)=35:=by omega
      rw [e1] at kw'
      rw [e3] at kl'
      rw [e4] at kd'
      rw [e5] at ks'
      repeat' (first
|(with_reducible first|apply EvK.seq|apply EvK.block)
|((with_reducible apply EvK.text);(try case hm=>exact rfl))
|(with_reducible first|apply EvK.skip|apply thenK_n)
|((with_reducible apply EvK.cond_t);(case hc=>exact rfl))
|((with_reducible apply EvO.spd_t);(case hp=>exact fao))
|((with_reducible apply EvO.spd_yt);(case hp=>exact fao))
|((with_reducible apply EvO.spn_yt);(case hp=>exact fao))
|(with_reducible first|apply EvO.nilT|apply EvO.nilB)
|((with_reducible apply EvO.gt0);(case hW=>exact rfl);(case hx=>first
|((with_reducible apply OpR.six);(case hx|hi|hst=>exact rfl);(case h0=>omega);(case hb=>assumption))
|(exact oqF kw')
|(exact oqF kl')
|(exact oqF kd')
|(exact oqF ks')
|exact opq))
|((with_reducible apply EvO.u0);(case hx=>exact opq))
|fail)
      exact ⟨q+1,rfl,rfl,⟨by omega,by omega,by omega⟩,by omega⟩
     | false=>
      have hs:=wr_f hc hp
      have hq2:q=q0+wrL (l.drop q0):=by omega
      rw [← hq2]
      cases e1:whiB c with
      | true=>
       rw [e1] at kw'
       exact drv
      | false=>
       rw [e1] at kw'
       by_cases e2:(c.toNat:Int)=35
       ·
        exact drv
       ·
        cases e3:letB c with
        | true=>
         rw [e3] at kl'
         exact drv
        | false=>
         rw [e3] at kl'
         cases e4:isDig c with
         | true=>
          rw [e4] at kd'
          exact drv
         | false=>
          rw [e4] at kd'
          have e5:¬ symL (l.drop q)=0:=by
           intro h
           have:wrgB l q c=true:=by
            simp only [wrgB,Bool.and_eq_true,Bool.not_eq_true',decide_eq_false_iff_not,decide_eq_true_eq]
            exact ⟨⟨e1,by omega⟩,e3,e4,h⟩
           rw [hp] at this;cases this
          exact drv
    ·
     have hs:=wr_e g3
     have hq2:q=q0+wrL (l.drop q0):=by omega
     rw [← hq2]
     exact drv
end Go.Proofs.YtcpgmmlaimkojaaGreatDoor
