/- Law 52: SessionContinues. No condition. -/
import Derived.Test.YtjdhnoffoknlnaaGreatDoorXBS
import Derived.Test.YtjdhnoffoknlnaaGreatDoorWO
set_option linter.unusedSimpArgs false
set_option linter.unusedVariables false
set_option linter.unusedSectionVars false
namespace Go.Proofs.YtjdhnoffoknlnaaGreatDoor
open Go.RowKit
set_option maxRecDepth 100000
set_option maxHeartbeats 8000000
theorem zipv {a b:List Int} (ha:validB a=true) (hb:validB b=true) (h:a.length=b.length):validB (List.zipWith max a b)=true:=by
 simp only [validB,Bool.and_eq_true,List.all_eq_true,decide_eq_true_eq] at ha hb ⊢
 have hl:(List.zipWith max a b).length=a.length:=by simp;omega
 refine ⟨⟨fun y hy=>?_,by omega⟩,by omega⟩
 obtain ⟨k,hk⟩:=List.mem_iff_getElem?.1 hy
 rw [List.getElem?_zipWith] at hk
 cases h1:a[k]? with
 | none=>rw [h1] at hk;cases hk
 | some x=>
  cases h2:b[k]? with
  | none=>rw [h1,h2] at hk;cases hk
  | some z=>
   rw [h1,h2] at hk
   cases hk
   have:=ha.1.1 x (List.mem_of_getElem? h1)
   have:=hb.1.1 z (List.mem_of_getElem? h2)
   rcases Int.le_total x z with h3|h3
   ·rw [show max x z=z by omega];assumption
   ·rw [show max x z=x by omega];assumption
theorem readS_ok {c x:List Int} (hv:validB c=true):validB (readS c x).2=true∧(readS c x).2.length=c.length:=by
 unfold readS
 split
 ·rename_i h1
  split
  ·simp only [fitsB,Bool.and_eq_true,decide_eq_true_eq] at h1
   have hl:c.length=x.length:=by omega
   exact ⟨zipv hv h1.2 hl,by show (List.zipWith max c x).length=_;rw [List.length_zipWith];omega⟩
  ·exact ⟨hv,rfl⟩
 ·exact ⟨hv,rfl⟩
theorem wroteS_ok {c:List Int} {e:Ev} (hv:validB c=true):validB (wroteS c e).2=true∧(wroteS c e).2.length=c.length:=by
 unfold wroteS
 split
 ·rename_i h1
  split
  ·unfold ackS
   rw [if_pos h1]
   simp only [wrtB,Bool.and_eq_true,decide_eq_true_eq] at h1
   obtain ⟨h2,h3,h4,h5,h6⟩:=formB_ok h1.1
   have hl:c.length=(e.past.set e.r.toNat e.n).length:=by rw [List.length_set];omega
   exact ⟨zipv hv (valid_set h2 _ (by omega) h6) hl,by show (List.zipWith max c (e.past.set e.r.toNat e.n)).length=_;rw [List.length_zipWith];omega⟩
  ·exact ⟨hv,rfl⟩
 ·exact ⟨hv,rfl⟩
def conE:Option (List Int×SAct)→SV
 | none=>.lp 0 0
 | some _=>.lp 3 0
def conF (c:List Int):Option (List Int×SAct)→Fr
 | none=>[sesB c,sesB c]
 | some (c0,a)=>[sesB c0,sesB c,.box false 37 ((.bool a.wr::intsA a.cl::evCs a.ev).map .t),sesB c]
theorem law_cont (n:Int) (l:List SAct) (k:Int) (k0:0≤k) (k1:k≤255) (hl:l.length≤17592186044416) (hc:∀ a∈l,a.cl.length≤17592186044416∧a.ev.past.length≤17592186044416):Cl cfg 3 [.t (.int .i64 n),.t (actsA l),.t (.int .u8 k)] [] (.t (.bool true)) []:=by
 have hf:=few_c l (by omega)
 refine Cl.of_body rfl Tryz.func3 rfl rfl rfl ?_
 cases hfew:fewActs l with
 | false=>
  rw [hfew] at hf
  repeat' (first
|(with_reducible apply EvK.seq)
|((with_reducible apply EvK.text);(try case hm=>exact rfl))
|(with_reducible first|apply EvK.skip|apply EvK.ret|apply thenK_n|apply thenK_r)
|((with_reducible apply EvK.cond_t);(case hc=>exact rfl))
|((with_reducible apply EvK.cond_f);(case hc=>exact rfl))
|(with_reducible apply EvO.nilT)
|((with_reducible apply EvO.u0);(case hx=>first
|(exact oqF awakeZ_c)
|(exact oqF hf)
|exact opq))
|fail)
  exact ⟨.inr rfl,rfl⟩
 | true=>
  rw [hfew] at hf
  have hfa:l.all few1=true:=by simp only [fewActs,Bool.and_eq_true] at hfew;exact hfew.1
  by_cases hn:n < 1∨5 < n
  ·
   repeat' (first
|(with_reducible apply EvK.seq)
|((with_reducible apply EvK.text);(try case hm=>exact rfl))
|(with_reducible first|apply EvK.skip|apply EvK.ret|apply thenK_n|apply thenK_r)
|((with_reducible apply EvK.cond_t);(case hc=>exact rfl))
|((with_reducible apply EvK.cond_f);(case hc=>exact rfl))
|((with_reducible apply EvO.spd_t);(case hp=>exact fao))
|((with_reducible apply EvO.spn_f);(case hp=>exact fao))
|((with_reducible apply EvO.spn_yt);(case hp=>exact fao))
|(with_reducible apply EvO.nilT)
|((with_reducible apply EvO.gf);(case hW=>exact rfl))
|((with_reducible apply EvO.gt0);(case hW=>exact rfl);(case hx=>exact opq))
|((with_reducible apply EvO.u0);(case hx=>first
|(exact oqF awakeZ_c)
|(exact oqF hf)
|(exact oqF (new_bad hn))
|exact opq))
|fail)
   exact ⟨.inr rfl,rfl⟩
  ·
   have hn0:1≤n:=by omega
   have hn5:n≤5:=by omega
   have hzn:=zs_len hn0
   have hkm:k.tmod 20=((k.toNat % 20:Nat):Int):=by
    rw [Int.tmod_eq_emod_of_nonneg k0]
    omega
   obtain ⟨j,hj⟩:∃ j,k.toNat % 20=j:=⟨_,rfl⟩
   rw [hj] at hkm
   repeat' (first
|(with_reducible first|apply EvK.seq|apply EvK.block)
|((with_reducible apply EvK.text);(try case hm=>exact rfl))
|(with_reducible first|apply EvK.skip|apply thenK_n)
|((with_reducible apply EvK.cond_f);(case hc=>exact rfl))
|((with_reducible apply EvO.spn_f);(case hp=>exact fao))
|((with_reducible apply EvO.spn_yf);(case hp=>exact fao))
|(with_reducible apply EvO.nilT)
|((with_reducible apply EvO.gt0);(case hW=>exact rfl);(case hx=>exact opq))
|((with_reducible apply EvO.u0);(case hx=>first
|(exact oqF awakeZ_c)
|(exact oqF hf)
|(exact oqX (new_ok hn0 hn5))
|exact opq))
|fail)
   apply EvK.loopV
   case ho=>exact rfl
   case hp=>exact rfl
   case hl=>exact rfl
   case hs=>exact slt
   refine EvL.indF (fun s:Nat×List Int×Option (List Int×SAct)=>[(7,conE s.2.2),(54,.t (.int .i64 (s.1:Int)))]) (fun s=>conF s.2.1 s.2.2) (fun s=>s.1≤l.length∧validB s.2.1=true∧(s.2.1.length:Int)=n∧∀ z,s.2.2=some z→j < s.1) (fun s=>l.length - s.1) (0,zs n,none) rfl rfl ⟨by simp,zs_valid hn0 hn5,hzn,fun z h=>by cases h⟩ (fun s hs=>?_)
   obtain ⟨q,c,z⟩:=s
   obtain ⟨h1,h2,h3,hz⟩:=hs
   simp only at h1 h2 h3 hz
   have hc5:c.length≤1000:=by omega
   have kt:=token_c h2
   have ko:=open_ok h2
   have hee:bs (fmtS c)=bs (fmtS c):=rfl
   rcases Nat.lt_or_ge q l.length with h4|h4
   ·
    obtain ⟨a,ha⟩:=get_of_lt h4
    have hac:=actsE_get ha
    have hfw:few1 a=true:=List.all_eq_true.1 hfa a (List.mem_of_getElem? ha)
    simp only [few1,Bool.and_eq_true,decide_eq_true_eq] at hfw
    obtain ⟨wr,cl,e⟩:=a
    obtain ⟨hcl,hep⟩:=hfw
    simp only at hcl hep
    cases z with
    | none=>
     dsimp only [conE,conF]
     by_cases hq:(q:Int)=(j:Int)
     ·
      cases wr
      ·
       have hR:=ready_c (c:=c) (x:=cl) hc5 (by omega)
       have hRd:=read_c (c:=c) (x:=cl) hc5 (by omega) h2
       obtain ⟨v1,v2⟩:=readS_ok (x:=cl) h2
       obtain ⟨r,hr⟩:∃ r,readS c cl=r:=⟨_,rfl⟩
       rw [hr] at hRd v1 v2
       obtain ⟨er,c'⟩:=r
       dsimp only at hRd v1 v2
       cases hb:contB' cl c <;> rw [hb] at hR
       ·
        repeat' (first
|(with_reducible first|apply EvK.seq|apply EvK.block)
|((with_reducible apply EvK.text);(try case hm=>exact rfl))
|((with_reducible apply EvK.drawnF);(case hm=>exact rfl))
|(with_reducible first|apply EvK.skip|apply thenK_n|apply blockK_n)
|((with_reducible apply EvK.cond_t);(case hc=>exact rfl))
|((with_reducible apply EvK.cond_f);(case hc=>exact rfl))
|((with_reducible apply EvO.spd_t);(case hp=>exact fao))
|((with_reducible apply EvO.spn_f);(case hp=>exact fao))
|(with_reducible apply EvO.nilT)
|((with_reducible apply EvOF.spn_yf);(case hp=>exact fao))
|(with_reducible apply EvOF.nilT)
|((with_reducible apply EvOF.gt);(case hfl=>kernel_rfl);(case hW=>exact rfl);(case hx=>first
|(exact oqQ [3] hRd)
|(exact oqQ [1] hRd)
|exact opq))
|((with_reducible apply EvOF.u);(case hfl=>kernel_rfl);(case hx=>first
|(exact oqQ [3] hR)
|(exact oqQ [1] hR)
|exact opq))
|((with_reducible apply EvO.gt0);(case hW=>exact rfl);(case hx=>exact opq))
|((with_reducible apply EvO.u0);(case hx=>first
|((with_reducible apply OpR.cvi);(case hx|hs|hd=>exact rfl);(case h=>omega))
|((with_reducible apply OpR.remv);(case hx|hy=>exact rfl);(case hn=>omega);(case h=>exact hkm))
|(exact oqX ko)
|(exact oqQ [0] kt)
|exact opq))
|fail)
        exact ⟨(q+1,c',some (c,⟨false,cl,e⟩)),rfl,rfl,⟨by dsimp only;omega,v1,by dsimp only;omega,fun _ _=>by dsimp only;omega⟩,by dsimp only;omega⟩
       ·
        repeat' (first
|(with_reducible first|apply EvK.seq|apply EvK.block)
|((with_reducible apply EvK.text);(try case hm=>exact rfl))
|((with_reducible apply EvK.drawnF);(case hm=>exact rfl))
|(with_reducible first|apply EvK.skip|apply thenK_n|apply blockK_n)
|((with_reducible apply EvK.cond_t);(case hc=>exact rfl))
|((with_reducible apply EvK.cond_f);(case hc=>exact rfl))
|((with_reducible apply EvO.spd_t);(case hp=>exact fao))
|((with_reducible apply EvO.spn_f);(case hp=>exact fao))
|(with_reducible apply EvO.nilT)
|((with_reducible apply EvOF.spn_yf);(case hp=>exact fao))
|(with_reducible apply EvOF.nilT)
|((with_reducible apply EvOF.gt);(case hfl=>kernel_rfl);(case hW=>exact rfl);(case hx=>first
|(exact oqQ [3] hRd)
|(exact oqQ [1] hRd)
|exact opq))
|((with_reducible apply EvOF.u);(case hfl=>kernel_rfl);(case hx=>first
|(exact oqQ [3] hR)
|(exact oqQ [1] hR)
|exact opq))
|((with_reducible apply EvO.gt0);(case hW=>exact rfl);(case hx=>exact opq))
|((with_reducible apply EvO.u0);(case hx=>first
|((with_reducible apply OpR.cvi);(case hx|hs|hd=>exact rfl);(case h=>omega))
|((with_reducible apply OpR.remv);(case hx|hy=>exact rfl);(case hn=>omega);(case h=>exact hkm))
|(exact oqX ko)
|(exact oqQ [0] kt)
|exact opq))
|fail)
        exact ⟨(q+1,c',some (c,⟨false,cl,e⟩)),rfl,rfl,⟨by dsimp only;omega,v1,by dsimp only;omega,fun _ _=>by dsimp only;omega⟩,by dsimp only;omega⟩
      ·
       have hW:=wrote_c (c:=c) hc5 e (by omega) h2
       obtain ⟨v1,v2⟩:=wroteS_ok (e:=e) h2
       obtain ⟨r,hr⟩:∃ r,wroteS c e=r:=⟨_,rfl⟩
       rw [hr] at hW v1 v2
       obtain ⟨er,c'⟩:=r
       dsimp only at hW v1 v2
       repeat' (first
|(with_reducible first|apply EvK.seq|apply EvK.block)
|((with_reducible apply EvK.text);(try case hm=>exact rfl))
|((with_reducible apply EvK.drawnF);(case hm=>exact rfl))
|(with_reducible first|apply EvK.skip|apply thenK_n|apply blockK_n)
|((with_reducible apply EvK.cond_t);(case hc=>exact rfl))
|((with_reducible apply EvK.cond_f);(case hc=>exact rfl))
|((with_reducible apply EvO.spd_t);(case hp=>exact fao))
|((with_reducible apply EvO.spn_f);(case hp=>exact fao))
|(with_reducible apply EvO.nilT)
|((with_reducible apply EvOF.spn_f);(case hp=>exact fao))
|(with_reducible apply EvOF.nilT)
|((with_reducible apply EvOF.u);(case hfl=>kernel_rfl);(case hx=>first
|(exact oqQ [3] hW)
|(exact oqQ [1] hW)
|exact opq))
|((with_reducible apply EvO.gt0);(case hW=>exact rfl);(case hx=>exact opq))
|((with_reducible apply EvO.u0);(case hx=>first
|((with_reducible apply OpR.cvi);(case hx|hs|hd=>exact rfl);(case h=>omega))
|((with_reducible apply OpR.remv);(case hx|hy=>exact rfl);(case hn=>omega);(case h=>exact hkm))
|(exact oqX ko)
|(exact oqQ [0] kt)
|exact opq))
|fail)
       exact ⟨(q+1,c',some (c,⟨true,cl,e⟩)),rfl,rfl,⟨by dsimp only;omega,v1,by dsimp only;omega,fun _ h=>by first|(have:=hz _ rfl;dsimp only;omega)|(dsimp only;omega)|cases h⟩,by dsimp only;omega⟩
     ·
      cases wr
      ·
       have hR:=ready_c (c:=c) (x:=cl) hc5 (by omega)
       have hRd:=read_c (c:=c) (x:=cl) hc5 (by omega) h2
       obtain ⟨v1,v2⟩:=readS_ok (x:=cl) h2
       obtain ⟨r,hr⟩:∃ r,readS c cl=r:=⟨_,rfl⟩
       rw [hr] at hRd v1 v2
       obtain ⟨er,c'⟩:=r
       dsimp only at hRd v1 v2
       cases hb:contB' cl c <;> rw [hb] at hR
       ·
        repeat' (first
|(with_reducible first|apply EvK.seq|apply EvK.block)
|((with_reducible apply EvK.text);(try case hm=>exact rfl))
|((with_reducible apply EvK.drawnF);(case hm=>exact rfl))
|(with_reducible first|apply EvK.skip|apply thenK_n|apply blockK_n)
|((with_reducible apply EvK.cond_t);(case hc=>exact rfl))
|((with_reducible apply EvK.cond_f);(case hc=>exact rfl))
|((with_reducible apply EvO.spd_t);(case hp=>exact fao))
|((with_reducible apply EvO.spd_f);(case hp=>exact fao))
|(with_reducible apply EvO.nilT)
|((with_reducible apply EvOF.spn_yf);(case hp=>exact fao))
|(with_reducible apply EvOF.nilT)
|((with_reducible apply EvOF.gt);(case hfl=>kernel_rfl);(case hW=>exact rfl);(case hx=>first
|(exact oqQ [0] hRd)
|(exact oqQ [1] hRd)
|exact opq))
|((with_reducible apply EvOF.u);(case hfl=>kernel_rfl);(case hx=>first
|(exact oqQ [0] hR)
|(exact oqQ [1] hR)
|exact opq))
|((with_reducible apply EvO.u0);(case hx=>first
|((with_reducible apply OpR.cvi);(case hx|hs|hd=>exact rfl);(case h=>omega))
|((with_reducible apply OpR.remv);(case hx|hy=>exact rfl);(case hn=>omega);(case h=>exact hkm))
|exact opq))
|fail)
        exact ⟨(q+1,c',none),rfl,rfl,⟨by dsimp only;omega,v1,by dsimp only;omega,fun _ h=>by first|(have:=hz _ rfl;dsimp only;omega)|(dsimp only;omega)|cases h⟩,by dsimp only;omega⟩
       ·
        repeat' (first
|(with_reducible first|apply EvK.seq|apply EvK.block)
|((with_reducible apply EvK.text);(try case hm=>exact rfl))
|((with_reducible apply EvK.drawnF);(case hm=>exact rfl))
|(with_reducible first|apply EvK.skip|apply thenK_n|apply blockK_n)
|((with_reducible apply EvK.cond_t);(case hc=>exact rfl))
|((with_reducible apply EvK.cond_f);(case hc=>exact rfl))
|((with_reducible apply EvO.spd_t);(case hp=>exact fao))
|((with_reducible apply EvO.spd_f);(case hp=>exact fao))
|(with_reducible apply EvO.nilT)
|((with_reducible apply EvOF.spn_yf);(case hp=>exact fao))
|(with_reducible apply EvOF.nilT)
|((with_reducible apply EvOF.gt);(case hfl=>kernel_rfl);(case hW=>exact rfl);(case hx=>first
|(exact oqQ [0] hRd)
|(exact oqQ [1] hRd)
|exact opq))
|((with_reducible apply EvOF.u);(case hfl=>kernel_rfl);(case hx=>first
|(exact oqQ [0] hR)
|(exact oqQ [1] hR)
|exact opq))
|((with_reducible apply EvO.u0);(case hx=>first
|((with_reducible apply OpR.cvi);(case hx|hs|hd=>exact rfl);(case h=>omega))
|((with_reducible apply OpR.remv);(case hx|hy=>exact rfl);(case hn=>omega);(case h=>exact hkm))
|exact opq))
|fail)
        exact ⟨(q+1,c',none),rfl,rfl,⟨by dsimp only;omega,v1,by dsimp only;omega,fun _ h=>by first|(have:=hz _ rfl;dsimp only;omega)|(dsimp only;omega)|cases h⟩,by dsimp only;omega⟩
      ·
       have hW:=wrote_c (c:=c) hc5 e (by omega) h2
       obtain ⟨v1,v2⟩:=wroteS_ok (e:=e) h2
       obtain ⟨r,hr⟩:∃ r,wroteS c e=r:=⟨_,rfl⟩
       rw [hr] at hW v1 v2
       obtain ⟨er,c'⟩:=r
       dsimp only at hW v1 v2
       repeat' (first
|(with_reducible first|apply EvK.seq|apply EvK.block)
|((with_reducible apply EvK.text);(try case hm=>exact rfl))
|((with_reducible apply EvK.drawnF);(case hm=>exact rfl))
|(with_reducible first|apply EvK.skip|apply thenK_n|apply blockK_n)
|((with_reducible apply EvK.cond_t);(case hc=>exact rfl))
|((with_reducible apply EvK.cond_f);(case hc=>exact rfl))
|((with_reducible apply EvO.spd_t);(case hp=>exact fao))
|((with_reducible apply EvO.spd_f);(case hp=>exact fao))
|(with_reducible apply EvO.nilT)
|((with_reducible apply EvOF.spn_f);(case hp=>exact fao))
|(with_reducible apply EvOF.nilT)
|((with_reducible apply EvOF.u);(case hfl=>kernel_rfl);(case hx=>first
|(exact oqQ [0] hW)
|(exact oqQ [1] hW)
|exact opq))
|((with_reducible apply EvO.u0);(case hx=>first
|((with_reducible apply OpR.cvi);(case hx|hs|hd=>exact rfl);(case h=>omega))
|((with_reducible apply OpR.remv);(case hx|hy=>exact rfl);(case hn=>omega);(case h=>exact hkm))
|exact opq))
|fail)
       exact ⟨(q+1,c',none),rfl,rfl,⟨by dsimp only;omega,v1,by dsimp only;omega,fun _ h=>by first|(have:=hz _ rfl;dsimp only;omega)|(dsimp only;omega)|cases h⟩,by dsimp only;omega⟩
    | some y=>
     obtain ⟨c0,a0⟩:=y
     have hq:¬ (q:Int)=(j:Int):=by
      have:=hz _ rfl
      omega
     dsimp only [conE,conF]
     cases wr
     ·
      have hR:=ready_c (c:=c) (x:=cl) hc5 (by omega)
      have hRd:=read_c (c:=c) (x:=cl) hc5 (by omega) h2
      obtain ⟨v1,v2⟩:=readS_ok (x:=cl) h2
      obtain ⟨r,hr⟩:∃ r,readS c cl=r:=⟨_,rfl⟩
      rw [hr] at hRd v1 v2
      obtain ⟨er,c'⟩:=r
      dsimp only at hRd v1 v2
      cases hb:contB' cl c <;> rw [hb] at hR
      ·
       repeat' (first
|(with_reducible first|apply EvK.seq|apply EvK.block)
|((with_reducible apply EvK.text);(try case hm=>exact rfl))
|((with_reducible apply EvK.drawnF);(case hm=>exact rfl))
|(with_reducible first|apply EvK.skip|apply thenK_n|apply blockK_n)
|((with_reducible apply EvK.cond_t);(case hc=>exact rfl))
|((with_reducible apply EvK.cond_f);(case hc=>exact rfl))
|((with_reducible apply EvO.spd_t);(case hp=>exact fao))
|((with_reducible apply EvO.spd_f);(case hp=>exact fao))
|(with_reducible apply EvO.nilT)
|((with_reducible apply EvOF.spn_yf);(case hp=>exact fao))
|(with_reducible apply EvOF.nilT)
|((with_reducible apply EvOF.gt);(case hfl=>kernel_rfl);(case hW=>exact rfl);(case hx=>first
|(exact oqQ [3] hRd)
|(exact oqQ [1] hRd)
|exact opq))
|((with_reducible apply EvOF.u);(case hfl=>kernel_rfl);(case hx=>first
|(exact oqQ [3] hR)
|(exact oqQ [1] hR)
|exact opq))
|((with_reducible apply EvO.u0);(case hx=>first
|((with_reducible apply OpR.cvi);(case hx|hs|hd=>exact rfl);(case h=>omega))
|((with_reducible apply OpR.remv);(case hx|hy=>exact rfl);(case hn=>omega);(case h=>exact hkm))
|exact opq))
|fail)
       exact ⟨(q+1,c',some (c0,a0)),rfl,rfl,⟨by dsimp only;omega,v1,by dsimp only;omega,fun _ h=>by first|(have:=hz _ rfl;dsimp only;omega)|(dsimp only;omega)|cases h⟩,by dsimp only;omega⟩
      ·
       repeat' (first
|(with_reducible first|apply EvK.seq|apply EvK.block)
|((with_reducible apply EvK.text);(try case hm=>exact rfl))
|((with_reducible apply EvK.drawnF);(case hm=>exact rfl))
|(with_reducible first|apply EvK.skip|apply thenK_n|apply blockK_n)
|((with_reducible apply EvK.cond_t);(case hc=>exact rfl))
|((with_reducible apply EvK.cond_f);(case hc=>exact rfl))
|((with_reducible apply EvO.spd_t);(case hp=>exact fao))
|((with_reducible apply EvO.spd_f);(case hp=>exact fao))
|(with_reducible apply EvO.nilT)
|((with_reducible apply EvOF.spn_yf);(case hp=>exact fao))
|(with_reducible apply EvOF.nilT)
|((with_reducible apply EvOF.gt);(case hfl=>kernel_rfl);(case hW=>exact rfl);(case hx=>first
|(exact oqQ [3] hRd)
|(exact oqQ [1] hRd)
|exact opq))
|((with_reducible apply EvOF.u);(case hfl=>kernel_rfl);(case hx=>first
|(exact oqQ [3] hR)
|(exact oqQ [1] hR)
|exact opq))
|((with_reducible apply EvO.u0);(case hx=>first
|((with_reducible apply OpR.cvi);(case hx|hs|hd=>exact rfl);(case h=>omega))
|((with_reducible apply OpR.remv);(case hx|hy=>exact rfl);(case hn=>omega);(case h=>exact hkm))
|exact opq))
|fail)
       exact ⟨(q+1,c',some (c0,a0)),rfl,rfl,⟨by dsimp only;omega,v1,by dsimp only;omega,fun _ h=>by first|(have:=hz _ rfl;dsimp only;omega)|(dsimp only;omega)|cases h⟩,by dsimp only;omega⟩
     ·
      have hW:=wrote_c (c:=c) hc5 e (by omega) h2
      obtain ⟨v1,v2⟩:=wroteS_ok (e:=e) h2
      obtain ⟨r,hr⟩:∃ r,wroteS c e=r:=⟨_,rfl⟩
      rw [hr] at hW v1 v2
      obtain ⟨er,c'⟩:=r
      dsimp only at hW v1 v2
      repeat' (first
|(with_reducible first|apply EvK.seq|apply EvK.block)
|((with_reducible apply EvK.text);(try case hm=>exact rfl))
|((with_reducible apply EvK.drawnF);(case hm=>exact rfl))
|(with_reducible first|apply EvK.skip|apply thenK_n|apply blockK_n)
|((with_reducible apply EvK.cond_t);(case hc=>exact rfl))
|((with_reducible apply EvK.cond_f);(case hc=>exact rfl))
|((with_reducible apply EvO.spd_t);(case hp=>exact fao))
|((with_reducible apply EvO.spd_f);(case hp=>exact fao))
|(with_reducible apply EvO.nilT)
|((with_reducible apply EvOF.spn_f);(case hp=>exact fao))
|(with_reducible apply EvOF.nilT)
|((with_reducible apply EvOF.u);(case hfl=>kernel_rfl);(case hx=>first
|(exact oqQ [3] hW)
|(exact oqQ [1] hW)
|exact opq))
|((with_reducible apply EvO.u0);(case hx=>first
|((with_reducible apply OpR.cvi);(case hx|hs|hd=>exact rfl);(case h=>omega))
|((with_reducible apply OpR.remv);(case hx|hy=>exact rfl);(case hn=>omega);(case h=>exact hkm))
|exact opq))
|fail)
      exact ⟨(q+1,c',some (c0,a0)),rfl,rfl,⟨by dsimp only;omega,v1,by dsimp only;omega,fun _ h=>by first|(have:=hz _ rfl;dsimp only;omega)|(dsimp only;omega)|cases h⟩,by dsimp only;omega⟩
   ·
    cases z with
    | none=>
     dsimp only [conE,conF]
     repeat' (first
|(with_reducible apply EvK.seq)
|((with_reducible apply EvK.text);(try case hm=>exact rfl))
|(with_reducible first|apply EvK.exit|apply EvK.ret|apply thenK_n|apply thenK_e|apply blockK_h)
|((with_reducible apply EvK.cond_f);(case hc=>exact rfl))
|((with_reducible apply EvO.spd_t);(case hp=>exact fao))
|((with_reducible apply EvO.spd_f);(case hp=>exact fao))
|(with_reducible apply EvO.nilT)
|((with_reducible apply EvO.u0);(case hx=>first
|(exact oqQ [0] kt)
|(exact oqQ [1] kt)
|exact opq))
|fail)
     exact ⟨.inr rfl,rfl⟩
    | some y=>
     obtain ⟨c0,a0⟩:=y
     dsimp only [conE,conF]
     repeat' (first
|(with_reducible apply EvK.seq)
|((with_reducible apply EvK.text);(try case hm=>exact rfl))
|(with_reducible first|apply EvK.exit|apply EvK.ret|apply thenK_n|apply thenK_e|apply blockK_h)
|((with_reducible apply EvK.cond_f);(case hc=>exact rfl))
|((with_reducible apply EvO.spd_t);(case hp=>exact fao))
|((with_reducible apply EvO.spd_f);(case hp=>exact fao))
|(with_reducible apply EvO.nilT)
|((with_reducible apply EvO.u0);(case hx=>first
|(exact oqQ [3] kt)
|(exact oqQ [1] kt)
|exact opq))
|fail)
     exact ⟨.inr rfl,rfl⟩
end Go.Proofs.YtjdhnoffoknlnaaGreatDoor
