/- Law 52: Parse of a clock's text;sessions opened. No condition. -/
import Derived.Test.YtjdhnoffoknlnaaGreatDoorWW
import Derived.Test.YtjdhnoffoknlnaaGreatDoorTS
set_option linter.unusedSimpArgs false
set_option linter.unusedVariables false
set_option linter.unusedSectionVars false
namespace Go.Proofs.YtjdhnoffoknlnaaGreatDoor
open Go.RowKit
set_option maxRecDepth 100000
set_option maxHeartbeats 4000000
theorem ext_of2 {f:Nat} {xs:List AV} {r:SV×Fr} (h0:extT f xs=none) (h:extP f xs=some r):cfg.ext f xs=some r:=by
 show (match extT f xs with|some r=>some r|none=>extP f xs)=_
 rw [h0,h]
theorem cutp_c (s p:ByteArray):Cl cfg 48 [.t (.str s),.t (.str p)] [] (.tup [.t (.str (bs (Lib.trimPrefix s.data.toList p.data.toList))),.t (.bool (Lib.hasPrefix s.data.toList p.data.toList))]) []:=
 Cl.ext (xs:=[.str s,.str p]) rfl rfl (ext_of2 rfl rfl)
theorem cuts_c (s p:ByteArray) (h:s.size≤1000):Cl cfg 49 [.t (.str s),.t (.str p)] [] (.tup [.t (.str (bs (Lib.trimSuffix s.data.toList p.data.toList))),.t (.bool (Lib.hasSuffix s.data.toList p.data.toList))]) []:=by
 refine Cl.ext (xs:=[.str s,.str p]) rfl rfl (ext_of2 rfl ?_)
 have h1:Nat.beq 49 48=false:=rfl
 have h2:(Nat.beq 49 49 && decide (s.size≤9223372036854775807))=true:=by simp;omega
 unfold extP
 simp only [h1,h2]
 rfl
def wordsB (s:ByteArray):List ByteArray:=Lib.splitB ⟨#[32]⟩ 0 (Lib.countB s ⟨#[32]⟩) s
theorem wordsB_data (s:ByteArray):(wordsB s).map (·.data.toList)=wordsOf s.data.toList:=by
 unfold wordsB wordsOf
 rw [Lib.splitB_data]
theorem word_size (s:ByteArray):∀ x∈wordsB s,x.size≤s.size:=by
 have:∀ (k:Nat) (t:ByteArray),∀ x∈Lib.splitB ⟨#[32]⟩ 0 k t,x.size≤t.size:=by
  intro k
  induction k with
  | zero=>intro t x hx;simp [Lib.splitB] at hx;subst hx;exact Nat.le_refl _
  | succ k ih=>
   intro t x hx
   unfold Lib.splitB at hx
   split at hx
   ·simp at hx;subst hx;exact Nat.le_refl _
   ·rcases List.mem_cons.1 hx with rfl|hx
    ·rw [ByteArray.size_extract];omega
    ·have:=ih _ x hx
     rw [ByteArray.size_extract] at this;omega
 exact this _ s
def wordsE (s:ByteArray):List (List AV):=(wordsB s).map fun w=>[.str w]
theorem split_c (s:ByteArray) (h:s.size≤1000):Cl cfg 50 [.t (.str s),.t (.str ⟨#[32]⟩)] [] (.t (.arr (wordsE s))) []:=by
 refine Cl.ext (xs:=[.str s,.str ⟨#[32]⟩]) rfl rfl (ext_of2 rfl ?_)
 have h1:Nat.beq 50 48=false:=rfl
 have h2:(Nat.beq 50 49 && decide (s.size≤9223372036854775807))=false:=rfl
 have h3:s.size≤1048576:=by omega
 unfold extP
 simp only [h1,h2]
 simp [h3]
 rfl
theorem atoi_c {s:ByteArray} {v:Int} (h:s.size≤1000) (hv:Lib.atoiAll s.data.toList=.ok v):Cl cfg 51 [.t (.str s)] [] (.tup [.t (.int .i64 v),.t (.lit .nilIface)]) []:=by
 refine Cl.ext (xs:=[.str s]) rfl rfl (ext_of2 rfl ?_)
 have h3:(Nat.beq 51 51 && decide (s.size≤1048576))=true:=by simp;omega
 unfold extP
 simp only [h3,hv]
theorem atois_spec:∀ {ws:List (List UInt8)} {c:List Int},atois ws=some c→ws.length=c.length∧∀ (q:Nat) (x:List UInt8),ws[q]?=some x→∃ v,Lib.atoiAll x=.ok v∧c[q]?=some v
 | [],c,h=>by unfold atois at h;cases h;exact ⟨rfl,fun q x hx=>by simp at hx⟩
 | w::ws,c,h=>by
  unfold atois at h
  split at h
  ·rename_i v hv
   cases hr:atois ws with
   | none=>rw [hr] at h;cases h
   | some c'=>
    rw [hr] at h
    cases h
    obtain ⟨h1,h2⟩:=atois_spec hr
    refine ⟨by simp [h1],fun q x hx=>?_⟩
    cases q with
    | zero=>simp at hx;subst hx;exact ⟨v,hv,rfl⟩
    | succ q=>exact h2 q x (by simpa using hx)
  ·cases h
theorem bs_data (l:List UInt8):(bs l).data.toList=l:=by simp [bs]
theorem parse_ok {c:List Int} (hv:validB c=true):Cl cfg 31 [.t (.str (bs (fmtS c)))] [] (.tup [.ls 0,.t (.int .i64 0)]) [.row false false 1 (intsE c)]:=by
 have h5:1≤c.length∧c.length≤5:=by simp [validB] at hv;omega
 have hok:c.all ok1=true:=by simp only [validB,Bool.and_eq_true] at hv;exact hv.1.1
 have hfl:(fmtS c).length≤100:=by have:=numsT_len hok;simp [fmtS,hv];omega
 have hk:=(clkP_iff (fmtS c) c).2 ⟨hv,rfl⟩
 unfold clkP at hk
 split at hk
 ·rename_i hps
  obtain ⟨hp,hsu⟩:=hps
  split at hk
  ·cases hk
  ·rename_i c' hat
   split at hk
   ·cases hk
    obtain ⟨hwl,hwg⟩:=atois_spec hat
    obtain ⟨u,hu⟩:∃ u,Lib.trimPrefix (fmtS c) [91]=u:=⟨_,rfl⟩
    obtain ⟨b,hb⟩:∃ b,Lib.trimSuffix u [93]=b:=⟨_,rfl⟩
    have hbo:bodyOf (fmtS c)=b:=by unfold bodyOf;rw [hu,hb]
    rw [hbo] at hwl hwg
    have hul:u.length≤100:=by rw [← hu];unfold Lib.trimPrefix;split <;> first|omega|(simp;omega)
    have hbl:b.length≤100:=by rw [← hb];unfold Lib.trimSuffix;split <;> first|omega|(simp;omega)
    have k1:=cutp_c (bs (fmtS c)) ⟨#[91]⟩
    rw [bs_data,show (⟨#[91]⟩:ByteArray).data.toList=[91] from rfl,hp,hu] at k1
    have k2:=cuts_c (bs u) ⟨#[93]⟩ (by rw [bs_size];omega)
    rw [bs_data,show (⟨#[93]⟩:ByteArray).data.toList=[93] from rfl,hb] at k2
    rw [hu] at hsu
    rw [hsu] at k2
    have k3:=split_c (bs b) (by rw [bs_size];omega)
    have hwd:=wordsB_data (bs b)
    rw [bs_data] at hwd
    have hwn:(wordsB (bs b)).length=c.length:=by rw [← hwl,← hwd];simp
    have hwe:(wordsE (bs b)).length=(wordsB (bs b)).length:=by simp [wordsE]
    have hee:bs (fmtS c)=bs (fmtS c):=rfl
    refine Cl.of_body rfl Tryz.func31 rfl rfl rfl ?_
    repeat' (first
|(with_reducible first|apply EvK.seq|apply EvK.block)
|((with_reducible apply EvK.text);(try case hm=>exact rfl))
|(with_reducible first|apply EvK.skip|apply thenK_n)
|((with_reducible apply EvK.cond_f);(case hc=>exact rfl))
|(with_reducible apply EvO.nilT)
|((with_reducible apply EvO.gt0);(case hW=>exact rfl);(case hx=>exact opq))
|((with_reducible apply EvO.u0);(case hx=>first
|(exact oqF k1)
|(exact oqF k2)
|(exact oqN k3)
|exact opq))
|fail)
    apply EvK.loopV
    case ho=>exact rfl
    case hp=>exact rfl
    case hl=>exact rfl
    case hs=>exact slt
    refine EvL.indF (fun q:Nat=>[(7,.ls 0),(31,.t (.int .i64 (q:Int)))]) (fun q=>[.row false (Nat.blt 0 q) 1 (intsE (c.take q))]) (fun q=>q≤c.length) (fun q=>c.length - q) 0 rfl rfl (by omega) (fun q hq=>?_)
    rcases Nat.lt_or_ge q c.length with h3|h3
    ·
     obtain ⟨w,hw⟩:=get_of_lt (xs:=wordsB (bs b)) (k:=q) (by omega)
     obtain ⟨v,hv1,hv2⟩:=hwg q w.data.toList (by rw [← hwd,List.getElem?_map,hw];rfl)
     have hws:=word_size (bs b) w (List.mem_of_getElem? hw)
     rw [bs_size] at hws
     have hwc:(wordsE (bs b))[q]?=some [.str w]:=by simp [wordsE,hw]
     have hat':=atoi_c (by omega) hv1
     have hsn:intsE (c.take q)++[[.int .i64 v]]=intsE (c.take (q+1)):=by unfold intsE;rw [List.take_add_one,hv2,List.map_append];rfl
     repeat' (first
|(with_reducible first|apply EvK.seq|apply EvK.block)
|((with_reducible apply EvK.text);(try case hm=>exact rfl))
|(with_reducible first|apply EvK.skip|apply thenK_n)
|((with_reducible apply EvK.cond_t);(case hc=>exact rfl))
|((with_reducible apply EvK.cond_f);(case hc=>exact rfl))
|((with_reducible apply EvO.spd_t);(case hp=>exact fao))
|(with_reducible first|apply EvO.nilT|apply EvO.nilB)
|((with_reducible apply EvO.u);(case hx=>((with_reducible apply OpR.apr);(case hs=>exact fun _=>rfl);(case ha|ht=>exact rfl);(case hr=>first|(with_reducible exact rw0)|(with_reducible exact rw1)|(with_reducible exact rw2)|(with_reducible exact rw3)|(with_reducible exact rw4)|exact rfl);(case hx|hy|hn|hb|hok=>exact rfl);(case hlen=>exact lenI (by simp [intsE_len];omega));(case hv=>exact hsn);(case hk=>exact kfr);(case hf=>exact leq))))
|((with_reducible apply EvO.u0);(case hx=>first
|(exact oqF hat')
|exact opq))
|fail)
     refine ⟨q+1,rfl,rfl,by omega,by omega⟩
    ·
     rw [List.take_of_length_le h3]
     repeat' (first
|(with_reducible apply EvK.seq)
|((with_reducible apply EvK.text);(try case hm=>exact rfl))
|(with_reducible first|apply EvK.skip|apply EvK.exit|apply EvK.ret|apply thenK_n|apply thenK_e|apply blockK_h)
|((with_reducible apply EvK.cond_f);(case hc=>exact rfl))
|((with_reducible apply EvO.spd_f);(case hp=>exact fao))
|((with_reducible apply EvO.spn_f);(case hp=>exact fao))
|(with_reducible apply EvO.nilT)
|((with_reducible apply EvO.u0);(case hx=>first
|(exact oqF (format_c hv))
|exact opq))
|fail)
     exact ⟨.inr rfl,rfl⟩
   ·cases hk
 ·cases hk
theorem open_ok {c:List Int} (hv:validB c=true):Cl cfg 10 [.t (.str (bs (fmtS c)))] [] (.tup [.lp 0 0,.t (.int .i64 0)]) [sesB c]:=by
 refine Cl.of_body rfl Tryz.func10 rfl rfl rfl ?_
 repeat' (first
|(with_reducible apply EvK.seq)
|((with_reducible apply EvK.text);(try case hm=>exact rfl))
|(with_reducible first|apply EvK.skip|apply EvK.ret|apply thenK_n)
|((with_reducible apply EvK.cond_f);(case hc=>exact rfl))
|((with_reducible apply EvO.spn_f);(case hp=>exact fao))
|(with_reducible apply EvO.nilT)
|((with_reducible apply EvO.u0);(case hx=>first
|(exact oqX (parse_ok hv))
|exact opq))
|fail)
 exact ⟨.inr rfl,rfl⟩
end Go.Proofs.YtjdhnoffoknlnaaGreatDoor
