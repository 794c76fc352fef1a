/- Law 52: the texts of clocks. No condition. -/
import Derived.Test.YtjdhnoffoknlnaaGreatDoorWU
import Derived.Test.YtjdhnoffoknlnaaGreatDoorTS
set_option linter.unusedSimpArgs false
set_option linter.unusedVariables false
set_option linter.unusedSectionVars false
namespace Go.Proofs.YtjdhnoffoknlnaaGreatDoor
open Go.RowKit
set_option maxRecDepth 100000
set_option maxHeartbeats 4000000
def bs (l:List UInt8):ByteArray:=⟨l.toArray⟩
theorem bs_app (x y:List UInt8):bs x++bs y=bs (x++y):=by
 apply ByteArray.ext
 simp [bs]
theorem bs_size (l:List UInt8):(bs l).size=l.length:=by simp [bs,ByteArray.size]
theorem itoaA_c {n:Int} (h0 : -9223372036854775808≤n) (h1:n≤9223372036854775807):Cl cfg 52 [.t (.int .i64 n)] [] (.t (.str (bs (Lib.itoa n)))) []:=by
 refine Cl.ext (xs:=[.int .i64 n]) rfl rfl ?_
 refine ext_of ?_
 unfold extT
 have h:decide (-9223372036854775808≤n∧n≤9223372036854775807)=true:=decide_eq_true ⟨h0,h1⟩
 simp only [h]
 rfl
theorem itoa_c {n:Int} (h0:0≤n) (h1:n≤1048576):Cl cfg 52 [.t (.int .i64 n)] [] (.t (.str (bs (Lib.itoa n)))) []:=itoaA_c (by omega) (by omega)
def strE (xs:List Int):List (List AV):=xs.map fun n=>[.str (bs (Lib.itoa n))]
theorem strsOf_strE (xs:List Int):strsOf (strE xs)=some (xs.map fun n=>bs (Lib.itoa n)):=by
 induction xs with
 | nil=>rfl
 | cons x xs ih=>show (match strsOf (strE xs) with|some l=>some (bs (Lib.itoa x)::l)|none=>none)=_;rw [ih];rfl
theorem joinstr_c {xs:List Int} (h:xs.all ok1=true) (hl:xs.length≤1000):Cl cfg 53 [.t (.arr (strE xs)),.t (.str (bs [32]))] [] (.t (.str (bs (numsT xs)))) []:=by
 refine Cl.ext (xs:=[.arr (strE xs),.str (bs [32])]) rfl rfl ?_
 refine ext_of ?_
 have e:(xs.map fun n=>bs (Lib.itoa n)).map (·.data.toList)=xs.map Lib.itoa:=by rw [List.map_map];rfl
 have hn:=numsT_len h
 have e2:(Lib.join (xs.map Lib.itoa) [32])=numsT xs:=rfl
 have hd:decide ((Lib.join ((xs.map fun n=>bs (Lib.itoa n)).map (·.data.toList)) (bs [32]).data.toList).length≤140737488355328)=true:=by
  rw [e]
  exact decide_eq_true (by show (numsT xs).length≤_;omega)
 have hb:Nat.beq 53 52=false:=rfl
 have hb':Nat.beq 53 53=true:=rfl
 unfold extT
 simp only [hb,hb',strsOf_strE,hd]
 rw [e]
 rfl
theorem strE_snoc {xs:List Int} {q:Nat} {n:Int} (h:xs[q]?=some n):strE (xs.take q)++[[.str (bs (Lib.itoa n))]]=strE (xs.take (q+1)):=by
 unfold strE
 rw [List.take_add_one,h,List.map_append];rfl
theorem strE_len (xs:List Int):(strE xs).length=xs.length:=by simp [strE]
theorem lenS16 {n:Nat} (h:n≤1000000):lenOk n 16=true:=by simp [lenOk];omega
theorem format_c {c:List Int} (hv:validB c=true):Cl cfg 32 [.t (intsA c)] [] (.t (.str (bs (fmtS c)))) []:=by
 have h5:1≤c.length∧c.length≤5:=by simp [validB] at hv;omega
 have hok:c.all ok1=true:=by simp only [validB,Bool.and_eq_true] at hv;exact hv.1.1
 have h0:fmtS c=91::(numsT c++[93]):=by simp [fmtS,hv]
 have hn:=numsT_len hok
 have hvc:=valid_c (xs:=c) (by omega)
 rw [hv] at hvc
 refine Cl.of_body rfl Tryz.func32 rfl rfl rfl ?_
 repeat' (first
|(with_reducible first|apply EvK.seq|apply EvK.block)
|((with_reducible apply EvK.text);(try case hm=>exact rfl))
|(with_reducible first|apply EvK.skip|apply thenK_n)
|((with_reducible apply EvK.cond_f);(case hc=>exact rfl))
|(with_reducible apply EvO.nilT)
|((with_reducible apply EvO.u0);(case hx=>first
|(exact oqF hvc)
|exact opq))
|fail)
 apply EvK.loopV
 case ho=>exact rfl
 case hp=>exact rfl
 case hl=>exact rfl
 case hs=>exact slt
 refine EvL.indF (fun q:Nat=>[(3,.ls 0),(11,.t (.int .i64 (q:Int)))]) (fun q=>[.row false (Nat.blt 0 q) 1 (strE (c.take q))]) (fun q=>q≤c.length) (fun q=>c.length - q) 0 rfl rfl (by omega) (fun q hq=>?_)
 rcases Nat.lt_or_ge q c.length with h3|h3
 ·
  obtain ⟨n,hn⟩:=get_of_lt h3
  have hc:=intsE_get hn
  obtain ⟨n0,n1⟩:=ok1_at hv hn
  have hi:=itoa_c (n:=n) n0 (by omega)
  have hs:=strE_snoc hn
  repeat' (first
|(with_reducible first|apply EvK.seq|apply EvK.block)
|((with_reducible apply EvK.text);(try case hm=>exact rfl))
|(with_reducible first|apply EvK.skip|apply thenK_n)
|((with_reducible apply EvK.cond_t);(case hc=>exact rfl))
|((with_reducible apply EvO.spd_t);(case hp=>exact fao))
|(with_reducible first|apply EvO.nilT|apply EvO.nilB)
|((with_reducible apply EvO.u);(case hx=>((with_reducible apply OpR.apr);(case hs=>exact fun _=>rfl);(case ha|ht=>exact rfl);(case hr=>first|(with_reducible exact rw0)|(with_reducible exact rw1)|(with_reducible exact rw2)|(with_reducible exact rw3)|(with_reducible exact rw4)|exact rfl);(case hx|hy|hn|hb|hok=>exact rfl);(case hlen=>exact lenS16 (by rw [strE_len];simp;omega));(case hv=>exact hs);(case hk=>exact kfr);(case hf=>exact leq))))
|((with_reducible apply EvO.u0);(case hx=>first
|(exact oqF hi)
|exact opq))
|fail)
  refine ⟨q+1,rfl,rfl,by omega,by omega⟩
 ·
  rw [List.take_of_length_le h3]
  have hj:=joinstr_c hok (by omega)
  have hz1:(bs (numsT c)).size≤100:=by rw [bs_size];omega
  have hz2:(⟨#[91]⟩:ByteArray).size=1:=rfl
  have hz3:(⟨#[93]⟩:ByteArray).size=1:=rfl
  have hz4:((⟨#[91]⟩:ByteArray)++bs (numsT c)).size≤200:=by rw [show (⟨#[91]⟩:ByteArray)=bs [91] from rfl,bs_app,bs_size];simp;omega
  repeat' (first
|(with_reducible apply EvK.seq)
|((with_reducible apply EvK.text);(try case hm=>exact rfl))
|(with_reducible first|apply EvK.exit|apply EvK.ret|apply thenK_n|apply thenK_e|apply blockK_h)
|((with_reducible apply EvK.cond_f);(case hc=>exact rfl))
|((with_reducible apply EvO.spd_f);(case hp=>exact fao))
|(with_reducible apply EvO.nilT)
|((with_reducible apply EvO.u0);(case hx=>first
|(exact oqF hj)
|exact opq))
|fail)
  refine ⟨.inr rfl,?_⟩
  rw [h0]
  have e:bs (91::(numsT c++[93]))=(⟨#[91]⟩++bs (numsT c))++⟨#[93]⟩:=by
   rw [show (⟨#[91]⟩:ByteArray)=bs [91] from rfl,show (⟨#[93]⟩:ByteArray)=bs [93] from rfl,bs_app,bs_app];rfl
  rw [e]
  rfl
theorem token_c {c:List Int} (hv:validB c=true):Cl cfg 11 [.lp 0 0] [sesB c] (.t (.str (bs (fmtS c)))) [sesB c]:=by
 refine Cl.of_body rfl Tryz.func11 rfl rfl rfl ?_
 repeat' (first
|(with_reducible apply EvK.seq)
|((with_reducible apply EvK.text);(try case hm=>exact rfl))
|(with_reducible first|apply EvK.ret|apply EvO.nilT)
|((with_reducible apply EvO.u0);(case hx=>first
|(exact oqF (format_c hv))
|exact opq))
|fail)
 exact ⟨.inr rfl,rfl⟩
end Go.Proofs.YtjdhnoffoknlnaaGreatDoor
