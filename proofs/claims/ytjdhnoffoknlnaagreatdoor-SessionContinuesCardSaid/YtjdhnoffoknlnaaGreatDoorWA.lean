/- Law 52,the evaluator's configuration;lists of numbers;clocks. No condition. -/
import Derived.Test.YtjdhnoffoknlnaaGreatDoorTD
import Derived.Test.YtjdhnoffoknlnaaGreatDoorTS
import Derived.Lib.ItoaNum
import Derived.Lib.Join
import Derived.Lib.Split
import Derived.Lib.AtoiAll
import Derived.Lib.Strings
import Derived.Lib.Bytealg
set_option linter.unusedSimpArgs false
set_option linter.unusedVariables false
set_option linter.unusedSectionVars false
namespace Go.Proofs.YtjdhnoffoknlnaaGreatDoor
open Go.RowKit
def lkp:List (Nat×Nat×List Nat)→Nat→Nat→Option (List Nat)
 | [],_,_=>none
 | (f,b,l)::r,g,c=>match Nat.beq f g && Nat.beq b c with
  | true=>some l
  | false=>lkp r g c
def lkd (t:List (Nat×Nat×List Nat)) (f b:Nat):List Nat:=match lkp t f b with
 | some l=>l
 | none=>[]
def lvTab:List (Nat×Nat×List Nat):=[
 (30,2,[7,0,5,6]),
 (58,2,[7,0,5,6]),
 (79,2,[8,0,1,7]),
 (56,8,[26,0,5,18,19,20,24,25]),
 (56,5,[20,0,5,18,19]),
 (28,9,[30,0,1,6,7,16,17,18,28,29]),
 (28,4,[18,0,1,16,17]),
 (99,2,[8,0,1,7]),
 (66,2,[8,0,1,7]),
 (41,2,[8,0,1,7]),
 (98,4,[13,0,1,12]),
 (17,2,[3,0]),
 (43,8,[5,0,3,4]),
 (43,5,[4,0,3]),
 (40,2,[3,0]),
 (8,2,[3,0]),
 (20,4,[5,0,1]),
 (39,5,[5,14,0,1,13]),
 (18,4,[5,0,1]),
 (16,5,[3,4,0]),
 (32,5,[3,11,9,10]),
 (15,2,[7,0,5,6]),
 (22,5,[5,6,0,1]),
 (4,21,[97,0,1,5,7,11,12,53,54,55,96]),
 (4,12,[7,55,0,1,5,53,54]),
 (6,9,[0,41,5,39,40]),
 (3,10,[7,54,2,9,52,53,1000006]),
 (42,2,[4,5,0]),
 (24,5,[4,5]),
 (31,7,[7,31,0,29,30]),
 ]
def efTab:List (Nat×Nat×List Nat):=[
 (39,8,[13]),
 (27,3,[12]),
 (22,8,[13]),
 (3,18,[3,7,1000000]),
 (3,20,[3,7,13,17,1000000]),
 ]
def owTab:List (Nat×Nat×List (Nat×Nat)):=[
 (39,5,[(5,3)]),
 (32,5,[(3,1)]),
 (22,5,[(5,3)]),
 (31,7,[(7,1)]),
 ]
def owp:List (Nat×Nat×List (Nat×Nat))→Nat→Nat→List (Nat×Nat)
 | [],_,_=>[]
 | (f,b,l)::r,g,c=>match Nat.beq f g && Nat.beq b c with
  | true=>l
  | false=>owp r g c
def strsOf:List (List AV)→Option (List ByteArray)
 | []=>some []
 | [.str s]::r=>match strsOf r with
  | some l=>some (s::l)
  | none=>none
 | _=>none
def extT (f:Nat) (xs:List AV):Option (SV×Fr):=match Nat.beq f 52,xs with
 | true,[.int .i64 n]=>match decide (-9223372036854775808≤n∧n≤9223372036854775807) with
  | true=>some (.t (.str ⟨(Lib.itoa n).toArray⟩),[])
  | false=>none
 | false,[.arr es,.str sep]=>match Nat.beq f 53,strsOf es with
  | true,some l=>match decide ((Lib.join (l.map (·.data.toList)) sep.data.toList).length≤140737488355328) with
   | true=>some (.t (.str ⟨(Lib.join (l.map (·.data.toList)) sep.data.toList).toArray⟩),[])
   | false=>none
  | _,_=>none
 | _,_=>none
def extP (f:Nat) (xs:List AV):Option (SV×Fr):=match xs with
 | [.str s,.str p]=>match Nat.beq f 48 with
  | true=>some (.tup [.t (.str ⟨(Lib.trimPrefix s.data.toList p.data.toList).toArray⟩),.t (.bool (Lib.hasPrefix s.data.toList p.data.toList))],[])
  | false=>match Nat.beq f 49 && decide (s.size≤9223372036854775807) with
   | true=>some (.tup [.t (.str ⟨(Lib.trimSuffix s.data.toList p.data.toList).toArray⟩),.t (.bool (Lib.hasSuffix s.data.toList p.data.toList))],[])
   | false=>match Nat.beq f 50 && (decide (p=⟨#[32]⟩) && decide (s.size≤1048576)) with
    | true=>some (.t (.arr ((Lib.splitB ⟨#[32]⟩ 0 (Lib.countB s ⟨#[32]⟩) s).map fun w=>[.str w])),[])
    | false=>none
 | [.str s]=>match Nat.beq f 51 && decide (s.size≤1048576) with
  | true=>match Lib.atoiAll s.data.toList with
   | .ok v=>some (.tup [.t (.int .i64 v),.t (.lit .nilIface)],[])
   | _=>some (.tup [.t (.int .i64 (atoiV s.data.toList)),.t .ifn],[])
  | false=>none
 | _=>none
def hanTab:List (Nat×Nat):=[
 ]
def hanT (f k:Nat):Bool:=hanTab.any fun p=>Nat.beq p.1 f && Nat.beq p.2 k
def treL:List Nat:=[
 ]
def treF (f:Nat):Bool:=hasN treL f
def libT:List Nat:=[
 (52),
 (53),
 (48),
 (49),
 (50),
 (51),
 ]
def okT (f:Nat):Bool:=match hasN libT f || hasN [0,1] f with
 | true=>false
 | false=>Nat.blt f 100
def seqT (_:Nat) (_:List AV):Option (List (List AV)×Bool):=none
def exhT (_:Nat) (_:List SV) (_:Fr):Option (SV×Fr):=none
def extA (f:Nat) (xs:List AV):Option (SV×Fr):=match extT f xs with
 | some r=>some r
 | none=>extP f xs
noncomputable def cfg:Cfg:={ P:=Tryz.prog,ok:=okT,ext:=extA,lv:=lkp lvTab,own:=owp owTab,eff:=lkd efTab,hand:=hanT,seq:=seqT,exh:=exhT,tre:=treF }
theorem ext_of {f:Nat} {xs:List AV} {r:SV×Fr} (h:extT f xs=some r):cfg.ext f xs=some r:=by
 show (match extT f xs with|some r=>some r|none=>extP f xs)=_
 rw [h]
theorem sz0:sizeT cfg.P 37=some (true,15):=by kernel_rfl
theorem sz1:sizeT cfg.P 35=some (true,13):=by kernel_rfl
theorem sz2:sizeT cfg.P 33=some (true,4):=by kernel_rfl
theorem sz3:sizeT cfg.P 81=some (true,4):=by kernel_rfl
theorem sz4:sizeT cfg.P 98=some (true,2):=by kernel_rfl
theorem sz29:sizeT cfg.P 31=some (true,3):=by kernel_rfl
theorem rw0:rowT cfg.P 29=some (3,1,8):=by kernel_rfl
theorem rw1:rowT cfg.P 22=some (37,15,152):=by kernel_rfl
theorem rw2:rowT cfg.P 86=some (9,1,16):=by kernel_rfl
theorem rw3:rowT cfg.P 49=some (53,3,24):=by kernel_rfl
theorem el0:elemT cfg.P 29=some (3,1):=by kernel_rfl
theorem el1:elemT cfg.P 22=some (37,15):=by kernel_rfl
theorem el2:elemT cfg.P 44=some (29,1):=by kernel_rfl
theorem el3:elemT cfg.P 49=some (53,3):=by kernel_rfl
theorem el4:elemT cfg.P 77=some (81,4):=by kernel_rfl
section
variable {α:Type} {p:α→Bool} {xs:List α} {k:Nat} {x:α}
theorem all_bad (h:xs[k]?=some x) (hp:p x=false):xs.all p=false:=by
 cases e:xs.all p with
 | false=>rfl
 | true=>rw [List.all_eq_true.1 e x (List.mem_of_getElem? h)] at hp;cases hp
theorem all_more (h:(xs.take k).all p=true) (hx:xs[k]?=some x) (hp:p x=true):(xs.take (k+1)).all p=true:=by
 rw [List.take_add_one,List.all_append,h,hx]
 simp [hp]
theorem all_end (h:(xs.take k).all p=true) (hk:xs.length≤k):xs.all p=true:=by rwa [List.take_of_length_le hk] at h
end
def intsE (xs:List Int):List (List AV):=xs.map fun n=>[.int .i64 n]
def intsA (xs:List Int):AV:=.arr (intsE xs)
theorem intsE_get {xs:List Int} {k:Nat} {n:Int} (h:xs[k]?=some n):(intsE xs)[k]?=some [.int .i64 n]:=by simp [intsE,h]
theorem intsE_len (xs:List Int):(intsE xs).length=xs.length:=by simp [intsE]
theorem lenI {n:Nat} (h:n≤1000000):lenOk n 8=true:=by simp [lenOk];omega
def clksE (l:List (List Int)):List (List AV):=l.map fun c=>[intsA c]
def clksA (l:List (List Int)):AV:=.arr (clksE l)
theorem clksE_get {l:List (List Int)} {k:Nat} {c:List Int} (h:l[k]?=some c):(clksE l)[k]?=some [intsA c]:=by simp [clksE,h]
set_option maxRecDepth 100000
theorem between_c (n l h:Int):Cl cfg 76 [.t (.int .i64 n),.t (.int .i64 l),.t (.int .i64 h)] [] (.t (.bool (decide (l≤n) && decide (n≤h)))) []:=by
 refine Cl.of_body rfl Tryz.func76 rfl rfl rfl ?_
 repeat' (first
|(with_reducible apply EvK.seq)
|((with_reducible apply EvK.text);(try case hm=>exact rfl))
|(with_reducible apply EvK.ret)
|((with_reducible apply EvO.spd) <;> intro hq)
|((with_reducible apply EvO.spd_y) <;> intro hq)
|(with_reducible apply EvO.nilT)
|((with_reducible apply EvO.gf);(case hW=>exact rfl))
|((with_reducible apply EvO.gt0);(case hW=>exact rfl);(case hx=>exact opq))
|((with_reducible apply EvO.u0);(case hx=>exact opq))
|fail)
 all_goals (refine fin_b (.inr rfl) rfl ?_;first|(simp_all;done)|(simp_all;omega))
theorem valid_c {xs:List Int} (hl:xs.length≤140737488351232):Cl cfg 30 [.t (intsA xs)] [] (.t (.bool (validB xs))) []:=by
 refine Cl.of_body rfl Tryz.func30 rfl rfl rfl ?_
 repeat' (first
|(with_reducible first|apply EvK.seq|apply EvK.block)
|((with_reducible apply EvK.text);(try case hm=>exact rfl))
|(with_reducible apply EvO.nilT)
|((with_reducible apply EvO.u0);(case hx=>exact opq))
|fail)
 apply EvK.loopV
 case ho=>exact rfl
 case hp=>exact rfl
 case hl=>exact rfl
 case hs=>exact slt
 refine EvL.ind (fun q:Nat=>[(7,.t (.int .i64 (q:Int)))]) (fun q=>q≤xs.length∧(xs.take q).all ok1=true) (fun q=>xs.length - q) 0 rfl (by simp) (fun q hq=>?_)
 obtain ⟨h1,h2⟩:=hq
 rcases Nat.lt_or_ge q xs.length with h3|h3
 ·
  obtain ⟨n,hn⟩:=get_of_lt h3
  have hc:=intsE_get hn
  repeat' (first
|(with_reducible first|apply EvK.seq|apply EvK.block)
|((with_reducible apply EvK.text);(try case hm=>exact rfl))
|(with_reducible first|apply EvK.skip|apply EvK.ret|apply thenK_n|apply thenK_r|apply blockK_n|apply blockK_r)
|((with_reducible apply EvK.cond_t);(case hc=>exact rfl))
|((with_reducible apply EvK.cond_f);(case hc=>exact rfl))
|((with_reducible apply EvO.spd_t);(case hp=>exact fao))
|((with_reducible apply EvO.spd) <;> intro hq)
|((with_reducible apply EvO.spd_y) <;> intro hq)
|(with_reducible apply EvO.nilT)
|((with_reducible apply EvO.gf);(case hW=>exact rfl))
|((with_reducible apply EvO.gt0);(case hW=>exact rfl);(case hx=>exact opq))
|((with_reducible apply EvO.u0);(case hx=>exact opq))
|fail)
  all_goals first
   | (refine fin_b (.inr rfl) rfl ?_)
   | (refine ⟨q+1,rfl,rfl,⟨by omega,all_more h2 hn ?_⟩,by omega⟩)
  all_goals first
   | (rw [validB,all_bad hn (by simp [ok1];omega)];rfl)
   | (simp [ok1];omega)
 ·
  have h4:=all_end h2 h3
  repeat' (first
|(with_reducible apply EvK.seq)
|((with_reducible apply EvK.text);(try case hm=>exact rfl))
|(with_reducible first|apply EvK.exit|apply EvK.ret|apply thenK_n|apply thenK_e|apply blockK_h)
|((with_reducible apply EvK.cond_f);(case hc=>exact rfl))
|((with_reducible apply EvO.spd_f);(case hp=>exact fao))
|((with_reducible apply EvO.spd) <;> intro hq)
|((with_reducible apply EvO.spd_y) <;> intro hq)
|(with_reducible apply EvO.nilT)
|((with_reducible apply EvO.gf);(case hW=>exact rfl))
|((with_reducible apply EvO.gt0);(case hW=>exact rfl);(case hx=>exact opq))
|((with_reducible apply EvO.u0);(case hx=>exact opq))
|fail)
  all_goals (refine fin_b (.inr rfl) rfl ?_;rw [validB,h4];simp;omega)
theorem inside_c {xs ys:List Int} (hl:xs.length≤140737488351232) (hy:xs.length=ys.length):Cl cfg 79 [.t (intsA xs),.t (intsA ys)] [] (.t (.bool (insideB xs ys))) []:=by
 refine Cl.of_body rfl Tryz.func79 rfl rfl rfl ?_
 repeat' (first
|(with_reducible first|apply EvK.seq|apply EvK.block)
|((with_reducible apply EvK.text);(try case hm=>exact rfl))
|(with_reducible apply EvO.nilT)
|((with_reducible apply EvO.u0);(case hx=>exact opq))
|fail)
 apply EvK.loopV
 case ho=>exact rfl
 case hp=>exact rfl
 case hl=>exact rfl
 case hs=>exact slt
 refine EvL.ind (fun q:Nat=>[(8,.t (.int .i64 (q:Int)))]) (fun q=>q≤xs.length∧((xs.zip ys).take q).all le2=true) (fun q=>xs.length - q) 0 rfl (by simp) (fun q hq=>?_)
 obtain ⟨h1,h2⟩:=hq
 rcases Nat.lt_or_ge q xs.length with h3|h3
 ·
  obtain ⟨n,hn⟩:=get_of_lt h3
  obtain ⟨m,hm⟩:=get_of_lt (xs:=ys) (k:=q) (by omega)
  have hc:=intsE_get hn
  have hd:=intsE_get hm
  have hz:=zip_get hn hm
  repeat' (first
|(with_reducible first|apply EvK.seq|apply EvK.block)
|((with_reducible apply EvK.text);(try case hm=>exact rfl))
|((with_reducible apply EvK.drawn);(case hm=>exact rfl))
|(with_reducible first|apply EvK.skip|apply EvK.ret|apply thenK_n|apply thenK_r|apply blockK_n|apply blockK_r)
|((with_reducible apply EvK.cond_t);(case hc=>exact rfl))
|((with_reducible apply EvK.cond_f);(case hc=>exact rfl))
|((with_reducible apply EvO.spd_t);(case hp=>exact fao))
|((with_reducible apply EvO.spd) <;> intro hq)
|(with_reducible apply EvO.nilT)
|((with_reducible apply EvO.u0);(case hx=>exact opq))
|fail)
  all_goals first
   | (refine fin_b (.inr rfl) rfl ?_)
   | (refine ⟨q+1,rfl,rfl,⟨by omega,all_more h2 hz ?_⟩,by omega⟩)
  all_goals first
   | (rw [insideB,all_bad hz (by simp [le2];omega)];done)
   | (simp [le2];omega)
 ·
  have h4:=all_end h2 (by simp;omega)
  repeat' (first
|(with_reducible apply EvK.seq)
|((with_reducible apply EvK.text);(try case hm=>exact rfl))
|(with_reducible first|apply EvK.exit|apply EvK.ret|apply thenK_n|apply thenK_e|apply blockK_h)
|((with_reducible apply EvK.cond_f);(case hc=>exact rfl))
|((with_reducible apply EvO.spd_f);(case hp=>exact fao))
|(with_reducible apply EvO.nilT)
|((with_reducible apply EvO.u0);(case hx=>exact opq))
|fail)
  all_goals (refine fin_b (.inr rfl) rfl ?_;rw [insideB,h4])
end Go.Proofs.YtjdhnoffoknlnaaGreatDoor
