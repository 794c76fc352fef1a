/- Law 52,the evaluator's configuration;lists of numbers;clocks. No condition. -/
import Derived.Test.YtcpgmmlaimkojaaGreatDoorTD
import Derived.Test.YtcpgmmlaimkojaaGreatDoorVSD
import Derived.Test.YtcpgmmlaimkojaaGreatDoorTS
import Derived.Lib.ItoaNum
import Derived.Lib.Join
import Derived.Test.YtcpgmmlaimkojaaGreatDoorTP
import Derived.Test.YtcpgmmlaimkojaaGreatDoorTV
set_option linter.unusedSimpArgs false
set_option linter.unusedVariables false
set_option linter.unusedSectionVars false
namespace Go.Proofs.YtcpgmmlaimkojaaGreatDoor
open Go.RowKit
def lkp:List (Nat×Nat×List Nat)→Nat→Nat→Option (List Nat)
 | [],_,_=>none
 | (f,b,l)::r,g,c=>match Nat.beq f g && Nat.beq b c with
  | true=>some l
  | false=>lkp r g c
def lkd (t:List (Nat×Nat×List Nat)) (f b:Nat):List Nat:=match lkp t f b with
 | some l=>l
 | none=>[]
def lvTab:List (Nat×Nat×List Nat):=[
 (79,2,[8,0,1,7]),
 (25,4,[13,0,1,12]),
 (176,3,[1,0]),
 (176,1,[1,0]),
 (186,3,[6,0,1,5]),
 (177,15,[6,0]),
 (177,9,[6,0]),
 (177,3,[6,0,1]),
 (164,5,[4,5,0]),
 (129,2,[5,0,1]),
 (125,2,[3,0]),
 (126,5,[5,6,0,1]),
 (165,3,[2,8,0,1,7]),
 (96,9,[9,0,1,5,6,7,8]),
 (96,5,[5,6,7,0,1]),
 (105,8,[7,9,0,1,2,8]),
 (105,5,[7,8,0,1,2]),
 (153,4,[11,0,1,2,3]),
 (152,4,[5,0,1]),
 (97,2,[3,0]),
 (131,2,[5,1,2]),
 (132,4,[5,2,3]),
 (98,12,[7,1,3]),
 (98,5,[4,1,3]),
 (135,14,[9,2,3]),
 (135,9,[8,2,3,5]),
 (135,3,[6,2,3,5]),
 (134,2,[5,0,1]),
 (99,23,[9,1,7,8]),
 (99,17,[7,1]),
 (99,8,[6,1,3,4,5]),
 (99,3,[3,4,1]),
 (136,4,[9,1,2,3,4]),
 (100,13,[7,1]),
 (100,4,[3,1]),
 (7,24,[146,13,14,144,145]),
 (7,16,[105,2,5,6,13,14,103,104]),
 (8,12,[15,88,2,3,4,5,6,12,13,14,17,80,81,82,86,87]),
 (8,9,[15,82,2,3,4,5,6,12,13,14,80,81]),
 (12,10,[51,2,3,49,50]),
 (12,4,[22,2,3,20,21]),
 (13,35,[13,2,3,5,11,12]),
 (13,28,[5,11,2,3]),
 (13,20,[5,9,2,3]),
 (13,12,[8,2,3]),
 (13,5,[5,6,2,3]),
 (20,5,[10,44,2,3,4,5,42,43]),
 (21,11,[10,13,2,3,4,5]),
 (21,5,[10,11,2,3,4,5]),
 (22,4,[13,0,1,12]),
 (24,5,[7,8,2,3,4]),
 (26,10,[11,49,2,3,7,31,32,33,47,48]),
 (26,5,[7,33,2,3,31,32]),
 (27,10,[7,9,2,3,4]),
 (27,5,[8,2,3,4,7]),
 (28,6,[26,2,3,4,24,25]),
 (30,3,[3,4,1]),
 (33,3,[5,6,0,3]),
 (41,13,[5,6,4]),
 (41,4,[3,1]),
 (47,2,[5,0,1]),
 (49,2,[5,0,1]),
 (52,2,[5,0,1]),
 (58,9,[6,7,2,3]),
 (59,2,[5,1,2]),
 (63,2,[7,1,2,3]),
 (69,3,[9,16,2,3,4,14,15]),
 (70,3,[12,1,5,10,11]),
 (72,3,[5,6,2,3]),
 (75,3,[5,6,1,2]),
 (76,4,[9,2,3,4,5]),
 (78,3,[5,6,2,3]),
 (80,3,[5,6,1,2]),
 (81,25,[8,1,6,7]),
 (81,19,[6,1]),
 (81,14,[5,1]),
 (81,9,[4,1]),
 (81,4,[3,1]),
 (83,2,[8,0,1,7]),
 (84,6,[25,0,5,6,7,23,24]),
 (85,3,[9,3,7,8]),
 (86,5,[7,16,0,2,14,15]),
 (87,4,[28,1,26,27]),
 (88,3,[3,10,1,8,9]),
 (89,9,[55,1,3,4,16,17,18,53,54]),
 (89,4,[18,1,16,17]),
 (90,21,[1,7,116,117,120]),
 (90,19,[117,1,7,116]),
 (90,14,[105,1,7,103,104]),
 (90,4,[20,1,18,19]),
 (92,2,[5,0,1]),
 (95,2,[8,0,1,7]),
 (104,2,[5,0,1]),
 (113,3,[5,10,0,8,9]),
 (114,8,[8,7]),
 (116,3,[5,11,2,3,9,10]),
 (121,2,[11,0,1,9,10]),
 (122,11,[5,46,2,3,44,45]),
 (122,3,[5,13,2,3,11,12]),
 (137,3,[5,11,2,9,10]),
 (145,4,[13,0,1,12]),
 (150,2,[8,0,1,7]),
 (155,2,[11,1,9,10]),
 (156,2,[8,0,1,7]),
 (160,2,[8,0,1,7]),
 (162,10,[13,15,0,11,12,14]),
 (162,4,[27,0,2,3,25,26]),
 (163,2,[8,0,1,7]),
 (166,3,[7,1,5,6]),
 (167,6,[7,0,1,2,5,6]),
 (167,1,[4,0,1,2]),
 (168,2,[3,0]),
 (170,2,[5,0,1]),
 (173,2,[7,0,5,6]),
 ]
def efTab:List (Nat×Nat×List Nat):=[
 (100,9,[12,13,14,15,1000003]),
 (7,11,[3,7,1000000]),
 (7,21,[10]),
 (7,28,[10]),
 (27,12,[11,12,1000000]),
 (27,13,[8]),
 (33,5,[10]),
 (34,5,[6]),
 (36,5,[6]),
 (38,5,[6]),
 (44,3,[7,8,1000000]),
 (60,3,[12]),
 (84,16,[9]),
 (86,8,[9]),
 (90,8,[14,15,16,17,1000003]),
 (162,13,[9,1000000]),
 (114,9,[7,1000000]),
 ]
def owTab:List (Nat×Nat×List (Nat×Nat)):=[
 (86,5,[(7,2)]),
 (88,3,[(3,1)]),
 (69,3,[(9,4)]),
 (26,5,[(7,1)]),
 ]
def owp:List (Nat×Nat×List (Nat×Nat))→Nat→Nat→List (Nat×Nat)
 | [],_,_=>[]
 | (f,b,l)::r,g,c=>match Nat.beq f g && Nat.beq b c with
  | true=>l
  | false=>owp r g c
def extT (_:Nat) (_:List AV):Option (SV×Fr):=none
def hanTab:List (Nat×Nat):=[
 (34,0),
 (36,0),
 (38,0),
 ]
def hanT (f k:Nat):Bool:=hanTab.any fun p=>Nat.beq p.1 f && Nat.beq p.2 k
def treL:List Nat:=[
 (33),
 ]
def treF (f:Nat):Bool:=hasN treL f
def libT:List Nat:=[
 (90),
 (142),
 ]
def okT (f:Nat):Bool:=match hasN libT f || hasN [0,1,2,34,36,38,142,158,159,178,181,187,188,190] f with
 | true=>false
 | false=>Nat.blt f 192
def seqT (_:Nat) (_:List AV):Option (List (List AV)×Bool):=none
def kwOk:List (List UInt8)→List AV→List AV→Bool
 | [],[],[]=>true
 | w::W,.str s::ks,.bool true::vs=>decide (s=⟨w.toArray⟩) && kwOk W ks vs
 | _,_,_=>false
def tokV (l:List UInt8):List AV:=[.agg [.int .i64 (tokC (l.drop (skipL false l))).1,.int .i64 0,.int .i64 (skipL false l:Int),.int .i64 ((skipL false l+(tokC (l.drop (skipL false l))).2:Nat):Int)]]
def seqK (f:Nat) (xs:List AV):Option (List (List AV)×Bool):=match Nat.beq f 167,xs with
 | true,[.tp [.str s],.tp [.mp ks vs]]=>match kwOk kwL ks vs && Nat.ble s.size 1000000 with
  | true=>some ([tokV s.data.toList],false)
  | false=>none
 | _,_=>none
def seqA (f:Nat) (xs:List AV):Option (List (List AV)×Bool):=match seqK f xs with
 | some r=>some r
 | none=>seqT f xs
def exhT (f:Nat) (args:List SV) (fr:Fr):Option (SV×Fr):=match Nat.beq f 34 with
 | true=>delF 6 args fr
 | false=>match Nat.beq f 36 with
  | true=>delF 6 args fr
  | false=>match Nat.beq f 38 with
   | true=>delF 5 args fr
   | false=>none
def kwTx:ByteArray:=⟨(Lib.join kwL [32]).toArray⟩
def decInts:List (List AV)→Option (List Int)
 | []=>some []
 | [.int .i64 x]::r=>match decInts r with
  | some l=>some (x::l)
  | none=>none
 | _=>none
def decTb:List (List AV)→Option (List Tb)
 | []=>some []
 | [.str n,.int .i64 k,.arr c,.int .i64 a,.int .i64 b,.int .i64 f]::r=>match decInts c,decTb r with
  | some c,some l=>some (⟨n,k,c,a,b,f⟩::l)
  | _,_=>none
 | _=>none
def decH:List (List AV)→Option (List Hde)
 | []=>some []
 | [.int .i64 a,.int .i64 b,.int .i64 c]::r=>match decH r with
  | some l=>some (⟨a,b,c⟩::l)
  | none=>none
 | _=>none
def extL (f:Nat) (xs:List AV):Option (SV×Fr):=match xs with
 | [.str s]=>match Nat.beq f 178 && decide (s=kwTx) with
  | true=>some (.t (.arr (kwL.map fun w=>[.str ⟨w.toArray⟩])),[])
  | false=>none
 | [.str s,.int .u8 c]=>match Nat.beq f 181 && decide (0≤c∧c < 256) with
  | true=>some (.t (.int .i64 (Lib.indexByte s.data.toList (UInt8.ofNat c.toNat))),[])
  | false=>none
 | [.int .u64 x,.int .u64 y]=>match Nat.beq f 142 && decide (0≤x∧x < 18446744073709551616∧0≤y∧y < 18446744073709551616) with
  | true=>some (.tup [.t (.int .u64 ((x.toNat * y.toNat / 18446744073709551616:Nat):Int)),.t (.int .u64 ((x.toNat * y.toNat % 18446744073709551616:Nat):Int))],[])
  | false=>none
 | [.agg [.arr _,.arr tb,.arr _,.arr _,.arr _,.arr _,.arr hd,.arr _]]=>match Nat.beq f 90 && (Nat.ble tb.length 17592186044416 && Nat.ble hd.length 17592186044416) with
  | true=>match decTb tb,decH hd with
   | some tb,some hd=>some (.t (.bool (hidesB ⟨[],tb,[],[],[],[],hd⟩)),[])
   | _,_=>none
  | false=>none
 | _=>none
def extA (f:Nat) (xs:List AV):Option (SV×Fr):=match extT f xs with
 | some r=>some r
 | none=>extL f xs
noncomputable def cfg:Cfg:={ P:=Tryz.prog,ok:=okT,ext:=extA,lv:=lkp lvTab,own:=owp owTab,eff:=lkd efTab,hand:=hanT,seq:=seqA,exh:=exhT,tre:=treF }
theorem sz2:sizeT cfg.P 51=some (true,4):=by kernel_rfl
theorem sz10:sizeT cfg.P 30=some (true,7):=by kernel_rfl
theorem sz11:sizeT cfg.P 127=some (true,6):=by kernel_rfl
theorem sz12:sizeT cfg.P 93=some (true,2):=by kernel_rfl
theorem sz13:sizeT cfg.P 95=some (true,6):=by kernel_rfl
theorem sz14:sizeT cfg.P 122=some (true,2):=by kernel_rfl
theorem sz15:sizeT cfg.P 125=some (true,2):=by kernel_rfl
theorem sz16:sizeT cfg.P 98=some (true,3):=by kernel_rfl
theorem sz17:sizeT cfg.P 66=some (true,5):=by kernel_rfl
theorem sz18:sizeT cfg.P 64=some (true,3):=by kernel_rfl
theorem sz19:sizeT cfg.P 132=some (true,2):=by kernel_rfl
theorem sz20:sizeT cfg.P 180=some (true,3):=by kernel_rfl
theorem sz21:sizeT cfg.P 160=some (true,3):=by kernel_rfl
theorem sz22:sizeT cfg.P 191=some (true,4):=by kernel_rfl
theorem sz25:sizeT cfg.P 35=some (true,4):=by kernel_rfl
theorem sz26:sizeT cfg.P 84=some (true,5):=by kernel_rfl
theorem sz27:sizeT cfg.P 76=some (true,6):=by kernel_rfl
theorem sz28:sizeT cfg.P 80=some (true,6):=by kernel_rfl
theorem sz29:sizeT cfg.P 49=some (true,3):=by kernel_rfl
theorem rw0:rowT cfg.P 22=some (3,1,8):=by kernel_rfl
theorem rw2:rowT cfg.P 24=some (9,1,16):=by kernel_rfl
theorem el0:elemT cfg.P 22=some (3,1):=by kernel_rfl
section
variable {α:Type} {p:α→Bool} {xs:List α} {k:Nat} {x:α}
theorem all_more (h:(xs.take k).all p=true) (hx:xs[k]?=some x) (hp:p x=true):(xs.take (k+1)).all p=true:=by
 rw [List.take_add_one,List.all_append,h,hx]
 simp [hp]
theorem all_end (h:(xs.take k).all p=true) (hk:xs.length≤k):xs.all p=true:=by rwa [List.take_of_length_le hk] at h
end
def intsE (xs:List Int):List (List AV):=xs.map fun n=>[.int .i64 n]
def intsA (xs:List Int):AV:=.arr (intsE xs)
theorem intsE_get {xs:List Int} {k:Nat} {n:Int} (h:xs[k]?=some n):(intsE xs)[k]?=some [.int .i64 n]:=by simp [intsE,h]
theorem intsE_len (xs:List Int):(intsE xs).length=xs.length:=by simp [intsE]
set_option maxRecDepth 100000
end Go.Proofs.YtcpgmmlaimkojaaGreatDoor
namespace Go.Proofs.YtcpgmmlaimkojaaGreatDoor
open Go.RowKit
def extM (f:Nat) (xs:List AV):Option (SV×Fr):=match Nat.beq f 90 with
 | true=>none
 | false=>extA f xs
noncomputable abbrev cfgL:Cfg:=cfg.low extM
end Go.Proofs.YtcpgmmlaimkojaaGreatDoor
