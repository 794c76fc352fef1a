/- Law 52,the evaluator's configuration. No condition. -/
import Derived.Test.YtgbfedgghjcdcaaGreatDoorTD
import Derived.Test.YtgbfedgghjcdcaaGreatDoorTS
import Derived.Lib.ItoaNum
import Derived.Lib.Join
import Derived.Lib.Split
import Derived.Lib.AtoiAll
import Derived.Lib.Strings
import Derived.Lib.Bytealg
import Derived.Test.YtgbfedgghjcdcaaGreatDoorXB
set_option linter.all false
namespace Go.Proofs.YtgbfedgghjcdcaaGreatDoor
open Go.RowKit
def uJ:List (Nat×Nat×List Nat)->Nat->Nat->Option (List Nat)
 |[],_,_=>none
 |(f,b,l)::r,g,c=>match Nat.beq f g&&Nat.beq b c with
  |true=>some l
  |false=>uJ r g c
def E8(t:List (Nat×Nat×List Nat))(f b:Nat):List Nat:=match uJ t f b with
 |some l=>l
 |none=>[]
def Fe:List (Nat×Nat×List Nat):=[
 (46,2,[7,0,5,6]),
 (138,2,[7,0,5,6]),
 (168,2,[8,0,1,7]),
 (93,8,[26,0,5,18,19,20,24,25]),
 (93,5,[20,0,5,18,19]),
 (36,4,[13,0,1,12]),
 (55,2,[3,0]),
 (31,4,[5,0,1]),
 (72,5,[3,4,0]),
 (69,5,[3,11,9,10]),
 (110,2,[4,5,0]),
 (65,5,[4,5]),
 (61,7,[7,31,0,29,30]),
 (62,3,[3,10,8,9]),
 (66,3,[3,4,0]),
 (67,3,[3,4,0]),
 (21,3,[4,5,6,0,2]),
 (226,3,[1,0]),
 (226,1,[1,0]),
 (237,3,[6,0,1,5]),
 (227,15,[6,0]),
 (227,9,[6,0]),
 (227,3,[6,0,1]),
 (208,5,[4,5,0]),
 (143,2,[5,0,1]),
 (139,2,[3,0]),
 (140,5,[5,6,0,1]),
 (209,3,[2,8,0,1,7]),
 (97,9,[9,0,1,5,6,7,8]),
 (97,5,[5,6,7,0,1]),
 (172,8,[7,9,0,1,2,8]),
 (172,5,[7,8,0,1,2]),
 (174,4,[11,0,1,2,3]),
 (173,4,[5,0,1]),
 (98,2,[3,0]),
 (146,2,[5,1,2]),
 (147,4,[5,2,3]),
 (99,12,[7,1,3]),
 (99,5,[4,1,3]),
 (150,14,[9,2,3]),
 (150,9,[8,2,3,5]),
 (150,3,[6,2,3,5]),
 (149,2,[5,0,1]),
 (100,23,[9,1,7,8]),
 (100,17,[7,1]),
 (100,8,[6,1,3,4,5]),
 (100,3,[3,4,1]),
 (151,4,[9,1,2,3,4]),
 (101,13,[7,1]),
 (101,4,[3,1]),
 (11,31,[13,1,7,8]),
 (11,26,[12,1,2,7,8,9,10]),
 (11,21,[11,1,2,7,8,9,10]),
 (11,15,[9,1,2,7,8]),
 (11,9,[6,1,2]),
 (11,4,[5,1,2]),
 (79,3,[5,6,2,3]),
 (51,3,[3,4,1]),
 (28,6,[3,5,1,4]),
 (28,3,[3,4,1]),
 (37,19,[12,3,9,10,11,54,55,56,61,62,63]),
 (37,16,[63,3,9,54,55,56,61,62]),
 (37,13,[56,3,54,55]),
 (37,5,[21,0,3,19,20]),
 (25,5,[20,0,6,18,19]),
 (44,3,[5,10,1,8,9]),
 (40,10,[4,5,0,3]),
 (40,4,[3,0]),
 (39,5,[7,0,1,6]),
 (43,6,[5,0,3,4]),
 (43,3,[3,4,0]),
 (45,3,[5,6,0,1]),
 (41,4,[5,0,1]),
 (169,4,[9,0,1,2,3,8]),
 (169,1,[8,0,1,2,3]),
 (170,33,[20,21,0,1,2,3,4,18,19,22]),
 (170,21,[17,0,14]),
 (170,15,[14,15,0,2,4]),
 (170,9,[13,0,10]),
 (170,3,[10,11,0,1,4]),
 (207,2,[10,11,0,2,4]),
 (225,1,[10,0,1,2,3]),
 (136,9,[7,8,0,1,2,6]),
 (136,7,[6,0,1,2]),
 (136,2,[7,8,0,1,2,6]),
 (85,2,[5,0,1]),
 (86,3,[3,4,0]),
 (38,4,[5,0,1]),
 (9,38,[1,149,0,147,148]),
 (9,24,[93,0,1,5,6,7,9,43,44,45,50,51,52,91,92]),
 (9,16,[10,71,0,1,5,6,7,8,9,43,44,45,50,51,52,69,70]),
 (9,12,[52,0,1,5,6,7,43,44,45,50,51]),
 (9,9,[45,0,1,5,43,44]),
 (7,6,[36,1,2,3,4,34,35]),
 (6,41,[178,3,15,16,19,176,177]),
 (6,31,[154,3,15,16,18,19,152,153]),
 (6,17,[89,1,3,12,87,88]),
 (6,8,[57,1,2,3,7,8,9,55,56]),
 (34,16,[61,3,11,43,44,45,59,60]),
 (34,12,[45,3,11,43,44]),
 (34,3,[8,19,1,2,3,17,18]),
 (77,3,[5,11,2,9,10]),
 (30,5,[23,1,2,13,14,15,21,22]),
 (30,2,[15,1,2,13,14]),
 (81,2,[8,0,1,7]),
 (163,2,[8,0,1,7]),
 (35,1,[2,3,0]),
 (129,5,[6,0,1,4,5]),
 (118,5,[5,6,0,1]),
 (133,9,[3,5,0,4]),
 (133,4,[3,0]),
 (196,4,[7,0,1,2,6]),
 (196,1,[6,0,1,2]),
 (89,3,[8,3,6,7]),
 (26,10,[6,31,1,2,9,15,16,17,30]),
 (26,5,[6,17,1,2,15,16]),
 (78,3,[14,3,5,7,12,13]),
 (78,8,[3,5,7,9,12,13,14]),
 (131,3,[5,12,0,2,10,11]),
 ]
def Da:List (Nat×Nat×List Nat):=[
 (22,11,[14]),
 (22,13,[10]),
 (22,9,[24]),
 (64,3,[10]),
 (64,5,[7]),
 (64,7,[15,16,1000000]),
 (20,8,[11,13,15,17,1000000]),
 (66,7,[17]),
 (66,1,[0]),
 (21,15,[14,15,1000000]),
 (21,17,[13,15,17]),
 (21,19,[9,11,13]),
 (21,22,[15]),
 (6,15,[12,13,1000000]),
 (6,24,[2,5,1000004,2000005]),
 (25,9,[12]),
 (34,18,[9]),
 (35,3,[13,15,1000000]),
 (37,10,[4]),
 (39,9,[21]),
 (43,9,[9,10,1000002,2000009]),
 (101,9,[12,13,14,15,1000003]),
 (169,6,[15,17,1000000]),
 (170,11,[15,17,1000000]),
 (170,23,[15,17,1000000]),
 (225,3,[21,23,1000000]),
 (196,6,[15,17,1000000]),
 ]
def FX:List (Nat×Nat×List (Nat×Nat)):=[
 (69,5,[(3,1)]),
 (61,7,[(7,1)]),
 (62,3,[(3,1)]),
 (44,3,[(5,13)]),
 (45,3,[(5,13)]),
 (43,3,[(3,13)]),
 (9,38,[(1,0)]),
 (26,5,[(6,1)]),
 (78,3,[(7,16)]),
 (131,3,[(5,1)]),
 ]
def y_:List (Nat×Nat×List (Nat×Nat))->Nat->Nat->List (Nat×Nat)
 |[],_,_=>[]
 |(f,b,l)::r,g,c=>match Nat.beq f g&&Nat.beq b c with
  |true=>l
  |false=>y_ r g c
def pN:List (List AV)->Option (List ByteArray)
 |[]=>some []
 |[.str s]::r=>match pN r with
  |some l=>some (s::l)
  |none=>none
 |_=>none
def qB(f:Nat)(xs:List AV):Option (SV×Fr):=match Nat.beq f 68,xs with
 |true,[.int .i64 n]=>match decide (-9223372036854775808<=n/\n<=9223372036854775807)with
  |true=>some (.t (.str ⟨(Lib.itoa n).toArray⟩),[])
  |false=>none
 |false,[.arr v,.str u]=>match Nat.beq f 70,pN v with
  |true,some l=>match decide ((Lib.join (l.map (·.data.toList)) u.data.toList).length<=140737488355328)with
   |true=>some (.t (.str ⟨(Lib.join (l.map (·.data.toList)) u.data.toList).toArray⟩),[])
   |false=>none
  |_,_=>none
 |_,_=>none
def qo:List (List AV)->Option (SV×Fr)
 |[]=>some (.t (.arr []),[])
 |e::u=>match cP 13 (e::u)&&Nat.ble u.length 999999 with
  |true=>some (.ls 0,[.row false false 13 (e::u)])
  |false=>none
def oO(sz:Nat):List (List AV)->Option (SV×Fr)
 |[]=>some (.t (.arr []),[])
 |e::u=>match cP sz (e::u)&&Nat.ble u.length 999999 with
  |true=>some (.ls 0,[.row false false sz (e::u)])
  |false=>none
def wR(f:Nat)(es:List (List AV)):Option (SV×Fr):=match Nat.beq f 82 with
 |true=>oO 1 es
 |false=>match Nat.beq f 119 with
  |true=>oO 16 es
  |false=>none
def oZ(f:Nat)(xs:List AV):Option (SV×Fr):=match xs with
 |[.str s,.str p]=>match Nat.beq f 106 with
  |true=>some (.aL [.t (.str ⟨(Lib.trimPrefix s.data.toList p.data.toList).toArray⟩),.t (.bool (Lib.hasPrefix s.data.toList p.data.toList))],[])
  |false=>match Nat.beq f 107&&decide (s.size<=9223372036854775807)with
   |true=>some (.aL [.t (.str ⟨(Lib.trimSuffix s.data.toList p.data.toList).toArray⟩),.t (.bool (Lib.hasSuffix s.data.toList p.data.toList))],[])
   |false=>match Nat.beq f 63&&(decide (p=⟨#[32]⟩)&&decide (s.size<=1048576))with
    |true=>some (.t (.arr ((Lib.splitB ⟨#[32]⟩ 0 (Lib.countB s ⟨#[32]⟩) s).map fun w=>[.str w])),[])
    |false=>match Nat.beq f 60&&decide (s.size<=1048576)with
     |true=>some (.aL [.t (.str ⟨(Lib.cut s.data.toList p.data.toList).1.toArray⟩),.t (.str ⟨(Lib.cut s.data.toList p.data.toList).2.1.toArray⟩),.t (.bool (Lib.cut s.data.toList p.data.toList).2.2)],[])
     |false=>none
 |[.str s]=>match Nat.beq f 108&&decide (s.size<=1048576)with
  |true=>match Lib.atoiAll s.data.toList with
   | .ok v=>some (.aL [.t (.int .i64 v),.t (.lit .nilIface)],[])
   |_=>some (.aL [.t (.int .i64 (mN s.data.toList)),.t .gI],[])
  |false=>none
 |[.arr u]=>match Nat.beq f 27 with
  |true=>qo u
  |false=>wR f u
 |_=>none
def D1:List (Nat×Nat):=[
 (118,0),
 (87,0),
 (136,0),
 (169,0),
 (170,0),
 (207,0),
 (225,0),
 (35,0),
 (132,0),
 (133,0),
 ]
def D0(f k:Nat):Bool:=D1.any fun p=>Nat.beq p.1 f&&Nat.beq p.2 k
def Ir:List Nat:=[
 (25),
 (34),
 (26),
 (78),
 (76),
 (117),
 (121),
 (126),
 (128),
 (131),
 ]
def Iq(f:Nat):Bool:=bi Ir f
def E4:List Nat:=[
 (68),
 (70),
 (106),
 (107),
 (63),
 (60),
 (108),
 (27),
 (82),
 (119),
 (132),
 ]
def rB(f:Nat):Bool:=match bi E4 f ||bi [0,1,2,60,63,68,70,105,106,107,108,109,112,113,114,115,152,153,154,155,156,157,158,159,160,161,162,166,176,177,178,179,180,181,182,183,184,185,186,187,188,189,190,191,192,193,194,195,205,206,210,211,212,213,214,215,216,217,218,219,222,228,229,230,231] f with
 |true=>false
 |false=>Nat.blt f 239
def ud(f:Nat)(args:List SV)(fr:Fr):Option (SV×Fr):=match Nat.beq f 132 with
 |true=>vI args fr
 |false=>none
def oY(f:Nat)(xs:List AV):Option (SV×Fr):=match qB f xs with
 |some r=>some r
 |none=>oZ f xs
noncomputable def ap:Cfg:={P:=Tryz.prog,ok:=rB,ext:=oY,lv:=uJ Fe,own:=y_ FX,eff:=E8 Da,hand:=D0,seq:=pI,exh:=ud,tre:=Iq}
def dG:bm ap.P 36=some (true,13):=by kernel_rfl
def oe:bm ap.P 34=some (true,4):=by kernel_rfl
def og:bm ap.P 101=some (true,2):=by kernel_rfl
def sb:bm ap.P 30=some (true,7):=by kernel_rfl
def sd:bm ap.P 69=some (true,6):=by kernel_rfl
def sf:bm ap.P 181=some (true,2):=by kernel_rfl
def si:bm ap.P 184=some (true,6):=by kernel_rfl
def sj:bm ap.P 178=some (true,2):=by kernel_rfl
def sk:bm ap.P 67=some (true,2):=by kernel_rfl
def sn:bm ap.P 135=some (true,3):=by kernel_rfl
def so:bm ap.P 63=some (true,5):=by kernel_rfl
def sq:bm ap.P 61=some (true,3):=by kernel_rfl
def ss:bm ap.P 92=some (true,2):=by kernel_rfl
def su:bm ap.P 65=some (true,3):=by kernel_rfl
def sw:bm ap.P 190=some (true,3):=by kernel_rfl
def sx:bm ap.P 241=some (true,4):=by kernel_rfl
def pO:bm ap.P 155=some (true,16):=by kernel_rfl
def sy:bm ap.P 32=some (true,3):=by kernel_rfl
def dB:iC ap.P 22=some (3,1,8):=by kernel_rfl
def dD:iC ap.P 24=some (9,1,16):=by kernel_rfl
def eT:da ap.P 22=some (3,1):=by kernel_rfl
def eU:da ap.P 51=some (22,1):=by kernel_rfl
section
variable {α:Type} {p:α->Bool} {xs:List α} {k:Nat} {x:α}
def sZ(h:xs[k]?=some x)(hp:p x=false):xs.all p=false:=by
 cases e:xs.all p with
 |false=>rfl
 |true=>rw[List.all_eq_true.1 e x (List.mem_of_getElem? h)]at hp;cases hp
def mK(h:(xs.take k).all p=true)(hx:xs[k]?=some x)(hp:p x=true):(xs.take (k+1)).all p=true:=by
 rw[List.take_add_one,List.all_append,h,hx];simp[hp]
def oG(h:(xs.take k).all p=true)(hk:xs.length<=k):xs.all p=true:=by rwa[List.take_of_length_le hk]at h
end
def aW(xs:List Int):List (List AV):=xs.map fun n=>[.int .i64 n]
def aF(xs:List Int):AV:=.arr (aW xs)
def bB{xs:List Int}{k:Nat}{n:Int}(h:xs[k]?=some n):(aW xs)[k]?=some [.int .i64 n]:=by simp[aW,h]
def bC(xs:List Int):(aW xs).length=xs.length:=by simp[aW]
def dW(l:List (List Int)):List (List AV):=l.map fun c=>[aF c]
def Cq(l:List (List Int)):AV:=.arr (dW l)
def qn{l:List (List Int)}{k:Nat}{c:List Int}(h:l[k]?=some c):(dW l)[k]?=some [aF c]:=by simp[dW,h]
set_option maxRecDepth 100000
def BG(n l h:Int):Cl ap 52 [.t (.int .i64 n),.t (.int .i64 l),.t (.int .i64 h)] [] (.t (.bool (decide (l<=n)&&decide (n<=h)))) []:=by
 refine Cl.aE rfl Tryz.func52 rfl rfl rfl ?_
 repeat'(first
|(with_reducible apply aa.seq)
|((with_reducible apply aa.text);(try case hm=>exact rfl))
|(with_reducible apply aa.ret)
|((with_reducible apply ab.aU)<;>intro u)
|((with_reducible apply ab.a_)<;>intro u)
|(with_reducible apply ab.af)
|((with_reducible apply ab.gf);(case hW=>exact rfl))
|((with_reducible apply ab.au);(case hW=>exact rfl);(case hx=>exact ac))
|((with_reducible apply ab.u0);(case hx=>exact ac))
|fail)
 all_goals(refine aS (.inr rfl) rfl ?_;first|(simp_all;done)|(simp_all;omega))
def sK{xs:List Int}(hl:xs.length<=140737488351232):Cl ap 46 [.t (aF xs)] [] (.t (.bool (cG xs))) []:=by
 refine Cl.aE rfl Tryz.func46 rfl rfl rfl ?_
 repeat'(first
|(with_reducible first|apply aa.seq|apply aa.block)
|((with_reducible apply aa.text);(try case hm=>exact rfl))
|(with_reducible apply ab.af)
|((with_reducible apply ab.u0);(case hx=>exact ac))
|fail)
 apply aa.aM
 case ho=>exact rfl
 case hp=>exact rfl
 case hl=>exact rfl
 case hs=>exact slt
 refine aI.ind (fun q:Nat=>[(7,.t (.int .i64 (q:Int)))]) (fun q=>q<=xs.length/\(xs.take q).all mg=true) (fun q=>xs.length - q) 0 rfl (by simp) (fun q u=>?_);obtain⟨h1,h2⟩:=u;rcases Nat.lt_or_ge q xs.length with h3|h3
 ·
  obtain⟨n,v⟩:=av h3;have hc:=bB v
  repeat'(first
|(with_reducible first|apply aa.seq|apply aa.block)
|((with_reducible apply aa.text);(try case hm=>exact rfl))
|(with_reducible first|apply aa.skip|apply aa.ret|apply ai|apply ay|apply aG|apply aO)
|((with_reducible apply aa.am);(case hc=>exact rfl))
|((with_reducible apply aa.ak);(case hc=>exact rfl))
|((with_reducible apply ab.ao);(case hp=>exact ae))
|((with_reducible apply ab.aU)<;>intro u)
|((with_reducible apply ab.a_)<;>intro u)
|(with_reducible apply ab.af)
|((with_reducible apply ab.gf);(case hW=>exact rfl))
|((with_reducible apply ab.au);(case hW=>exact rfl);(case hx=>exact ac))
|((with_reducible apply ab.u0);(case hx=>exact ac))
|fail)
  all_goals first
   |(refine aS (.inr rfl) rfl ?_)
   |(refine⟨q+1,rfl,rfl,⟨by omega,mK h2 v ?_⟩,by omega⟩)
  all_goals first
   |(rw[cG,sZ v (by simp[mg];omega)];rfl)
   |(simp[mg];omega)
 ·
  have h4:=oG h2 h3
  repeat'(first
|(with_reducible apply aa.seq)
|((with_reducible apply aa.text);(try case hm=>exact rfl))
|(with_reducible first|apply aa.exit|apply aa.ret|apply ai|apply aA|apply az)
|((with_reducible apply aa.ak);(case hc=>exact rfl))
|((with_reducible apply ab.aw);(case hp=>exact ae))
|((with_reducible apply ab.aU)<;>intro u)
|((with_reducible apply ab.a_)<;>intro u)
|(with_reducible apply ab.af)
|((with_reducible apply ab.gf);(case hW=>exact rfl))
|((with_reducible apply ab.au);(case hW=>exact rfl);(case hx=>exact ac))
|((with_reducible apply ab.u0);(case hx=>exact ac))
|fail)
  all_goals(refine aS (.inr rfl) rfl ?_;rw[cG,h4];simp;omega)
def xH{xs u:List Int}(hl:xs.length<=140737488351232)(hy:xs.length=u.length):Cl ap 168 [.t (aF xs),.t (aF u)] [] (.t (.bool (eY xs u))) []:=by
 refine Cl.aE rfl Tryz.func168 rfl rfl rfl ?_
 repeat'(first
|(with_reducible first|apply aa.seq|apply aa.block)
|((with_reducible apply aa.text);(try case hm=>exact rfl))
|(with_reducible apply ab.af)
|((with_reducible apply ab.u0);(case hx=>exact ac))
|fail)
 apply aa.aM
 case ho=>exact rfl
 case hp=>exact rfl
 case hl=>exact rfl
 case hs=>exact slt
 refine aI.ind (fun q:Nat=>[(8,.t (.int .i64 (q:Int)))]) (fun q=>q<=xs.length/\((xs.zip u).take q).all q9=true) (fun q=>xs.length - q) 0 rfl (by simp) (fun q y=>?_);obtain⟨h1,h2⟩:=y;rcases Nat.lt_or_ge q xs.length with h3|h3
 ·
  obtain⟨n,v⟩:=av h3;obtain⟨m,hm⟩:=av (xs:=u) (k:=q) (by omega);have hc:=bB v;have D:=bB hm;have z:=Jt v hm
  repeat'(first
|(with_reducible first|apply aa.seq|apply aa.block)
|((with_reducible apply aa.text);(try case hm=>exact rfl))
|((with_reducible apply aa.drawn);(case hm=>exact rfl))
|(with_reducible first|apply aa.skip|apply aa.ret|apply ai|apply ay|apply aG|apply aO)
|((with_reducible apply aa.am);(case hc=>exact rfl))
|((with_reducible apply aa.ak);(case hc=>exact rfl))
|((with_reducible apply ab.ao);(case hp=>exact ae))
|((with_reducible apply ab.aU)<;>intro y)
|(with_reducible apply ab.af)
|((with_reducible apply ab.u0);(case hx=>exact ac))
|fail)
  all_goals first
   |(refine aS (.inr rfl) rfl ?_)
   |(refine⟨q+1,rfl,rfl,⟨by omega,mK h2 z ?_⟩,by omega⟩)
  all_goals first
   |(rw[eY,sZ z (by simp[q9];omega)];done)
   |(simp[q9];omega)
 ·
  have h4:=oG h2 (by simp;omega)
  repeat'(first
|(with_reducible apply aa.seq)
|((with_reducible apply aa.text);(try case hm=>exact rfl))
|(with_reducible first|apply aa.exit|apply aa.ret|apply ai|apply aA|apply az)
|((with_reducible apply aa.ak);(case hc=>exact rfl))
|((with_reducible apply ab.aw);(case hp=>exact ae))
|(with_reducible apply ab.af)
|((with_reducible apply ab.u0);(case hx=>exact ac))
|fail)
  all_goals(refine aS (.inr rfl) rfl ?_;rw[eY,h4])
end Go.Proofs.YtgbfedgghjcdcaaGreatDoor
