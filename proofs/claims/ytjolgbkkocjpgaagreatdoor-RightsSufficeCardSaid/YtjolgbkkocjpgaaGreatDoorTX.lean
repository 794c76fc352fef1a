/- Law 52,the evaluator's configuration. No condition. -/
import Derived.Test.YtjolgbkkocjpgaaGreatDoorTD
import Derived.Test.YtjolgbkkocjpgaaGreatDoorTS
import Derived.Lib.ItoaNum
import Derived.Lib.Join
import Derived.Test.YtjolgbkkocjpgaaGreatDoorTP
import Derived.Test.YtjolgbkkocjpgaaGreatDoorTV
set_option linter.all false
namespace Go.Proofs.YtjolgbkkocjpgaaGreatDoor
open Go.RowKit
def zQ:List (Nat×Nat×List Nat)->Nat->Nat->Option (List Nat)
 |[],_,_=>none
 |(f,b,l)::r,g,c=>match Nat.beq f g&&Nat.beq b c with
  |true=>some l
  |false=>zQ r g c
def MC(t:List (Nat×Nat×List Nat))(f b:Nat):List Nat:=match zQ t f b with
 |some l=>l
 |none=>[]
def MQ:List (Nat×Nat×List Nat):=[
 (156,2,[7,0,5,6]),
 (32,2,[8,0,1,7]),
 (72,2,[8,0,1,7]),
 (14,4,[13,0,1,12]),
 (115,2,[3,0]),
 (52,4,[5,0,1]),
 (195,3,[1,0]),
 (195,1,[1,0]),
 (211,3,[6,0,1,5]),
 (196,15,[6,0]),
 (196,9,[6,0]),
 (196,3,[6,0,1]),
 (184,5,[4,5,0]),
 (124,2,[5,0,1]),
 (120,2,[3,0]),
 (121,5,[5,6,0,1]),
 (185,3,[2,8,0,1,7]),
 (85,9,[9,0,1,5,6,7,8]),
 (85,5,[5,6,7,0,1]),
 (162,8,[7,9,0,1,2,8]),
 (162,5,[7,8,0,1,2]),
 (164,4,[11,0,1,2,3]),
 (163,4,[5,0,1]),
 (86,2,[3,0]),
 (127,2,[5,1,2]),
 (128,4,[5,2,3]),
 (87,12,[7,1,3]),
 (87,5,[4,1,3]),
 (131,14,[9,2,3]),
 (131,9,[8,2,3,5]),
 (131,3,[6,2,3,5]),
 (130,2,[5,0,1]),
 (88,23,[9,1,7,8]),
 (88,17,[7,1]),
 (88,8,[6,1,3,4,5]),
 (88,3,[3,4,1]),
 (132,4,[9,1,2,3,4]),
 (89,13,[7,1]),
 (89,4,[3,1]),
 (27,31,[13,1,7,8]),
 (27,26,[12,1,2,7,8,9,10]),
 (27,21,[11,1,2,7,8,9,10]),
 (27,15,[9,1,2,7,8]),
 (27,9,[6,1,2]),
 (27,4,[5,1,2]),
 (91,3,[5,6,2,3]),
 (54,3,[3,4,1]),
 (55,6,[3,5,1,4]),
 (55,3,[3,4,1]),
 (23,4,[5,0,1]),
 (69,16,[61,3,11,43,44,45,59,60]),
 (69,12,[45,3,11,43,44]),
 (69,3,[8,19,1,2,3,17,18]),
 (106,3,[5,11,2,9,10]),
 (179,2,[8,0,1,7]),
 (25,1,[2,3,0]),
 (28,10,[51,2,3,49,50]),
 (28,4,[22,2,3,20,21]),
 (42,35,[13,2,3,5,11,12]),
 (42,28,[5,11,2,3]),
 (42,20,[5,9,2,3]),
 (42,12,[8,2,3]),
 (42,5,[5,6,2,3]),
 (73,5,[10,44,2,3,4,5,42,43]),
 (83,11,[10,13,2,3,4,5]),
 (83,5,[10,11,2,3,4,5]),
 (24,4,[13,0,1,12]),
 (82,5,[7,8,2,3,4]),
 (10,10,[11,49,2,3,7,31,32,33,47,48]),
 (10,5,[7,33,2,3,31,32]),
 (59,2,[5,0,1]),
 (61,2,[5,0,1]),
 (64,2,[5,0,1]),
 (78,9,[6,7,2,3]),
 (79,2,[5,1,2]),
 (117,2,[7,1,2,3]),
 (108,3,[9,16,2,3,4,14,15]),
 (109,3,[12,1,5,10,11]),
 (116,3,[5,6,2,3]),
 (160,3,[5,6,1,2]),
 (92,6,[25,0,5,6,7,23,24]),
 (93,3,[9,3,7,8]),
 (94,5,[7,16,0,2,14,15]),
 (95,4,[28,1,26,27]),
 (96,3,[3,10,1,8,9]),
 (97,9,[55,1,3,4,16,17,18,53,54]),
 (97,4,[18,1,16,17]),
 (98,21,[1,7,116,117,120]),
 (98,19,[117,1,7,116]),
 (98,14,[105,1,7,103,104]),
 (98,4,[20,1,18,19]),
 (101,2,[5,0,1]),
 (104,2,[8,0,1,7]),
 (140,3,[5,10,0,8,9]),
 (141,8,[8,7]),
 (143,3,[5,11,2,3,9,10]),
 (148,2,[11,0,1,9,10]),
 (149,11,[5,46,2,3,44,45]),
 (149,3,[5,13,2,3,11,12]),
 (180,3,[5,11,2,9,10]),
 (173,4,[13,0,1,12]),
 (178,2,[8,0,1,7]),
 (194,2,[11,1,9,10]),
 (186,2,[8,0,1,7]),
 (190,2,[8,0,1,7]),
 (192,10,[13,15,0,11,12,14]),
 (192,4,[27,0,2,3,25,26]),
 (193,2,[8,0,1,7]),
 (197,3,[7,1,5,6]),
 (198,6,[7,0,1,2,5,6]),
 (198,1,[4,0,1,2]),
 (199,2,[3,0]),
 (201,2,[5,0,1]),
 (204,2,[7,0,5,6]),
 (3,15,[14,13,63,64,65]),
 (3,12,[65,63,64]),
 (4,17,[2,95,3,5,6,7,15,16,19,93,94]),
 (6,13,[14,64,4,5,9,10,62,63]),
 (8,14,[11,5]),
 (8,9,[10,2,5,9]),
 (8,4,[9,2,5]),
 (9,11,[47,2,10,12,13,36,37,38,46]),
 (9,5,[10,38,2,36,37]),
 (37,10,[56,3,6,54,55]),
 (37,4,[31,3,4,5,6,29,30]),
 (45,9,[8,1,2,7]),
 (45,4,[7,1,2]),
 (46,4,[2,10,7,9]),
 (47,5,[4,0,3]),
 (47,2,[3,0]),
 (48,4,[2,10,7,9]),
 (15,7,[6,17,3,9,10,11,15,16]),
 (15,3,[3,11,9,10]),
 (20,5,[30,2,4,5,10,28,29]),
 (21,5,[10,11,2,3,4,5]),
 (22,9,[13,15,2,3,14]),
 (84,3,[3,4,0]),
 ]
def J3:List (Nat×Nat×List Nat):=[
 (69,18,[9]),
 (25,3,[13,15,1000000]),
 (89,9,[12,13,14,15,1000003]),
 (56,3,[7,8,1000000]),
 (92,16,[9]),
 (94,8,[9]),
 (98,8,[14,15,16,17,1000003]),
 (192,13,[9,1000000]),
 (141,9,[7,1000000]),
 (4,21,[6,7,1000000]),
 (5,3,[4,7,1000004,2000007]),
 (16,7,[5,8,1000000]),
 ]
def NK:List (Nat×Nat×List (Nat×Nat)):=[
 (94,5,[(7,2)]),
 (96,3,[(3,1)]),
 (108,3,[(9,4)]),
 (10,5,[(7,1)]),
 (9,5,[(10,1)]),
 (15,3,[(3,1)]),
 (37,4,[(3,4)]),
 (37,10,[(3,4)]),
 (21,5,[(10,0)]),
 ]
def Fg:List (Nat×Nat×List (Nat×Nat))->Nat->Nat->List (Nat×Nat)
 |[],_,_=>[]
 |(f,b,l)::r,g,c=>match Nat.beq f g&&Nat.beq b c with
  |true=>l
  |false=>Fg r g c
def pY(_:Nat)(_:List AV):Option (SV×Fr):=none
def K3:List (Nat×Nat):=[
 (25,0),
 (37,3),
 ]
def K2(f k:Nat):Bool:=K3.any fun p=>Nat.beq p.1 f&&Nat.beq p.2 k
def Ri:List Nat:=[
 (69),
 (9),
 (17),
 (20),
 (16),
 (15),
 (19),
 (21),
 (22),
 (46),
 (48),
 (51),
 (84),
 ]
def Rh(f:Nat):Bool:=bS Ri f
def Mw:List Nat:=[
 (18),
 (98),
 (170),
 (77),
 (40),
 (81),
 ]
def wK(f:Nat):Bool:=match bS Mw f ||bS [0,1,2,170,188,189,212,215,217,218] f with
 |true=>false
 |false=>Nat.blt f 220
def A9(_:Nat)(_:List AV):Option (List (List AV)×Bool):=none
def p9:List (List UInt8)->List AV->List AV->Bool
 |[],[],[]=>true
 |w::W,.str s::ks,.bool true::u=>decide (s=⟨w.toArray⟩)&&p9 W ks u
 |_,_,_=>false
def ph(l:List UInt8):List AV:=[.agg [.int .i64 (gJ (l.drop (aZ false l))).1,.int .i64 0,.int .i64 (aZ false l:Int),.int .i64 ((aZ false l+(gJ (l.drop (aZ false l))).2:Nat):Int)]]
def A8(f:Nat)(xs:List AV):Option (List (List AV)×Bool):=match Nat.beq f 198,xs with
 |true,[.tp [.str s],.tp [.mp ks u]]=>match p9 cZ ks u&&Nat.ble s.size 1000000 with
  |true=>some ([ph s.data.toList],false)
  |false=>none
 |_,_=>none
def PR(f:Nat)(xs:List AV):Option (List (List AV)×Bool):=match A8 f xs with
 |some r=>some r
 |none=>A9 f xs
def C_(_:Nat)(_:List SV)(_:Fr):Option (SV×Fr):=none
def tL:ByteArray:=⟨(Lib.join cZ [32]).toArray⟩
def oA:List (List AV)->Option (List Int)
 |[]=>some []
 |[.int .i64 x]::r=>match oA r with
  |some l=>some (x::l)
  |none=>none
 |_=>none
def oB:List (List AV)->Option (List Tb)
 |[]=>some []
 |[.str n,.int .i64 k,.arr c,.int .i64 a,.int .i64 b,.int .i64 f]::r=>match oA c,oB r with
  |some c,some l=>some (⟨n,k,c,a,b,f⟩::l)
  |_,_=>none
 |_=>none
def oz:List (List AV)->Option (List Hde)
 |[]=>some []
 |[.int .i64 a,.int .i64 b,.int .i64 c]::r=>match oz r with
  |some l=>some (⟨a,b,c⟩::l)
  |none=>none
 |_=>none
def kq(sz u:Nat)(es:List (List AV)):Option (SV×Fr):=match eP sz es&&Nat.ble (es.length*u) 140737488351232 with
 |true=>some (.ls 0,[.row false false sz es])
 |false=>none
def tF:List AV->Bool
 |[.int .i64 _]=>true
 |_=>false
def rH:List AV->Bool
 |[.arr xs]=>xs.all tF&&Nat.ble xs.length 1000000
 |_=>false
def sZ(es:List (List AV)):Option (SV×Fr):=match es.all rH&&Nat.ble es.length 1000000 with
 |true=>some (.lo 0 [],[.own false (.arr es)])
 |false=>none
def sX(es:List (List AV))(k r a:Int):Option (SV×Fr):=match es.all rH&&Nat.ble es.length 1000000&&decide (0<=k/\0<=r)with
 |true=>match es[k.toNat]? with
  |some [.arr xs]=>match xs[r.toNat]? with
   |some [.int .i64 n]=>some (.t (.arr (es.set k.toNat [.arr (xs.set r.toNat [.int .i64 (IntKind.i64.wrap (n+a))])])),[])
   |_=>none
  |_=>none
 |false=>none
def mH(f:Nat)(xs:List AV):Option (SV×Fr):=match xs with
 |[.str s]=>match Nat.beq f 212&&decide (s=tL)with
  |true=>some (.t (.arr (cZ.map fun w=>[.str ⟨w.toArray⟩])),[])
  |false=>none
 |[.str s,.int .u8 c]=>match Nat.beq f 215&&decide (0<=c/\c <256)with
  |true=>some (.t (.int .i64 (Lib.indexByte s.data.toList (UInt8.ofNat c.toNat))),[])
  |false=>none
 |[.int .u64 x,.int .u64 y]=>match Nat.beq f 170&&decide (0<=x/\x <18446744073709551616/\0<=y/\y <18446744073709551616)with
  |true=>some (.aJ [.t (.int .u64 ((x.toNat*y.toNat/18446744073709551616:Nat):Int)),.t (.int .u64 ((x.toNat*y.toNat %18446744073709551616:Nat):Int))],[])
  |false=>none
 |[.agg [.arr _,.arr tb,.arr _,.arr _,.arr _,.arr _,.arr hd,.arr _]]=>match Nat.beq f 98&&(Nat.ble tb.length 17592186044416&&Nat.ble hd.length 17592186044416)with
  |true=>match oB tb,oz hd with
   |some tb,some hd=>some (.t (.bool (gC ⟨[],tb,[],[],[],[],hd⟩)),[])
   |_,_=>none
  |false=>none
 |[.arr u]=>match Nat.beq f 40 with
  |true=>sZ u
  |false=>match Nat.beq f 77 with
   |true=>kq 1 8 u
   |false=>match Nat.beq f 18 with
    |true=>kq 13 120 u
    |false=>none
 |[.arr u,.int .i64 k,.int .i64 r,.int .i64 a]=>match Nat.beq f 81 with
  |true=>sX u k r a
  |false=>none
 |_=>none
def mG(f:Nat)(xs:List AV):Option (SV×Fr):=match pY f xs with
 |some r=>some r
 |none=>mH f xs
noncomputable def ah:Cfg:={P:=Tryz.prog,ok:=wK,ext:=mG,lv:=zQ MQ,own:=Fg NK,eff:=MC J3,hand:=K2,seq:=PR,exh:=C_,tre:=Rh}
def eV:bu ah.P 57=some (true,13):=by kernel_rfl
def nV:bu ah.P 55=some (true,4):=by kernel_rfl
def xC:bu ah.P 30=some (true,7):=by kernel_rfl
def xD:bu ah.P 107=some (true,6):=by kernel_rfl
def xE:bu ah.P 86=some (true,2):=by kernel_rfl
def xF:bu ah.P 88=some (true,6):=by kernel_rfl
def xG:bu ah.P 90=some (true,2):=by kernel_rfl
def xH:bu ah.P 105=some (true,2):=by kernel_rfl
def xI:bu ah.P 109=some (true,3):=by kernel_rfl
def xJ:bu ah.P 118=some (true,5):=by kernel_rfl
def xK:bu ah.P 116=some (true,3):=by kernel_rfl
def xL:bu ah.P 111=some (true,2):=by kernel_rfl
def xM:bu ah.P 123=some (true,3):=by kernel_rfl
def xN:bu ah.P 175=some (true,3):=by kernel_rfl
def xO:bu ah.P 218=some (true,4):=by kernel_rfl
def xP:bu ah.P 35=some (true,4):=by kernel_rfl
def xQ:bu ah.P 71=some (true,5):=by kernel_rfl
def xR:bu ah.P 83=some (true,6):=by kernel_rfl
def xS:bu ah.P 134=some (true,6):=by kernel_rfl
def xT:bu ah.P 53=some (true,3):=by kernel_rfl
def c7:eT ah.P 22=some (3,1,8):=by kernel_rfl
def c8:eT ah.P 24=some (9,1,16):=by kernel_rfl
def pR:fy ah.P 22=some (3,1):=by kernel_rfl
def pS:fy ah.P 38=some (22,1):=by kernel_rfl
section
variable {α:Type} {p:α->Bool} {xs:List α} {k:Nat} {x:α}
def BW(h:xs[k]?=some x)(hp:p x=false):xs.all p=false:=by
 cases e:xs.all p with
 |false=>rfl
 |true=>rw[List.all_eq_true.1 e x (List.mem_of_getElem? h)]at hp;cases hp
def qW(h:(xs.take k).all p=true)(hx:xs[k]?=some x)(hp:p x=true):(xs.take (k+1)).all p=true:=by
 rw[List.take_add_one,List.all_append,h,hx];simp[hp]
def sO(h:(xs.take k).all p=true)(hk:xs.length<=k):xs.all p=true:=by rwa[List.take_of_length_le hk]at h
end
def aE(xs:List Int):List (List AV):=xs.map fun n=>[.int .i64 n]
def ay(xs:List Int):AV:=.arr (aE xs)
def aW{xs:List Int}{k:Nat}{n:Int}(h:xs[k]?=some n):(aE xs)[k]?=some [.int .i64 n]:=by simp[aE,h]
def aO(xs:List Int):(aE xs).length=xs.length:=by simp[aE]
def aF(l:List (List Int)):List (List AV):=l.map fun c=>[ay c]
def fx(l:List (List Int)):AV:=.arr (aF l)
def iG{l:List (List Int)}{k:Nat}{c:List Int}(h:l[k]?=some c):(aF l)[k]?=some [ay c]:=by simp[aF,h]
set_option maxRecDepth 100000
def Ip(n l h:Int):Cl ah 157 [.t (.int .i64 n),.t (.int .i64 l),.t (.int .i64 h)] [] (.t (.bool (decide (l<=n)&&decide (n<=h)))) []:=by
 refine Cl.aq rfl Tryz.func157 rfl rfl rfl ?_;exact ae
def RE{xs:List Int}(hl:xs.length<=140737488351232):Cl ah 156 [.t (ay xs)] [] (.t (.bool (gK xs))) []:=by
 refine Cl.aq rfl Tryz.func156 rfl rfl rfl ?_;refine ak ?_;refine ax.ind (fun q:Nat=>[(7,.t (.int .i64 (q:Int)))]) (fun q=>q<=xs.length/\(xs.take q).all nN=true) (fun q=>xs.length - q) 0 rfl (by simp) (fun q u=>?_);obtain⟨h1,h2⟩:=u;rcases Nat.lt_or_ge q xs.length with h3|h3
 ·
  obtain⟨n,v⟩:=aj h3;have y:=aW v
  repeat'(first
|((with_reducible apply aa.aR);(case hp=>exact aA))
|((with_reducible apply aa.aX)<;>intro u)
|((with_reducible apply aa.bi)<;>intro u)
|(refine ar ?_)
|((with_reducible apply aa.aB);(case hW=>exact rfl);(case hx=>exact af))
|((with_reducible apply aa.u0);(case hx=>exact af))
|fail)
  all_goals first
   |(refine a_ (.inr rfl) rfl ?_)
   |(refine⟨q+1,rfl,rfl,⟨by omega,qW h2 v ?_⟩,by omega⟩)
  all_goals first
   |(rw[gK,BW v (by simp[nN];omega)];rfl)
   |(simp[nN];omega)
 ·
  have h4:=sO h2 h3
  repeat'(first
|((with_reducible apply aa.cQ);(case hp=>exact aA))
|((with_reducible apply aa.aX)<;>intro u)
|((with_reducible apply aa.bi)<;>intro u)
|(refine ar ?_)
|((with_reducible apply aa.aB);(case hW=>exact rfl);(case hx=>exact af))
|((with_reducible apply aa.u0);(case hx=>exact af))
|fail)
  all_goals(refine a_ (.inr rfl) rfl ?_;rw[gK,h4];simp;omega)
def vM(f:Nat)(xs:List AV):Option (SV×Fr):=match Nat.beq f 98 with
 |true=>none
 |false=>mG f xs
noncomputable abbrev dX:Cfg:=ah.low vM
end Go.Proofs.YtjolgbkkocjpgaaGreatDoor
