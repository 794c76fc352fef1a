/- Law 52,the evaluator's configuration. No condition. -/
import Derived.Test.YtcgdbhlnkificaaGreatDoorTD
import Derived.Test.YtcgdbhlnkificaaGreatDoorTS
import Derived.Lib.ItoaNum
import Derived.Lib.Join
import Derived.Test.YtcgdbhlnkificaaGreatDoorTP
import Derived.Test.YtcgdbhlnkificaaGreatDoorTV
set_option linter.all false
namespace Go.Proofs.YtcgdbhlnkificaaGreatDoor
open Go.RowKit
def yP:List (Nat×Nat×List Nat)->Nat->Nat->Option (List Nat)
 |[],_,_=>none
 |(f,b,l)::r,g,c=>match Nat.beq f g&&Nat.beq b c with
  |true=>some l
  |false=>yP r g c
def K8(t:List (Nat×Nat×List Nat))(f b:Nat):List Nat:=match yP t f b with
 |some l=>l
 |none=>[]
def Lx:List (Nat×Nat×List Nat):=[
 (30,2,[7,0,5,6]),
 (114,2,[7,0,5,6]),
 (169,2,[8,0,1,7]),
 (77,8,[26,0,5,18,19,20,24,25]),
 (77,5,[20,0,5,18,19]),
 (90,2,[8,0,1,7]),
 (153,4,[13,0,1,12]),
 (125,2,[3,0]),
 (89,4,[5,0,1]),
 (207,3,[1,0]),
 (207,1,[1,0]),
 (217,3,[6,0,1,5]),
 (208,15,[6,0]),
 (208,9,[6,0]),
 (208,3,[6,0,1]),
 (194,5,[4,5,0]),
 (158,2,[5,0,1]),
 (154,2,[3,0]),
 (155,5,[5,6,0,1]),
 (195,3,[2,8,0,1,7]),
 (115,9,[9,0,1,5,6,7,8]),
 (115,5,[5,6,7,0,1]),
 (183,8,[7,9,0,1,2,8]),
 (183,5,[7,8,0,1,2]),
 (185,4,[11,0,1,2,3]),
 (184,4,[5,0,1]),
 (116,2,[3,0]),
 (161,2,[5,1,2]),
 (162,4,[5,2,3]),
 (117,12,[7,1,3]),
 (117,5,[4,1,3]),
 (165,14,[9,2,3]),
 (165,9,[8,2,3,5]),
 (165,3,[6,2,3,5]),
 (164,2,[5,0,1]),
 (118,23,[9,1,7,8]),
 (118,17,[7,1]),
 (118,8,[6,1,3,4,5]),
 (118,3,[3,4,1]),
 (166,4,[9,1,2,3,4]),
 (119,13,[7,1]),
 (119,4,[3,1]),
 (36,31,[13,1,7,8]),
 (36,26,[12,1,2,7,8,9,10]),
 (36,21,[11,1,2,7,8,9,10]),
 (36,15,[9,1,2,7,8]),
 (36,9,[6,1,2]),
 (36,4,[5,1,2]),
 (121,3,[5,6,2,3]),
 (82,3,[3,4,1]),
 (83,6,[3,5,1,4]),
 (83,3,[3,4,1]),
 (55,19,[12,3,9,10,11,54,55,56,61,62,63]),
 (55,16,[63,3,9,54,55,56,61,62]),
 (55,13,[56,3,54,55]),
 (55,5,[21,0,3,19,20]),
 (31,5,[20,0,6,18,19]),
 (33,3,[5,10,1,8,9]),
 (41,4,[5,0,1]),
 (25,1,[2,3,0]),
 (27,10,[51,2,3,49,50]),
 (27,4,[22,2,3,20,21]),
 (39,35,[13,2,3,5,11,12]),
 (39,28,[5,11,2,3]),
 (39,20,[5,9,2,3]),
 (39,12,[8,2,3]),
 (39,5,[5,6,2,3]),
 (91,5,[10,44,2,3,4,5,42,43]),
 (96,11,[10,13,2,3,4,5]),
 (96,5,[10,11,2,3,4,5]),
 (24,4,[13,0,1,12]),
 (29,6,[26,2,3,4,24,25]),
 (59,2,[5,0,1]),
 (61,2,[5,0,1]),
 (64,2,[5,0,1]),
 (86,9,[6,7,2,3]),
 (87,2,[5,1,2]),
 (127,2,[7,1,2,3]),
 (124,3,[9,16,2,3,4,14,15]),
 (73,3,[12,1,5,10,11]),
 (126,3,[5,6,2,3]),
 (168,3,[5,6,1,2]),
 (98,6,[25,0,5,6,7,23,24]),
 (99,3,[9,3,7,8]),
 (100,5,[7,16,0,2,14,15]),
 (101,4,[28,1,26,27]),
 (102,3,[3,10,1,8,9]),
 (103,9,[55,1,3,4,16,17,18,53,54]),
 (103,4,[18,1,16,17]),
 (104,21,[1,7,116,117,120]),
 (104,19,[117,1,7,116]),
 (104,14,[105,1,7,103,104]),
 (104,4,[20,1,18,19]),
 (106,2,[5,0,1]),
 (109,2,[8,0,1,7]),
 (138,3,[5,10,0,8,9]),
 (139,8,[8,7]),
 (141,3,[5,11,2,3,9,10]),
 (146,2,[11,0,1,9,10]),
 (147,11,[5,46,2,3,44,45]),
 (147,3,[5,13,2,3,11,12]),
 (187,3,[5,11,2,9,10]),
 (176,4,[13,0,1,12]),
 (181,2,[8,0,1,7]),
 (196,2,[11,1,9,10]),
 (188,2,[8,0,1,7]),
 (190,2,[8,0,1,7]),
 (192,10,[13,15,0,11,12,14]),
 (192,4,[27,0,2,3,25,26]),
 (193,2,[8,0,1,7]),
 (197,3,[7,1,5,6]),
 (198,6,[7,0,1,2,5,6]),
 (198,1,[4,0,1,2]),
 (199,2,[3,0]),
 (201,2,[5,0,1]),
 (204,2,[7,0,5,6]),
 (10,14,[11,5]),
 (10,9,[10,2,5,9]),
 (10,4,[9,2,5]),
 (12,9,[10,33,2,3,4,8,25,26,32]),
 (12,5,[8,26,2,3,4,25]),
 (15,9,[49,4,5,6,33,34,35,47,48]),
 (15,4,[35,4,5,6,33,34]),
 (44,4,[13,29,3,4,27,28]),
 (21,5,[25,2,5,6,12,23,24]),
 (11,5,[4,0,3]),
 (11,2,[3,0]),
 (13,13,[12,13,2,3,4,8,9,10,11]),
 (13,9,[10,11,2,3,4,8,9]),
 (13,5,[8,9,2,3,4]),
 (14,4,[5,0,1]),
 (16,14,[11,2,3,4,5,9,10]),
 (16,9,[10,2,3,4,5,9]),
 (16,4,[9,2,3,4,5]),
 (53,4,[11,12,9]),
 (23,8,[14,16,3,4,15]),
 (20,12,[13,2,7,12]),
 (22,5,[12,13,2,4,5,6]),
 (38,8,[8,7]),
 (9,7,[3,41,1,2]),
 (4,35,[3,167,2,4,6,7,15,26,118,119,120,166]),
 (4,29,[3,120,2,4,6,7,15,118,119]),
 (4,20,[22,105,2,3,4,6,7,13,15,91,92,93,97,98,99,103,104]),
 (4,16,[99,2,3,4,6,7,13,15,91,92,93,97,98]),
 (4,13,[93,2,3,4,6,7,13,15,91,92]),
 (6,15,[16,77,5,6,11,75,76]),
 (7,15,[53,2,3,9,11,42,43,44,51,52]),
 (7,12,[44,2,3,9,42,43]),
 (8,28,[20,123,3,109,110,111,115,116,117,121,122]),
 (8,24,[117,3,109,110,111,115,116]),
 (8,21,[111,3,109,110]),
 (8,13,[3,76,2,4,5,9,74,75]),
 (26,8,[41,2,3,4,8,9,39,40]),
 ]
def IU:List (Nat×Nat×List Nat):=[
 (31,9,[12]),
 (25,3,[13,15,1000000]),
 (55,10,[4]),
 (119,9,[12,13,14,15,1000003]),
 (56,3,[7,8,1000000]),
 (98,16,[9]),
 (100,8,[9]),
 (104,8,[14,15,16,17,1000003]),
 (192,13,[9,1000000]),
 (139,9,[7,1000000]),
 (38,9,[7,1000000]),
 (5,3,[3,6,1000004,2000006]),
 (48,2,[14]),
 ]
def Mp:List (Nat×Nat×List (Nat×Nat)):=[
 (100,5,[(7,2)]),
 (102,3,[(3,1)]),
 (124,3,[(9,4)]),
 (33,3,[(5,13)]),
 (12,5,[(8,1)]),
 (12,9,[(10,1)]),
 (44,4,[(13,4)]),
 (22,5,[(12,0)]),
 (8,13,[(3,0)]),
 ]
def Es:List (Nat×Nat×List (Nat×Nat))->Nat->Nat->List (Nat×Nat)
 |[],_,_=>[]
 |(f,b,l)::r,g,c=>match Nat.beq f g&&Nat.beq b c with
  |true=>l
  |false=>Es r g c
def sJ(_:Nat)(_:List AV):Option (SV×Fr):=none
def JM:List (Nat×Nat):=[
 (25,0),
 (47,1),
 ]
def JL(f k:Nat):Bool:=JM.any fun p=>Nat.beq p.1 f&&Nat.beq p.2 k
def P2:List Nat:=[
 (12),
 (18),
 (21),
 (17),
 (44),
 (13),
 (20),
 (22),
 (23),
 (53),
 (33),
 ]
def P1(f:Nat):Bool:=bI P2 f
def K2:List Nat:=[
 (19),
 (104),
 (85),
 (94),
 (46),
 (52),
 ]
def vS(f:Nat):Bool:=match bI K2 f ||bI [0,1,2,85,122,123,209,212,218,219,221] f with
 |true=>false
 |false=>Nat.blt f 223
def Ai(_:Nat)(_:List AV):Option (List (List AV)×Bool):=none
def px:List (List UInt8)->List AV->List AV->Bool
 |[],[],[]=>true
 |w::W,.str s::ks,.bool true::u=>decide (s=⟨w.toArray⟩)&&px W ks u
 |_,_,_=>false
def oV(l:List UInt8):List AV:=[.agg [.int .i64 (gD (l.drop (aV false l))).1,.int .i64 0,.int .i64 (aV false l:Int),.int .i64 ((aV false l+(gD (l.drop (aV false l))).2:Nat):Int)]]
def Ah(f:Nat)(xs:List AV):Option (List (List AV)×Bool):=match Nat.beq f 198,xs with
 |true,[.tp [.str s],.tp [.mp ks u]]=>match px cQ ks u&&Nat.ble s.size 1000000 with
  |true=>some ([oV s.data.toList],false)
  |false=>none
 |_,_=>none
def Om(f:Nat)(xs:List AV):Option (List (List AV)×Bool):=match Ah f xs with
 |some r=>some r
 |none=>Ai f xs
def Cv(_:Nat)(_:List SV)(_:Fr):Option (SV×Fr):=none
def ta:ByteArray:=⟨(Lib.join cQ [32]).toArray⟩
def nZ:List (List AV)->Option (List Int)
 |[]=>some []
 |[.int .i64 x]::r=>match nZ r with
  |some l=>some (x::l)
  |none=>none
 |_=>none
def QZ:List (List AV)->Option (List Tb)
 |[]=>some []
 |[.str n,.int .i64 k,.arr c,.int .i64 a,.int .i64 b,.int .i64 f]::r=>match nZ c,QZ r with
  |some c,some l=>some (⟨n,k,c,a,b,f⟩::l)
  |_,_=>none
 |_=>none
def nY:List (List AV)->Option (List Hde)
 |[]=>some []
 |[.int .i64 a,.int .i64 b,.int .i64 c]::r=>match nY r with
  |some l=>some (⟨a,b,c⟩::l)
  |none=>none
 |_=>none
def mi(sz u:Nat)(es:List (List AV)):Option (SV×Fr):=match fu sz es&&Nat.ble (es.length*u) 140737488351232 with
 |true=>some (.ls 0,[.row false false sz es])
 |false=>none
def vq:List AV->Bool
 |[.int .i64 _]=>true
 |_=>false
def sX:List AV->Bool
 |[.arr xs]=>xs.all vq&&Nat.ble xs.length 1000000
 |_=>false
def vt:List AV->Bool
 |[.arr xs]=>xs.all sX&&Nat.ble xs.length 1000000
 |_=>false
def sx(es:List (List AV)):Option (SV×Fr):=match es.all vt&&Nat.ble es.length 1000000 with
 |true=>some (.lo 0 [],[.own false (.arr es)])
 |false=>none
def Q8(es:List (List AV))(i k r t a:Int):Option (SV×Fr):=match es.all vt&&Nat.ble es.length 1000000&&decide ((0<=i/\0<=k)/\0<=r/\0<=t)with
 |true=>match es[i.toNat]? with
  |some [.arr xs]=>match xs[k.toNat]? with
   |some [.arr u]=>match u[r.toNat]? with
    |some [.int .i64 n]=>match(u.set r.toNat [.int .i64 (IntKind.i64.wrap (n - a))])[t.toNat]? with
     |some [.int .i64 v]=>some (.t (.arr (es.set i.toNat [.arr (xs.set k.toNat [.arr ((u.set r.toNat [.int .i64 (IntKind.i64.wrap (n - a))]).set t.toNat [.int .i64 (IntKind.i64.wrap (v+a))])])])),[])
     |_=>none
    |_=>none
   |_=>none
  |_=>none
 |false=>none
def mo(f:Nat)(xs:List AV):Option (SV×Fr):=match xs with
 |[.str s]=>match Nat.beq f 209&&decide (s=ta)with
  |true=>some (.t (.arr (cQ.map fun w=>[.str ⟨w.toArray⟩])),[])
  |false=>none
 |[.str s,.int .u8 c]=>match Nat.beq f 212&&decide (0<=c/\c <256)with
  |true=>some (.t (.int .i64 (Lib.indexByte s.data.toList (UInt8.ofNat c.toNat))),[])
  |false=>none
 |[.int .u64 x,.int .u64 y]=>match Nat.beq f 85&&decide (0<=x/\x <18446744073709551616/\0<=y/\y <18446744073709551616)with
  |true=>some (.aN [.t (.int .u64 ((x.toNat*y.toNat/18446744073709551616:Nat):Int)),.t (.int .u64 ((x.toNat*y.toNat %18446744073709551616:Nat):Int))],[])
  |false=>none
 |[.agg [.arr _,.arr tb,.arr _,.arr _,.arr _,.arr _,.arr hd,.arr _]]=>match Nat.beq f 104&&(Nat.ble tb.length 17592186044416&&Nat.ble hd.length 17592186044416)with
  |true=>match QZ tb,nY hd with
   |some tb,some hd=>some (.t (.bool (gh ⟨[],tb,[],[],[],[],hd⟩)),[])
   |_,_=>none
  |false=>none
 |[.arr u]=>match Nat.beq f 46 with
  |true=>sx u
  |false=>match Nat.beq f 94 with
   |true=>mi 1 8 u
   |false=>match Nat.beq f 19 with
    |true=>mi 13 120 u
    |false=>none
 |[.arr u,.agg [.int .i64 r,.int .i64 _,.int .i64 _,.arr _,.int .i64 _,.int .i64 _,.int .i64 _,.int .i64 i,.int .i64 k,.int .i64 a,.int .i64 t,.int .i64 _,.int .i64 _]]=>match Nat.beq f 52 with
  |true=>Q8 u i k r t a
  |false=>none
 |_=>none
def qN(f:Nat)(xs:List AV):Option (SV×Fr):=match sJ f xs with
 |some r=>some r
 |none=>mo f xs
noncomputable def aj:Cfg:={P:=Tryz.prog,ok:=vS,ext:=qN,lv:=yP Lx,own:=Es Mp,eff:=K8 IU,hand:=JL,seq:=Om,exh:=Cv,tre:=P1}
def eD:bn aj.P 53=some (true,13):=by kernel_rfl
def qb:bn aj.P 51=some (true,4):=by kernel_rfl
def qc:bn aj.P 134=some (true,2):=by kernel_rfl
def wG:bn aj.P 30=some (true,7):=by kernel_rfl
def wH:bn aj.P 147=some (true,6):=by kernel_rfl
def wI:bn aj.P 109=some (true,2):=by kernel_rfl
def wJ:bn aj.P 111=some (true,6):=by kernel_rfl
def wK:bn aj.P 149=some (true,2):=by kernel_rfl
def wL:bn aj.P 145=some (true,2):=by kernel_rfl
def wM:bn aj.P 114=some (true,3):=by kernel_rfl
def wN:bn aj.P 131=some (true,5):=by kernel_rfl
def wO:bn aj.P 129=some (true,3):=by kernel_rfl
def wP:bn aj.P 153=some (true,2):=by kernel_rfl
def wQ:bn aj.P 155=some (true,3):=by kernel_rfl
def wR:bn aj.P 208=some (true,3):=by kernel_rfl
def wS:bn aj.P 235=some (true,4):=by kernel_rfl
def wT:bn aj.P 35=some (true,4):=by kernel_rfl
def wU:bn aj.P 80=some (true,5):=by kernel_rfl
def wV:bn aj.P 106=some (true,6):=by kernel_rfl
def wW:bn aj.P 124=some (true,6):=by kernel_rfl
def wX:bn aj.P 49=some (true,3):=by kernel_rfl
def ec:eQ aj.P 22=some (3,1,8):=by kernel_rfl
def ed:eQ aj.P 24=some (9,1,16):=by kernel_rfl
def na:eZ aj.P 22=some (3,1):=by kernel_rfl
def nc:eZ aj.P 55=some (22,1):=by kernel_rfl
section
variable {α:Type} {p:α->Bool} {xs:List α} {k:Nat} {x:α}
def Hf(h:xs[k]?=some x)(hp:p x=false):xs.all p=false:=by
 cases e:xs.all p with
 |false=>rfl
 |true=>rw[List.all_eq_true.1 e x (List.mem_of_getElem? h)]at hp;cases hp
def sj(h:(xs.take k).all p=true)(hx:xs[k]?=some x)(hp:p x=true):(xs.take (k+1)).all p=true:=by
 rw[List.take_add_one,List.all_append,h,hx];simp[hp]
def uy(h:(xs.take k).all p=true)(hk:xs.length<=k):xs.all p=true:=by rwa[List.take_of_length_le hk]at h
end
def aL(xs:List Int):List (List AV):=xs.map fun n=>[.int .i64 n]
def aD(xs:List Int):AV:=.arr (aL xs)
def bg{xs:List Int}{k:Nat}{n:Int}(h:xs[k]?=some n):(aL xs)[k]?=some [.int .i64 n]:=by simp[aL,h]
def aW(xs:List Int):(aL xs).length=xs.length:=by simp[aL]
def bA(l:List (List Int)):List (List AV):=l.map fun c=>[aD c]
def jp(l:List (List Int)):AV:=.arr (bA l)
def lf{l:List (List Int)}{k:Nat}{c:List Int}(h:l[k]?=some c):(bA l)[k]?=some [aD c]:=by simp[bA,h]
set_option maxRecDepth 100000
def Hr(n l h:Int):Cl aj 110 [.t (.int .i64 n),.t (.int .i64 l),.t (.int .i64 h)] [] (.t (.bool (decide (l<=n)&&decide (n<=h)))) []:=by
 refine Cl.ap rfl Tryz.func110 rfl rfl rfl ?_;exact ah
def Qk{xs:List Int}(hl:xs.length<=140737488351232):Cl aj 30 [.t (aD xs)] [] (.t (.bool (je xs))) []:=by
 refine Cl.ap rfl Tryz.func30 rfl rfl rfl ?_;refine aq ?_;refine az.ind (fun q:Nat=>[(7,.t (.int .i64 (q:Int)))]) (fun q=>q<=xs.length/\(xs.take q).all rq=true) (fun q=>xs.length - q) 0 rfl (by simp) (fun q u=>?_);obtain⟨h1,h2⟩:=u;rcases Nat.lt_or_ge q xs.length with h3|h3
 ·
  obtain⟨n,v⟩:=am h3;have y:=bg v
  repeat'(first
|((with_reducible apply aa.aF);(case hp=>exact ak))
|((with_reducible apply aa.aX)<;>intro u)
|((with_reducible apply aa.bi)<;>intro u)
|(refine aw ?_)
|((with_reducible apply aa.av);(case hW=>exact rfl);(case hx=>exact ae))
|((with_reducible apply aa.u0);(case hx=>exact ae))
|fail)
  all_goals first
   |(refine ba (.inr rfl) rfl ?_)
   |(refine⟨q+1,rfl,rfl,⟨by omega,sj h2 v ?_⟩,by omega⟩)
  all_goals first
   |(rw[je,Hf v (by simp[rq];omega)];rfl)
   |(simp[rq];omega)
 ·
  have h4:=uy h2 h3
  repeat'(first
|((with_reducible apply aa.bk);(case hp=>exact ak))
|((with_reducible apply aa.aX)<;>intro u)
|((with_reducible apply aa.bi)<;>intro u)
|(refine aw ?_)
|((with_reducible apply aa.av);(case hW=>exact rfl);(case hx=>exact ae))
|((with_reducible apply aa.u0);(case hx=>exact ae))
|fail)
  all_goals(refine ba (.inr rfl) rfl ?_;rw[je,h4];simp;omega)
def Q_(f:Nat)(xs:List AV):Option (SV×Fr):=match Nat.beq f 104 with
 |true=>none
 |false=>qN f xs
noncomputable abbrev dP:Cfg:=aj.low Q_
end Go.Proofs.YtcgdbhlnkificaaGreatDoor
